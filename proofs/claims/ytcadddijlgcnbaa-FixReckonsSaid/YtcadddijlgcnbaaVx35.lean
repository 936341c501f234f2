/- What the functions of this seat answer, as plain Lean functions, and that the calls come to just that (written by a program of this repo, over the kit's printer; Lean checks it). -/
import Derived.Test.YtcadddijlgcnbaaVx0
import Derived.Test.YtcadddijlgcnbaaVx2
import Derived.Test.YtcadddijlgcnbaaVx3
import Derived.Test.YtcadddijlgcnbaaVx9
import Derived.Test.YtcadddijlgcnbaaVx11
import Derived.Test.YtcadddijlgcnbaaVx12
import Derived.Test.YtcadddijlgcnbaaVx19
import Derived.Test.YtcadddijlgcnbaaVx28
import Derived.Test.YtcadddijlgcnbaaVx29
import Derived.Test.YtcadddijlgcnbaaVx31
import Derived.Test.YtcadddijlgcnbaaVx32
import Derived.Test.YtcadddijlgcnbaaVx33
import Derived.Test.YtcadddijlgcnbaaVx34
namespace Go.Proofs.Ytcadddijlgcnbaa.V
open Go.RowKit Go.Proofs.YtcadddijlgcnbaaW.PrintWords Go.Proofs.YtcadddijlgcnbaaW.PrintLast Go.Proofs.YtcadddijlgcnbaaW.PrintMore
attribute [local go_sem] max2_int min2_int max_two min_two max_three min_three max_four min_four   -- for this text's walks alone
set_option linter.unusedVariables false
set_option linter.unusedSimpArgs false

/-! ### valancelaw01_FixReckons: function 8 -/
def valancelaw01_FixReckons.j0 : Nat → Int → Int → Int → Bool → Bool → Option (Bool)
  | 0, _, _, _, _, _ => none
  | k + 1, x0, x1, x2, x7, x8 => if x7 = true then (if x8 = true then ((fix_Div.f x0 x1).bind fun t347 => ((valanceref01_Div.f x0 x1).bind fun t348 => (if t347 = t348 then ((fix_Part.f x0 x1).bind fun t349 => ((valanceref01_Part.f x0 x1).bind fun t350 => (if t349 = t350 then ((fix_Clamp.f x0 x1 x2).bind fun t351 => ((valanceref01_Clamp.f k x0 x1 x2).bind fun t352 => (some (t351 == t352)))) else (none)))) else (none)))) else (none)) else (none)
def valancelaw01_FixReckons.f (k : Nat) (a0 : Int) (a1 : Int) (a2 : Int) : Option (Bool) := (valancelaw01_works.f k).bind fun t338 => (if t338 = true then ((fix_Cut.f a0).bind fun t339 => ((valanceref01_Cut.f a0).bind fun t340 => (if t339 = t340 then ((fix_Add.f a0 a1).bind fun t341 => ((valanceref01_Add.f a0 a1).bind fun t342 => (if t341 = t342 then ((fix_Sub.f a0 a1).bind fun t343 => ((valanceref01_Sub.f a0 a1).bind fun t344 => (if t343 = t344 then ((fix_Mul.f k a0 a1).bind fun t345 => ((valanceref01_Mul.f a0 a1).bind fun t346 => (valancelaw01_FixReckons.j0 k a0 a1 a2 t338 (t345 == t346)))) else (none)))) else (none)))) else (none)))) else (none))
theorem valancelaw01_FixReckons.mono_l : ∀ k, (∀ y0 y1 y2 y3 y4, LeO (valancelaw01_FixReckons.j0 k y0 y1 y2 y3 y4) (valancelaw01_FixReckons.j0 (k + 1) y0 y1 y2 y3 y4))
  | 0 => fun _ _ _ _ _ r h => by simp [valancelaw01_FixReckons.j0] at h
  | k + 1 => by
    have ih0 := valancelaw01_FixReckons.mono_l k
    · intro y0 y1 y2 y3 y4
      unfold valancelaw01_FixReckons.j0
      repeat' first
      | (with_reducible exact ih0 _ _ _ _ _)
      | (with_reducible exact fix_Mul.mono _ _ _)
      | (with_reducible exact valancelaw01_works.mono _)
      | (with_reducible exact valanceref01_Clamp.mono _ _ _ _)
      | (with_reducible exact LeO.refl _)
      | (with_reducible exact LeO.none _)
      | (with_reducible refine LeO.ite ?_ ?_)
      | (with_reducible refine LeO.bind ?_ (fun _ => ?_))
      | exact ih0 _ _ _ _ _
      | exact fix_Mul.mono _ _ _
      | exact valancelaw01_works.mono _
      | exact valanceref01_Clamp.mono _ _ _ _
      | exact LeO.none _
      | refine LeO.ite ?_ ?_
      | refine LeO.bind ?_ (fun _ => ?_)
theorem valancelaw01_FixReckons.mono : ∀ a0 a1 a2 k, LeO (valancelaw01_FixReckons.f k a0 a1 a2) (valancelaw01_FixReckons.f (k + 1) a0 a1 a2) := by
  intro a0 a1 a2 k
  have ih0 := valancelaw01_FixReckons.mono_l k
  unfold valancelaw01_FixReckons.f
  repeat' first
      | (with_reducible exact ih0 _ _ _ _ _)
      | (with_reducible exact fix_Mul.mono _ _ _)
      | (with_reducible exact valancelaw01_works.mono _)
      | (with_reducible exact valanceref01_Clamp.mono _ _ _ _)
      | (with_reducible exact LeO.refl _)
      | (with_reducible exact LeO.none _)
      | (with_reducible refine LeO.ite ?_ ?_)
      | (with_reducible refine LeO.bind ?_ (fun _ => ?_))
      | exact ih0 _ _ _ _ _
      | exact fix_Mul.mono _ _ _
      | exact valancelaw01_works.mono _
      | exact valanceref01_Clamp.mono _ _ _ _
      | exact LeO.none _
      | refine LeO.ite ?_ ?_
      | refine LeO.bind ?_ (fun _ => ?_)
set_option maxHeartbeats 8000000 in
set_option maxRecDepth 100000 in
theorem valancelaw01_FixReckons.calls (k : Nat) (a0 : Int) (a1 : Int) (a2 : Int) (r : Bool) (w : World) (h : valancelaw01_FixReckons.f k a0 a1 a2 = some r) :
    Calls Try.prog 8 #[.int .i64 a0, .int .i64 a1, .int .i64 a2] w fun e w' => e = .returned (.bool r) ∧ Below w.heap.size w w' := by
  have HB := Aside0.mk (Below.refl w.heap.size w)
  have H : ((valancelaw01_works.f k).bind fun t338 => (if t338 = true then ((fix_Cut.f a0).bind fun t339 => ((valanceref01_Cut.f a0).bind fun t340 => (if t339 = t340 then ((fix_Add.f a0 a1).bind fun t341 => ((valanceref01_Add.f a0 a1).bind fun t342 => (if t341 = t342 then ((fix_Sub.f a0 a1).bind fun t343 => ((valanceref01_Sub.f a0 a1).bind fun t344 => (if t343 = t344 then ((fix_Mul.f k a0 a1).bind fun t345 => ((valanceref01_Mul.f a0 a1).bind fun t346 => (valancelaw01_FixReckons.j0 k a0 a1 a2 t338 (t345 == t346)))) else (none)))) else (none)))) else (none)))) else (none))) = some r := h
  clear h
  replace H := Option.bind_eq_some_iff.mp H
  obtain ⟨t338, A40, H⟩ := H
  replace H : (if t338 = true then ((fix_Cut.f a0).bind fun t339 => ((valanceref01_Cut.f a0).bind fun t340 => (if t339 = t340 then ((fix_Add.f a0 a1).bind fun t341 => ((valanceref01_Add.f a0 a1).bind fun t342 => (if t341 = t342 then ((fix_Sub.f a0 a1).bind fun t343 => ((valanceref01_Sub.f a0 a1).bind fun t344 => (if t343 = t344 then ((fix_Mul.f k a0 a1).bind fun t345 => ((valanceref01_Mul.f a0 a1).bind fun t346 => (valancelaw01_FixReckons.j0 k a0 a1 a2 t338 (t345 == t346)))) else (none)))) else (none)))) else (none)))) else (none)) = some r := H
  have A4 := Aside0.mk A40
  clear A40
  by_cases c5 : t338 = true
  · subst c5
    have H1 : ((fix_Cut.f a0).bind fun t339 => ((valanceref01_Cut.f a0).bind fun t340 => (if t339 = t340 then ((fix_Add.f a0 a1).bind fun t341 => ((valanceref01_Add.f a0 a1).bind fun t342 => (if t341 = t342 then ((fix_Sub.f a0 a1).bind fun t343 => ((valanceref01_Sub.f a0 a1).bind fun t344 => (if t343 = t344 then ((fix_Mul.f k a0 a1).bind fun t345 => ((valanceref01_Mul.f a0 a1).bind fun t346 => (valancelaw01_FixReckons.j0 k a0 a1 a2 true (t345 == t346)))) else (none)))) else (none)))) else (none)))) = some r := by rw [if_pos rfl] at H; exact H
    clear H
    have H := H1
    clear H1
    have HC6 := Aside0.mk H
    clear H
    go_enter Try.func8, Try.ntmps8
    go_upto_region 4 with (first | ((with_reducible refine gate_callee (f := 34) rfl ?_); refine goesL_ (some 9) rfl rfl Try.func34 (by kernel_rfl) rfl #[] rfl (by (try simp only [List.map_toArray, List.map_cons, List.map_nil]); first | done | rfl | (simp only [List.length_drop, List.length_take]; rfl)) ?_; (with_reducible refine (valancelaw01_works.calls k  true _ A4.out).mono ?_); rintro e w7 ⟨rfl, hb⟩; refine ⟨_, rfl, ?_⟩; have n0_ := Aside0.mk (below_step (by repeat (first | (with_reducible first | exact HB.out | apply below_alloc | apply pw_below_drewN | apply below_drew1) | exact HB.out)) hb); clear HB; have HB := n0_; clear n0_; (try clear hb); (try clear hb2); (try clear hk); (try clear hi)))
    (try simp only [Act.put, List.setIfInBounds_toArray, List.set_cons_zero, List.set_cons_succ])
    go_cut [8] (fun v8 wc => ∃ (kq : Nat) (x8_5 : Bool), v8 = .bool x8_5 ∧ Aside0 (valancelaw01_FixReckons.j0 kq a0 a1 a2 true x8_5 = some r) ∧ Aside0 (kq ≤ k) ∧ Aside0 (Below w.heap.size w wc))
    case first =>
      have H := HC6.out
      clear HC6
      replace H := Option.bind_eq_some_iff.mp H
      obtain ⟨t339, A80, H⟩ := H
      replace H : ((valanceref01_Cut.f a0).bind fun t340 => (if t339 = t340 then ((fix_Add.f a0 a1).bind fun t341 => ((valanceref01_Add.f a0 a1).bind fun t342 => (if t341 = t342 then ((fix_Sub.f a0 a1).bind fun t343 => ((valanceref01_Sub.f a0 a1).bind fun t344 => (if t343 = t344 then ((fix_Mul.f k a0 a1).bind fun t345 => ((valanceref01_Mul.f a0 a1).bind fun t346 => (valancelaw01_FixReckons.j0 k a0 a1 a2 true (t345 == t346)))) else (none)))) else (none)))) else (none))) = some r := H
      have A8 := Aside0.mk A80
      clear A80
      replace H := Option.bind_eq_some_iff.mp H
      obtain ⟨t340, A90, H⟩ := H
      replace H : (if t339 = t340 then ((fix_Add.f a0 a1).bind fun t341 => ((valanceref01_Add.f a0 a1).bind fun t342 => (if t341 = t342 then ((fix_Sub.f a0 a1).bind fun t343 => ((valanceref01_Sub.f a0 a1).bind fun t344 => (if t343 = t344 then ((fix_Mul.f k a0 a1).bind fun t345 => ((valanceref01_Mul.f a0 a1).bind fun t346 => (valancelaw01_FixReckons.j0 k a0 a1 a2 true (t345 == t346)))) else (none)))) else (none)))) else (none)) = some r := H
      have A9 := Aside0.mk A90
      clear A90
      by_cases c10 : t339 = t340
      · rw [if_pos c10] at H
        have c10b0 : (t339 == t340) = true := beq_iff_eq.mpr c10
        have c10b1 : (t339 != t340) = false := bne_eq_false_iff_eq.mpr c10
        clear c10
        (first | rw [c10b0] | (simp only [i64_w, i32_w]; rw [c10b0]) | skip)
        replace H := Option.bind_eq_some_iff.mp H
        obtain ⟨t341, A110, H⟩ := H
        replace H : ((valanceref01_Add.f a0 a1).bind fun t342 => (if t341 = t342 then ((fix_Sub.f a0 a1).bind fun t343 => ((valanceref01_Sub.f a0 a1).bind fun t344 => (if t343 = t344 then ((fix_Mul.f k a0 a1).bind fun t345 => ((valanceref01_Mul.f a0 a1).bind fun t346 => (valancelaw01_FixReckons.j0 k a0 a1 a2 true (t345 == t346)))) else (none)))) else (none))) = some r := H
        have A11 := Aside0.mk A110
        clear A110
        replace H := Option.bind_eq_some_iff.mp H
        obtain ⟨t342, A120, H⟩ := H
        replace H : (if t341 = t342 then ((fix_Sub.f a0 a1).bind fun t343 => ((valanceref01_Sub.f a0 a1).bind fun t344 => (if t343 = t344 then ((fix_Mul.f k a0 a1).bind fun t345 => ((valanceref01_Mul.f a0 a1).bind fun t346 => (valancelaw01_FixReckons.j0 k a0 a1 a2 true (t345 == t346)))) else (none)))) else (none)) = some r := H
        have A12 := Aside0.mk A120
        clear A120
        by_cases c13 : t341 = t342
        · rw [if_pos c13] at H
          have c13b0 : (t341 == t342) = true := beq_iff_eq.mpr c13
          have c13b1 : (t341 != t342) = false := bne_eq_false_iff_eq.mpr c13
          clear c13
          replace H := Option.bind_eq_some_iff.mp H
          obtain ⟨t343, A140, H⟩ := H
          replace H : ((valanceref01_Sub.f a0 a1).bind fun t344 => (if t343 = t344 then ((fix_Mul.f k a0 a1).bind fun t345 => ((valanceref01_Mul.f a0 a1).bind fun t346 => (valancelaw01_FixReckons.j0 k a0 a1 a2 true (t345 == t346)))) else (none))) = some r := H
          have A14 := Aside0.mk A140
          clear A140
          replace H := Option.bind_eq_some_iff.mp H
          obtain ⟨t344, A150, H⟩ := H
          replace H : (if t343 = t344 then ((fix_Mul.f k a0 a1).bind fun t345 => ((valanceref01_Mul.f a0 a1).bind fun t346 => (valancelaw01_FixReckons.j0 k a0 a1 a2 true (t345 == t346)))) else (none)) = some r := H
          have A15 := Aside0.mk A150
          clear A150
          by_cases c16 : t343 = t344
          · rw [if_pos c16] at H
            have c16b0 : (t343 == t344) = true := beq_iff_eq.mpr c16
            have c16b1 : (t343 != t344) = false := bne_eq_false_iff_eq.mpr c16
            clear c16
            replace H := Option.bind_eq_some_iff.mp H
            obtain ⟨t345, A170, H⟩ := H
            replace H : ((valanceref01_Mul.f a0 a1).bind fun t346 => (valancelaw01_FixReckons.j0 k a0 a1 a2 true (t345 == t346))) = some r := H
            have A17 := Aside0.mk A170
            clear A170
            replace H := Option.bind_eq_some_iff.mp H
            obtain ⟨t346, A180, H⟩ := H
            replace H : (valancelaw01_FixReckons.j0 k a0 a1 a2 true (t345 == t346)) = some r := H
            have A18 := Aside0.mk A180
            clear A180
            have H' := Aside0.mk H
            clear H
            go_wp2_with (first | ((with_reducible refine gate_callee (f := 35) rfl ?_); refine goesL_ (some 13) rfl rfl Try.func35 (by kernel_rfl) rfl #[.int .i64 a0] rfl (by (try simp only [List.map_toArray, List.map_cons, List.map_nil]); first | done | rfl | (simp only [List.length_drop, List.length_take]; rfl)) ?_; (with_reducible refine (fix_Cut.calls a0 t339 _ A8.out).mono ?_); rintro e w19 ⟨rfl, hb⟩; refine ⟨_, rfl, ?_⟩; have n0_ := Aside0.mk (below_step (by repeat (first | (with_reducible first | exact HB.out | apply below_alloc | apply pw_below_drewN | apply below_drew1) | exact HB.out)) hb); clear HB; have HB := n0_; clear n0_; (try clear hb); (try clear hb2); (try clear hk); (try clear hi)) | ((with_reducible refine gate_callee (f := 36) rfl ?_); refine goesL_ (some 15) rfl rfl Try.func36 (by kernel_rfl) rfl #[.int .i64 a0] rfl (by (try simp only [List.map_toArray, List.map_cons, List.map_nil]); first | done | rfl | (simp only [List.length_drop, List.length_take]; rfl)) ?_; (with_reducible refine (valanceref01_Cut.calls a0 t340 _ A9.out).mono ?_); rintro e w' ⟨rfl, ⟨nd, rfl⟩⟩; refine ⟨_, rfl, ?_⟩) | (go_at_call 37; (with_reducible refine (fix_Add.calls a0 a1 t341 _ A11.out).mono ?_); rintro e w20 ⟨rfl, hb⟩; have n0_ := Aside0.mk (below_step (by repeat (first | (with_reducible first | exact HB.out | apply below_alloc | apply pw_below_drewN | apply below_drew1) | exact HB.out)) hb); clear HB; have HB := n0_; clear n0_; (try clear hb); (try clear hb2); (try clear hk); (try clear hi)) | (go_at_call 38; (with_reducible refine (valanceref01_Add.calls a0 a1 t342 _ A12.out).mono ?_); rintro e w' ⟨rfl, ⟨nd, rfl⟩⟩) | (go_at_call 39; (with_reducible refine (fix_Sub.calls a0 a1 t343 _ A14.out).mono ?_); rintro e w21 ⟨rfl, hb⟩; have n0_ := Aside0.mk (below_step (by repeat (first | (with_reducible first | exact HB.out | apply below_alloc | apply pw_below_drewN | apply below_drew1) | exact HB.out)) hb); clear HB; have HB := n0_; clear n0_; (try clear hb); (try clear hb2); (try clear hk); (try clear hi)) | (go_at_call 40; (with_reducible refine (valanceref01_Sub.calls a0 a1 t344 _ A15.out).mono ?_); rintro e w' ⟨rfl, ⟨nd, rfl⟩⟩) | (go_at_call 41; (with_reducible refine (fix_Mul.calls k a0 a1 t345 _ A17.out).mono ?_); rintro e w22 ⟨rfl, hb⟩; have n0_ := Aside0.mk (below_step (by repeat (first | (with_reducible first | exact HB.out | apply below_alloc | apply pw_below_drewN | apply below_drew1) | exact HB.out)) hb); clear HB; have HB := n0_; clear n0_; (try clear hb); (try clear hb2); (try clear hk); (try clear hi)) | (go_at_call 42; (with_reducible refine (valanceref01_Mul.calls a0 a1 t346 _ A18.out).mono ?_); rintro e w23 ⟨rfl, hb⟩; have n0_ := Aside0.mk (below_step (by repeat (first | (with_reducible first | exact HB.out | apply below_alloc | apply pw_below_drewN | apply below_drew1) | exact HB.out)) hb); clear HB; have HB := n0_; clear n0_; (try clear hb); (try clear hb2); (try clear hk); (try clear hi)))
            go_meet
            case rel => exact ⟨_, ((t345 == t346)), (by first | rfl | (simp; done) | (simp [*]; done)), H', ⟨by first | omega | exact Nat.le_refl _⟩, ⟨by repeat (first | (with_reducible first | exact HB.out | apply below_alloc | apply pw_below_drewN | apply below_drew1) | exact HB.out)⟩⟩
          · rw [if_neg c16] at H
            exact absurd H (by simp)
        · rw [if_neg c13] at H
          exact absurd H (by simp)
      · rw [if_neg c10] at H
        exact absurd H (by simp)
    case rest =>
      clear HC6
      try clear c1
      try clear p2
      try clear c3
      try clear c5
      try clear c8
      try clear c10
      try clear c10b0
      try clear c10b1
      try clear c13
      try clear c13b0
      try clear c13b1
      try clear c16
      try clear c16b0
      try clear c16b1
      obtain ⟨kq, x8_5, rfl, HA, HJ5, HB⟩ := hcut
      cases kq with
      | zero => exact absurd HA.out (by simp [valancelaw01_FixReckons.j0])
      | succ kj5 =>
        have H := HA.out
        clear HA
        simp only [valancelaw01_FixReckons.j0] at H
        by_cases c24 : true = true
        · clear c24
          have H1 : (if x8_5 = true then ((fix_Div.f a0 a1).bind fun t347 => ((valanceref01_Div.f a0 a1).bind fun t348 => (if t347 = t348 then ((fix_Part.f a0 a1).bind fun t349 => ((valanceref01_Part.f a0 a1).bind fun t350 => (if t349 = t350 then ((fix_Clamp.f a0 a1 a2).bind fun t351 => ((valanceref01_Clamp.f kj5 a0 a1 a2).bind fun t352 => (some (t351 == t352)))) else (none)))) else (none)))) else (none)) = some r := by first | (rw [if_pos rfl] at H; exact H) | (rw [if_pos True.intro] at H; exact H)
          clear H
          have H := H1
          clear H1
          by_cases c25 : x8_5 = true
          · subst c25
            have H1 : ((fix_Div.f a0 a1).bind fun t347 => ((valanceref01_Div.f a0 a1).bind fun t348 => (if t347 = t348 then ((fix_Part.f a0 a1).bind fun t349 => ((valanceref01_Part.f a0 a1).bind fun t350 => (if t349 = t350 then ((fix_Clamp.f a0 a1 a2).bind fun t351 => ((valanceref01_Clamp.f kj5 a0 a1 a2).bind fun t352 => (some (t351 == t352)))) else (none)))) else (none)))) = some r := by first | (rw [if_pos rfl] at H; exact H) | (rw [if_pos True.intro] at H; exact H)
            clear H
            have H := H1
            clear H1
            replace H := Option.bind_eq_some_iff.mp H
            obtain ⟨t347, A260, H⟩ := H
            replace H : ((valanceref01_Div.f a0 a1).bind fun t348 => (if t347 = t348 then ((fix_Part.f a0 a1).bind fun t349 => ((valanceref01_Part.f a0 a1).bind fun t350 => (if t349 = t350 then ((fix_Clamp.f a0 a1 a2).bind fun t351 => ((valanceref01_Clamp.f kj5 a0 a1 a2).bind fun t352 => (some (t351 == t352)))) else (none)))) else (none))) = some r := H
            have A26 := Aside0.mk A260
            clear A260
            replace H := Option.bind_eq_some_iff.mp H
            obtain ⟨t348, A270, H⟩ := H
            replace H : (if t347 = t348 then ((fix_Part.f a0 a1).bind fun t349 => ((valanceref01_Part.f a0 a1).bind fun t350 => (if t349 = t350 then ((fix_Clamp.f a0 a1 a2).bind fun t351 => ((valanceref01_Clamp.f kj5 a0 a1 a2).bind fun t352 => (some (t351 == t352)))) else (none)))) else (none)) = some r := H
            have A27 := Aside0.mk A270
            clear A270
            by_cases c28 : t347 = t348
            · rw [if_pos c28] at H
              have c28b0 : (t347 == t348) = true := beq_iff_eq.mpr c28
              have c28b1 : (t347 != t348) = false := bne_eq_false_iff_eq.mpr c28
              clear c28
              replace H := Option.bind_eq_some_iff.mp H
              obtain ⟨t349, A290, H⟩ := H
              replace H : ((valanceref01_Part.f a0 a1).bind fun t350 => (if t349 = t350 then ((fix_Clamp.f a0 a1 a2).bind fun t351 => ((valanceref01_Clamp.f kj5 a0 a1 a2).bind fun t352 => (some (t351 == t352)))) else (none))) = some r := H
              have A29 := Aside0.mk A290
              clear A290
              replace H := Option.bind_eq_some_iff.mp H
              obtain ⟨t350, A300, H⟩ := H
              replace H : (if t349 = t350 then ((fix_Clamp.f a0 a1 a2).bind fun t351 => ((valanceref01_Clamp.f kj5 a0 a1 a2).bind fun t352 => (some (t351 == t352)))) else (none)) = some r := H
              have A30 := Aside0.mk A300
              clear A300
              by_cases c31 : t349 = t350
              · rw [if_pos c31] at H
                have c31b0 : (t349 == t350) = true := beq_iff_eq.mpr c31
                have c31b1 : (t349 != t350) = false := bne_eq_false_iff_eq.mpr c31
                clear c31
                replace H := Option.bind_eq_some_iff.mp H
                obtain ⟨t351, A320, H⟩ := H
                replace H : ((valanceref01_Clamp.f kj5 a0 a1 a2).bind fun t352 => (some (t351 == t352))) = some r := H
                have A32 := Aside0.mk A320
                clear A320
                replace H := Option.bind_eq_some_iff.mp H
                obtain ⟨t352, A330, H⟩ := H
                replace H : (some (t351 == t352)) = some r := H
                have A33 := Aside0.mk A330
                clear A330
                obtain rfl := Option.some.inj H
                go_wp2_with (first | (go_at_call 43; (with_reducible refine (fix_Div.calls a0 a1 t347 _ A26.out).mono ?_); rintro e w34 ⟨rfl, hb⟩; have n0_ := Aside0.mk (below_step (by repeat (first | (with_reducible first | exact HB.out | apply below_alloc | apply pw_below_drewN | apply below_drew1) | exact HB.out)) hb); clear HB; have HB := n0_; clear n0_; (try clear hb); (try clear hb2); (try clear hk); (try clear hi)) | (go_at_call 44; (with_reducible refine (valanceref01_Div.calls a0 a1 t348 _ A27.out).mono ?_); rintro e w' ⟨rfl, ⟨nd, rfl⟩⟩) | (go_at_call 45; (with_reducible refine (fix_Part.calls a0 a1 t349 _ A29.out).mono ?_); rintro e w35 ⟨rfl, hb⟩; have n0_ := Aside0.mk (below_step (by repeat (first | (with_reducible first | exact HB.out | apply below_alloc | apply pw_below_drewN | apply below_drew1) | exact HB.out)) hb); clear HB; have HB := n0_; clear n0_; (try clear hb); (try clear hb2); (try clear hk); (try clear hi)) | (go_at_call 46; (with_reducible refine (valanceref01_Part.calls a0 a1 t350 _ A30.out).mono ?_); rintro e w36 ⟨rfl, hb⟩; have n0_ := Aside0.mk (below_step (by repeat (first | (with_reducible first | exact HB.out | apply below_alloc | apply pw_below_drewN | apply below_drew1) | exact HB.out)) hb); clear HB; have HB := n0_; clear n0_; (try clear hb); (try clear hb2); (try clear hk); (try clear hi)) | (go_at_call 47; (with_reducible refine (fix_Clamp.calls a0 a1 a2 t351 _ A32.out).mono ?_); rintro e w37 ⟨rfl, hb⟩; have n0_ := Aside0.mk (below_step (by repeat (first | (with_reducible first | exact HB.out | apply below_alloc | apply pw_below_drewN | apply below_drew1) | exact HB.out)) hb); clear HB; have HB := n0_; clear n0_; (try clear hb); (try clear hb2); (try clear hk); (try clear hi)) | (go_at_call 33; (with_reducible refine (valanceref01_Clamp.calls kj5 a0 a1 a2 t352 _ A33.out).mono ?_); rintro e w' ⟨rfl, ⟨nd, rfl⟩⟩))
                go_ret
                exact ⟨by first | rfl | (simp [errW_none, errW_some] <;> rfl) | (simp [*, errW_none, errW_some] <;> rfl), by repeat (first | (with_reducible first | exact HB.out | apply below_alloc | apply pw_below_drewN | apply below_drew1) | exact HB.out)⟩
              · rw [if_neg c31] at H
                exact absurd H (by simp)
            · rw [if_neg c28] at H
              exact absurd H (by simp)
          · replace c25 := Bool.eq_false_iff.mpr c25
            subst c25
            have H1 : (none) = some r := by rw [if_neg (show ¬ (false = true) by decide)] at H; exact H
            clear H
            have H := H1
            clear H1
            exact absurd H (by simp)
        · exact absurd rfl c24
  · replace c5 := Bool.eq_false_iff.mpr c5
    subst c5
    have H1 : (none) = some r := by rw [if_neg (show ¬ (false = true) by decide)] at H; exact H
    clear H
    have H := H1
    clear H1
    exact absurd H (by simp)

/-- THE ONE PURE STATEMENT of valancelaw01_FixReckons: yours. -/
def valancelaw01_FixReckons.Pure : Prop := ∀ (a0 : Int) (a1 : Int) (a2 : Int), (Lit.int .i64 a0).wf = true → (Lit.int .i64 a1).wf = true → (Lit.int .i64 a2).wf = true → ∃ k, valancelaw01_FixReckons.f k a0 a1 a2 = some true
theorem valancelaw01_FixReckons.walk (P : valancelaw01_FixReckons.Pure) (a0 : Int) (a1 : Int) (a2 : Int) (w : World) (w0 : (Lit.int .i64 a0).wf = true) (w1 : (Lit.int .i64 a1).wf = true) (w2 : (Lit.int .i64 a2).wf = true) :
    Calls Try.prog 8 #[.int .i64 a0, .int .i64 a1, .int .i64 a2] w fun e w' => e = .returned (.bool true) ∧ Below w.heap.size w w' := by
  obtain ⟨k, h⟩ := P a0 a1 a2 w0 w1 w2
  refine (valancelaw01_FixReckons.calls k a0 a1 a2 true w h).mono ?_
  rintro e w' ⟨rfl, hd⟩
  exact ⟨rfl, hd⟩

end Go.Proofs.Ytcadddijlgcnbaa.V
