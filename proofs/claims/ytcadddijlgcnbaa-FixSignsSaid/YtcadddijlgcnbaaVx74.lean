-- Written by wip/tool/vprint.py (this repo's), over the kit's printer. Not trusted: Lean checks it.
import Derived.Test.YtcadddijlgcnbaaVx0
import Derived.Test.YtcadddijlgcnbaaVx2
import Derived.Test.YtcadddijlgcnbaaVx4
import Derived.Test.YtcadddijlgcnbaaVx7
import Derived.Test.YtcadddijlgcnbaaVx48
import Derived.Test.YtcadddijlgcnbaaVx58
namespace Go.Proofs.Ytcadddijlgcnbaa.V
open Go.RowKit Go.Proofs.YtcadddijlgcnbaaW.PrintWords Go.Proofs.YtcadddijlgcnbaaW.PrintLast Go.Proofs.YtcadddijlgcnbaaW.PrintMore
attribute [local go_sem] max2_int min2_int max_two min_two max_three min_three max_four min_four   -- for this text's walks alone
set_option linter.unusedVariables false
set_option linter.unusedSimpArgs false

/-! ### valancelaw01_FixSigns: function 13 -/
def valancelaw01_FixSigns.j0 : Nat → Int → Int → Bool → Bool → Option (Bool)
  | 0, _, _, _, _ => none
  | k + 1, x0, x1, x5, x14 => if x14 = true then (some x5) else (if x5 = true then ((fix_Mul.f k (wrap64 (-x0)) x1).bind fun t284 => ((fix_Mul.f k x0 x1).bind fun t285 => (if t284 = (wrap64 (-t285)) then ((fix_Sub.f x0 x1).bind fun t286 => ((fix_Sub.f x1 x0).bind fun t287 => (if t286 = (wrap64 (-t287)) then ((fix_Add.f (wrap64 (-x0)) (wrap64 (-x1))).bind fun t288 => ((fix_Add.f x0 x1).bind fun t289 => (if t288 = (wrap64 (-t289)) then ((fix_Mul.f k x0 0).bind fun t290 => (if t290 = 0 then ((fix_Mul.f k x0 1).bind fun t291 => ((fix_Cut.f x0).bind fun t292 => (some (t291 == t292)))) else (some false))) else (some false)))) else (some false)))) else (some false)))) else (some false))
def valancelaw01_FixSigns.f (k : Nat) (a0 : Int) (a1 : Int) : Option (Bool) := (valancelaw01_works.f k).bind fun t283 => (if t283 = true then (if a0 < (-1099511627776) then (valancelaw01_FixSigns.j0 k a0 a1 t283 true) else (valancelaw01_FixSigns.j0 k a0 a1 t283 (decide (a1 < (-1099511627776))))) else (some false))
theorem valancelaw01_FixSigns.mono_l : ∀ k, (∀ y0 y1 y2 y3, LeO (valancelaw01_FixSigns.j0 k y0 y1 y2 y3) (valancelaw01_FixSigns.j0 (k + 1) y0 y1 y2 y3))
  | 0 => fun _ _ _ _ r h => by simp [valancelaw01_FixSigns.j0] at h
  | k + 1 => by
    have ih0 := valancelaw01_FixSigns.mono_l k
    · intro y0 y1 y2 y3
      unfold valancelaw01_FixSigns.j0
      repeat' first
      | (with_reducible exact ih0 _ _ _ _)
      | (with_reducible exact fix_Mul.mono _ _ _)
      | (with_reducible exact valancelaw01_works.mono _)
      | (with_reducible exact LeO.refl _)
      | (with_reducible exact LeO.none _)
      | (with_reducible refine LeO.ite ?_ ?_)
      | (with_reducible refine LeO.bind ?_ (fun _ => ?_))
      | exact ih0 _ _ _ _
      | exact fix_Mul.mono _ _ _
      | exact valancelaw01_works.mono _
      | exact LeO.none _
      | refine LeO.ite ?_ ?_
      | refine LeO.bind ?_ (fun _ => ?_)
theorem valancelaw01_FixSigns.mono : ∀ a0 a1 k, LeO (valancelaw01_FixSigns.f k a0 a1) (valancelaw01_FixSigns.f (k + 1) a0 a1) := by
  intro a0 a1 k
  have ih0 := valancelaw01_FixSigns.mono_l k
  unfold valancelaw01_FixSigns.f
  repeat' first
      | (with_reducible exact ih0 _ _ _ _)
      | (with_reducible exact fix_Mul.mono _ _ _)
      | (with_reducible exact valancelaw01_works.mono _)
      | (with_reducible exact LeO.refl _)
      | (with_reducible exact LeO.none _)
      | (with_reducible refine LeO.ite ?_ ?_)
      | (with_reducible refine LeO.bind ?_ (fun _ => ?_))
      | exact ih0 _ _ _ _
      | exact fix_Mul.mono _ _ _
      | exact valancelaw01_works.mono _
      | exact LeO.none _
      | refine LeO.ite ?_ ?_
      | refine LeO.bind ?_ (fun _ => ?_)
set_option maxHeartbeats 8000000 in
set_option maxRecDepth 100000 in
theorem valancelaw01_FixSigns.calls (k : Nat) (a0 : Int) (a1 : Int) (r : Bool) (w : World) (h : valancelaw01_FixSigns.f k a0 a1 = some r) :
    Calls Try.prog 13 #[.int .i64 a0, .int .i64 a1] w fun e w' => e = .returned (.bool r) ∧ Below w.heap.size w w' := by
  have HB := Aside0.mk (Below.refl w.heap.size w)
  have H : ((valancelaw01_works.f k).bind fun t283 => (if t283 = true then (if a0 < (-1099511627776) then (valancelaw01_FixSigns.j0 k a0 a1 t283 true) else (valancelaw01_FixSigns.j0 k a0 a1 t283 (decide (a1 < (-1099511627776))))) else (some false))) = some r := h
  clear h
  replace H := Option.bind_eq_some_iff.mp H
  obtain ⟨t283, A30, H⟩ := H
  replace H : (if t283 = true then (if a0 < (-1099511627776) then (valancelaw01_FixSigns.j0 k a0 a1 t283 true) else (valancelaw01_FixSigns.j0 k a0 a1 t283 (decide (a1 < (-1099511627776))))) else (some false)) = some r := H
  have A3 := Aside0.mk A30
  clear A30
  by_cases c4 : t283 = true
  · subst c4
    have H1 : (if a0 < (-1099511627776) then (valancelaw01_FixSigns.j0 k a0 a1 true true) else (valancelaw01_FixSigns.j0 k a0 a1 true (decide (a1 < (-1099511627776))))) = some r := by rw [if_pos rfl] at H; exact H
    clear H
    have H := H1
    clear H1
    have HC5 := Aside0.mk H
    clear H
    go_enter Try.func13, Try.ntmps13
    go_upto_region 4 with (first | ((with_reducible refine gate_callee (f := 34) rfl ?_); refine goesL_ (some 6) rfl rfl Try.func34 (by kernel_rfl) rfl #[] rfl (by (try simp only [List.map_toArray, List.map_cons, List.map_nil]); first | done | rfl | (simp only [List.length_drop, List.length_take]; rfl)) ?_; (with_reducible refine (valancelaw01_works.calls k  true _ A3.out).mono ?_); rintro e w6 ⟨rfl, hb⟩; refine ⟨_, rfl, ?_⟩; have n0_ := Aside0.mk (below_step (by repeat (first | (with_reducible first | exact HB.out | apply below_alloc | apply pw_below_drewN | apply below_drew1) | exact HB.out)) hb); clear HB; have HB := n0_; clear n0_; (try clear hb); (try clear hb2); (try clear hk); (try clear hi)))
    (try simp only [Act.put, List.setIfInBounds_toArray, List.set_cons_zero, List.set_cons_succ])
    go_cut [14] (fun v14 wc => ∃ (kq : Nat) (x14_4 : Bool), v14 = .bool x14_4 ∧ Aside0 (valancelaw01_FixSigns.j0 kq a0 a1 true x14_4 = some r) ∧ Aside0 (kq ≤ k) ∧ Aside0 (Below w.heap.size w wc))
    case first =>
      have H := HC5.out
      clear HC5
      by_cases c7 : a0 < (-1099511627776)
      · rw [if_pos c7] at H
        have c7b0 : decide (a0 < (-1099511627776)) = true := decide_eq_true c7
        clear c7
        (first | rw [c7b0] | (simp only [i64_w, i32_w]; rw [c7b0]) | skip)
        have H' := Aside0.mk H
        clear H
        go_wp2
        go_meet
        case rel => exact ⟨_, (true), (by first | rfl | (simp; done) | (simp [*]; done)), H', ⟨by first | omega | exact Nat.le_refl _⟩, ⟨by repeat (first | (with_reducible first | exact HB.out | apply below_alloc | apply pw_below_drewN | apply below_drew1) | exact HB.out)⟩⟩
      · rw [if_neg c7] at H
        have c7b0 : decide (a0 < (-1099511627776)) = false := decide_eq_false c7
        clear c7
        (first | rw [c7b0] | (simp only [i64_w, i32_w]; rw [c7b0]) | skip)
        have H' := Aside0.mk H
        clear H
        go_wp2
        go_meet
        case rel => exact ⟨_, (decide (a1 < (-1099511627776))), (by first | rfl | (simp; done) | (simp [*]; done)), H', ⟨by first | omega | exact Nat.le_refl _⟩, ⟨by repeat (first | (with_reducible first | exact HB.out | apply below_alloc | apply pw_below_drewN | apply below_drew1) | exact HB.out)⟩⟩
    case rest =>
      clear HC5
      try clear c1
      try clear p2
      try clear c3
      try clear c4
      try clear c7
      try clear c7b0
      obtain ⟨kq, x14_4, rfl, HA, HJ4, HB⟩ := hcut
      cases kq with
      | zero => exact absurd HA.out (by simp [valancelaw01_FixSigns.j0])
      | succ kj4 =>
        have H := HA.out
        clear HA
        simp only [valancelaw01_FixSigns.j0] at H
        by_cases c8 : x14_4 = true
        · subst c8
          have H1 : (some true) = some r := by rw [if_pos rfl] at H; exact H
          clear H
          have H := H1
          clear H1
          obtain rfl := Option.some.inj H
          go_wp2
          go_ret
          exact ⟨by first | rfl | (simp [errW_none, errW_some] <;> rfl) | (simp [*, errW_none, errW_some] <;> rfl), by repeat (first | (with_reducible first | exact HB.out | apply below_alloc | apply pw_below_drewN | apply below_drew1) | exact HB.out)⟩
        · replace c8 := Bool.eq_false_iff.mpr c8
          subst c8
          have H1 : (if true = true then ((fix_Mul.f kj4 (wrap64 (-a0)) a1).bind fun t284 => ((fix_Mul.f kj4 a0 a1).bind fun t285 => (if t284 = (wrap64 (-t285)) then ((fix_Sub.f a0 a1).bind fun t286 => ((fix_Sub.f a1 a0).bind fun t287 => (if t286 = (wrap64 (-t287)) then ((fix_Add.f (wrap64 (-a0)) (wrap64 (-a1))).bind fun t288 => ((fix_Add.f a0 a1).bind fun t289 => (if t288 = (wrap64 (-t289)) then ((fix_Mul.f kj4 a0 0).bind fun t290 => (if t290 = 0 then ((fix_Mul.f kj4 a0 1).bind fun t291 => ((fix_Cut.f a0).bind fun t292 => (some (t291 == t292)))) else (some false))) else (some false)))) else (some false)))) else (some false)))) else (some false)) = some r := by rw [if_neg (show ¬ (false = true) by decide)] at H; exact H
          clear H
          have H := H1
          clear H1
          by_cases c9 : true = true
          · clear c9
            have H1 : ((fix_Mul.f kj4 (wrap64 (-a0)) a1).bind fun t284 => ((fix_Mul.f kj4 a0 a1).bind fun t285 => (if t284 = (wrap64 (-t285)) then ((fix_Sub.f a0 a1).bind fun t286 => ((fix_Sub.f a1 a0).bind fun t287 => (if t286 = (wrap64 (-t287)) then ((fix_Add.f (wrap64 (-a0)) (wrap64 (-a1))).bind fun t288 => ((fix_Add.f a0 a1).bind fun t289 => (if t288 = (wrap64 (-t289)) then ((fix_Mul.f kj4 a0 0).bind fun t290 => (if t290 = 0 then ((fix_Mul.f kj4 a0 1).bind fun t291 => ((fix_Cut.f a0).bind fun t292 => (some (t291 == t292)))) else (some false))) else (some false)))) else (some false)))) else (some false)))) = some r := by first | (rw [if_pos rfl] at H; exact H) | (rw [if_pos True.intro] at H; exact H)
            clear H
            have H := H1
            clear H1
            replace H := Option.bind_eq_some_iff.mp H
            obtain ⟨t284, A100, H⟩ := H
            replace H : ((fix_Mul.f kj4 a0 a1).bind fun t285 => (if t284 = (wrap64 (-t285)) then ((fix_Sub.f a0 a1).bind fun t286 => ((fix_Sub.f a1 a0).bind fun t287 => (if t286 = (wrap64 (-t287)) then ((fix_Add.f (wrap64 (-a0)) (wrap64 (-a1))).bind fun t288 => ((fix_Add.f a0 a1).bind fun t289 => (if t288 = (wrap64 (-t289)) then ((fix_Mul.f kj4 a0 0).bind fun t290 => (if t290 = 0 then ((fix_Mul.f kj4 a0 1).bind fun t291 => ((fix_Cut.f a0).bind fun t292 => (some (t291 == t292)))) else (some false))) else (some false)))) else (some false)))) else (some false))) = some r := H
            have A10 := Aside0.mk A100
            clear A100
            replace H := Option.bind_eq_some_iff.mp H
            obtain ⟨t285, A110, H⟩ := H
            replace H : (if t284 = (wrap64 (-t285)) then ((fix_Sub.f a0 a1).bind fun t286 => ((fix_Sub.f a1 a0).bind fun t287 => (if t286 = (wrap64 (-t287)) then ((fix_Add.f (wrap64 (-a0)) (wrap64 (-a1))).bind fun t288 => ((fix_Add.f a0 a1).bind fun t289 => (if t288 = (wrap64 (-t289)) then ((fix_Mul.f kj4 a0 0).bind fun t290 => (if t290 = 0 then ((fix_Mul.f kj4 a0 1).bind fun t291 => ((fix_Cut.f a0).bind fun t292 => (some (t291 == t292)))) else (some false))) else (some false)))) else (some false)))) else (some false)) = some r := H
            have A11 := Aside0.mk A110
            clear A110
            by_cases c12 : t284 = (wrap64 (-t285))
            · rw [if_pos c12] at H
              have c12b0 : (t284 == (wrap64 (-t285))) = true := beq_iff_eq.mpr c12
              have c12b1 : (t284 != (wrap64 (-t285))) = false := bne_eq_false_iff_eq.mpr c12
              clear c12
              replace H := Option.bind_eq_some_iff.mp H
              obtain ⟨t286, A130, H⟩ := H
              replace H : ((fix_Sub.f a1 a0).bind fun t287 => (if t286 = (wrap64 (-t287)) then ((fix_Add.f (wrap64 (-a0)) (wrap64 (-a1))).bind fun t288 => ((fix_Add.f a0 a1).bind fun t289 => (if t288 = (wrap64 (-t289)) then ((fix_Mul.f kj4 a0 0).bind fun t290 => (if t290 = 0 then ((fix_Mul.f kj4 a0 1).bind fun t291 => ((fix_Cut.f a0).bind fun t292 => (some (t291 == t292)))) else (some false))) else (some false)))) else (some false))) = some r := H
              have A13 := Aside0.mk A130
              clear A130
              replace H := Option.bind_eq_some_iff.mp H
              obtain ⟨t287, A140, H⟩ := H
              replace H : (if t286 = (wrap64 (-t287)) then ((fix_Add.f (wrap64 (-a0)) (wrap64 (-a1))).bind fun t288 => ((fix_Add.f a0 a1).bind fun t289 => (if t288 = (wrap64 (-t289)) then ((fix_Mul.f kj4 a0 0).bind fun t290 => (if t290 = 0 then ((fix_Mul.f kj4 a0 1).bind fun t291 => ((fix_Cut.f a0).bind fun t292 => (some (t291 == t292)))) else (some false))) else (some false)))) else (some false)) = some r := H
              have A14 := Aside0.mk A140
              clear A140
              by_cases c15 : t286 = (wrap64 (-t287))
              · rw [if_pos c15] at H
                have c15b0 : (t286 == (wrap64 (-t287))) = true := beq_iff_eq.mpr c15
                have c15b1 : (t286 != (wrap64 (-t287))) = false := bne_eq_false_iff_eq.mpr c15
                clear c15
                replace H := Option.bind_eq_some_iff.mp H
                obtain ⟨t288, A160, H⟩ := H
                replace H : ((fix_Add.f a0 a1).bind fun t289 => (if t288 = (wrap64 (-t289)) then ((fix_Mul.f kj4 a0 0).bind fun t290 => (if t290 = 0 then ((fix_Mul.f kj4 a0 1).bind fun t291 => ((fix_Cut.f a0).bind fun t292 => (some (t291 == t292)))) else (some false))) else (some false))) = some r := H
                have A16 := Aside0.mk A160
                clear A160
                replace H := Option.bind_eq_some_iff.mp H
                obtain ⟨t289, A170, H⟩ := H
                replace H : (if t288 = (wrap64 (-t289)) then ((fix_Mul.f kj4 a0 0).bind fun t290 => (if t290 = 0 then ((fix_Mul.f kj4 a0 1).bind fun t291 => ((fix_Cut.f a0).bind fun t292 => (some (t291 == t292)))) else (some false))) else (some false)) = some r := H
                have A17 := Aside0.mk A170
                clear A170
                by_cases c18 : t288 = (wrap64 (-t289))
                · rw [if_pos c18] at H
                  have c18b0 : (t288 == (wrap64 (-t289))) = true := beq_iff_eq.mpr c18
                  have c18b1 : (t288 != (wrap64 (-t289))) = false := bne_eq_false_iff_eq.mpr c18
                  clear c18
                  replace H := Option.bind_eq_some_iff.mp H
                  obtain ⟨t290, A190, H⟩ := H
                  replace H : (if t290 = 0 then ((fix_Mul.f kj4 a0 1).bind fun t291 => ((fix_Cut.f a0).bind fun t292 => (some (t291 == t292)))) else (some false)) = some r := H
                  have A19 := Aside0.mk A190
                  clear A190
                  by_cases c20 : t290 = 0
                  · rw [if_pos c20] at H
                    have c20b0 : (t290 == 0) = true := beq_iff_eq.mpr c20
                    have c20b1 : (t290 != 0) = false := bne_eq_false_iff_eq.mpr c20
                    clear c20
                    replace H := Option.bind_eq_some_iff.mp H
                    obtain ⟨t291, A210, H⟩ := H
                    replace H : ((fix_Cut.f a0).bind fun t292 => (some (t291 == t292))) = some r := H
                    have A21 := Aside0.mk A210
                    clear A210
                    replace H := Option.bind_eq_some_iff.mp H
                    obtain ⟨t292, A220, H⟩ := H
                    replace H : (some (t291 == t292)) = some r := H
                    have A22 := Aside0.mk A220
                    clear A220
                    obtain rfl := Option.some.inj H
                    go_wp2_with (first | (go_at_call 41; (with_reducible refine (fix_Mul.calls kj4 (wrap64 (-a0)) a1 t284 _ A10.out).mono ?_); rintro e w23 ⟨rfl, hb⟩; have n0_ := Aside0.mk (below_step (by repeat (first | (with_reducible first | exact HB.out | apply below_alloc | apply pw_below_drewN | apply below_drew1) | exact HB.out)) hb); clear HB; have HB := n0_; clear n0_; (try clear hb); (try clear hb2); (try clear hk); (try clear hi)) | (go_at_call 41; (with_reducible refine (fix_Mul.calls kj4 a0 a1 t285 _ A11.out).mono ?_); rintro e w24 ⟨rfl, hb⟩; have n0_ := Aside0.mk (below_step (by repeat (first | (with_reducible first | exact HB.out | apply below_alloc | apply pw_below_drewN | apply below_drew1) | exact HB.out)) hb); clear HB; have HB := n0_; clear n0_; (try clear hb); (try clear hb2); (try clear hk); (try clear hi)) | (go_at_call 39; (with_reducible refine (fix_Sub.calls a0 a1 t286 _ A13.out).mono ?_); rintro e w25 ⟨rfl, hb⟩; have n0_ := Aside0.mk (below_step (by repeat (first | (with_reducible first | exact HB.out | apply below_alloc | apply pw_below_drewN | apply below_drew1) | exact HB.out)) hb); clear HB; have HB := n0_; clear n0_; (try clear hb); (try clear hb2); (try clear hk); (try clear hi)) | (go_at_call 39; (with_reducible refine (fix_Sub.calls a1 a0 t287 _ A14.out).mono ?_); rintro e w26 ⟨rfl, hb⟩; have n0_ := Aside0.mk (below_step (by repeat (first | (with_reducible first | exact HB.out | apply below_alloc | apply pw_below_drewN | apply below_drew1) | exact HB.out)) hb); clear HB; have HB := n0_; clear n0_; (try clear hb); (try clear hb2); (try clear hk); (try clear hi)) | (go_at_call 37; (with_reducible refine (fix_Add.calls (wrap64 (-a0)) (wrap64 (-a1)) t288 _ A16.out).mono ?_); rintro e w27 ⟨rfl, hb⟩; have n0_ := Aside0.mk (below_step (by repeat (first | (with_reducible first | exact HB.out | apply below_alloc | apply pw_below_drewN | apply below_drew1) | exact HB.out)) hb); clear HB; have HB := n0_; clear n0_; (try clear hb); (try clear hb2); (try clear hk); (try clear hi)) | (go_at_call 37; (with_reducible refine (fix_Add.calls a0 a1 t289 _ A17.out).mono ?_); rintro e w28 ⟨rfl, hb⟩; have n0_ := Aside0.mk (below_step (by repeat (first | (with_reducible first | exact HB.out | apply below_alloc | apply pw_below_drewN | apply below_drew1) | exact HB.out)) hb); clear HB; have HB := n0_; clear n0_; (try clear hb); (try clear hb2); (try clear hk); (try clear hi)) | (go_at_call 41; (with_reducible refine (fix_Mul.calls kj4 a0 0 t290 _ A19.out).mono ?_); rintro e w29 ⟨rfl, hb⟩; have n0_ := Aside0.mk (below_step (by repeat (first | (with_reducible first | exact HB.out | apply below_alloc | apply pw_below_drewN | apply below_drew1) | exact HB.out)) hb); clear HB; have HB := n0_; clear n0_; (try clear hb); (try clear hb2); (try clear hk); (try clear hi)) | (go_at_call 41; (with_reducible refine (fix_Mul.calls kj4 a0 1 t291 _ A21.out).mono ?_); rintro e w30 ⟨rfl, hb⟩; have n0_ := Aside0.mk (below_step (by repeat (first | (with_reducible first | exact HB.out | apply below_alloc | apply pw_below_drewN | apply below_drew1) | exact HB.out)) hb); clear HB; have HB := n0_; clear n0_; (try clear hb); (try clear hb2); (try clear hk); (try clear hi)) | (go_at_call 35; (with_reducible refine (fix_Cut.calls a0 t292 _ A22.out).mono ?_); rintro e w31 ⟨rfl, hb⟩; have n0_ := Aside0.mk (below_step (by repeat (first | (with_reducible first | exact HB.out | apply below_alloc | apply pw_below_drewN | apply below_drew1) | exact HB.out)) hb); clear HB; have HB := n0_; clear n0_; (try clear hb); (try clear hb2); (try clear hk); (try clear hi)))
                    go_ret
                    exact ⟨by first | rfl | (simp [errW_none, errW_some] <;> rfl) | (simp [*, errW_none, errW_some] <;> rfl), by repeat (first | (with_reducible first | exact HB.out | apply below_alloc | apply pw_below_drewN | apply below_drew1) | exact HB.out)⟩
                  · rw [if_neg c20] at H
                    have c20b0 : (t290 == 0) = false := beq_eq_false_iff_ne.mpr c20
                    have c20b1 : (t290 != 0) = true := bne_iff_ne.mpr c20
                    obtain rfl := Option.some.inj H
                    go_wp2_with (first | (go_at_call 41; (with_reducible refine (fix_Mul.calls kj4 (wrap64 (-a0)) a1 t284 _ A10.out).mono ?_); rintro e w32 ⟨rfl, hb⟩; have n0_ := Aside0.mk (below_step (by repeat (first | (with_reducible first | exact HB.out | apply below_alloc | apply pw_below_drewN | apply below_drew1) | exact HB.out)) hb); clear HB; have HB := n0_; clear n0_; (try clear hb); (try clear hb2); (try clear hk); (try clear hi)) | (go_at_call 41; (with_reducible refine (fix_Mul.calls kj4 a0 a1 t285 _ A11.out).mono ?_); rintro e w33 ⟨rfl, hb⟩; have n0_ := Aside0.mk (below_step (by repeat (first | (with_reducible first | exact HB.out | apply below_alloc | apply pw_below_drewN | apply below_drew1) | exact HB.out)) hb); clear HB; have HB := n0_; clear n0_; (try clear hb); (try clear hb2); (try clear hk); (try clear hi)) | (go_at_call 39; (with_reducible refine (fix_Sub.calls a0 a1 t286 _ A13.out).mono ?_); rintro e w34 ⟨rfl, hb⟩; have n0_ := Aside0.mk (below_step (by repeat (first | (with_reducible first | exact HB.out | apply below_alloc | apply pw_below_drewN | apply below_drew1) | exact HB.out)) hb); clear HB; have HB := n0_; clear n0_; (try clear hb); (try clear hb2); (try clear hk); (try clear hi)) | (go_at_call 39; (with_reducible refine (fix_Sub.calls a1 a0 t287 _ A14.out).mono ?_); rintro e w35 ⟨rfl, hb⟩; have n0_ := Aside0.mk (below_step (by repeat (first | (with_reducible first | exact HB.out | apply below_alloc | apply pw_below_drewN | apply below_drew1) | exact HB.out)) hb); clear HB; have HB := n0_; clear n0_; (try clear hb); (try clear hb2); (try clear hk); (try clear hi)) | (go_at_call 37; (with_reducible refine (fix_Add.calls (wrap64 (-a0)) (wrap64 (-a1)) t288 _ A16.out).mono ?_); rintro e w36 ⟨rfl, hb⟩; have n0_ := Aside0.mk (below_step (by repeat (first | (with_reducible first | exact HB.out | apply below_alloc | apply pw_below_drewN | apply below_drew1) | exact HB.out)) hb); clear HB; have HB := n0_; clear n0_; (try clear hb); (try clear hb2); (try clear hk); (try clear hi)) | (go_at_call 37; (with_reducible refine (fix_Add.calls a0 a1 t289 _ A17.out).mono ?_); rintro e w37 ⟨rfl, hb⟩; have n0_ := Aside0.mk (below_step (by repeat (first | (with_reducible first | exact HB.out | apply below_alloc | apply pw_below_drewN | apply below_drew1) | exact HB.out)) hb); clear HB; have HB := n0_; clear n0_; (try clear hb); (try clear hb2); (try clear hk); (try clear hi)) | (go_at_call 41; (with_reducible refine (fix_Mul.calls kj4 a0 0 t290 _ A19.out).mono ?_); rintro e w38 ⟨rfl, hb⟩; have n0_ := Aside0.mk (below_step (by repeat (first | (with_reducible first | exact HB.out | apply below_alloc | apply pw_below_drewN | apply below_drew1) | exact HB.out)) hb); clear HB; have HB := n0_; clear n0_; (try clear hb); (try clear hb2); (try clear hk); (try clear hi)))
                    go_ret
                    exact ⟨by first | rfl | (simp [errW_none, errW_some] <;> rfl) | (simp [*, errW_none, errW_some] <;> rfl), by repeat (first | (with_reducible first | exact HB.out | apply below_alloc | apply pw_below_drewN | apply below_drew1) | exact HB.out)⟩
                · rw [if_neg c18] at H
                  have c18b0 : (t288 == (wrap64 (-t289))) = false := beq_eq_false_iff_ne.mpr c18
                  have c18b1 : (t288 != (wrap64 (-t289))) = true := bne_iff_ne.mpr c18
                  obtain rfl := Option.some.inj H
                  go_wp2_with (first | (go_at_call 41; (with_reducible refine (fix_Mul.calls kj4 (wrap64 (-a0)) a1 t284 _ A10.out).mono ?_); rintro e w39 ⟨rfl, hb⟩; have n0_ := Aside0.mk (below_step (by repeat (first | (with_reducible first | exact HB.out | apply below_alloc | apply pw_below_drewN | apply below_drew1) | exact HB.out)) hb); clear HB; have HB := n0_; clear n0_; (try clear hb); (try clear hb2); (try clear hk); (try clear hi)) | (go_at_call 41; (with_reducible refine (fix_Mul.calls kj4 a0 a1 t285 _ A11.out).mono ?_); rintro e w40 ⟨rfl, hb⟩; have n0_ := Aside0.mk (below_step (by repeat (first | (with_reducible first | exact HB.out | apply below_alloc | apply pw_below_drewN | apply below_drew1) | exact HB.out)) hb); clear HB; have HB := n0_; clear n0_; (try clear hb); (try clear hb2); (try clear hk); (try clear hi)) | (go_at_call 39; (with_reducible refine (fix_Sub.calls a0 a1 t286 _ A13.out).mono ?_); rintro e w41 ⟨rfl, hb⟩; have n0_ := Aside0.mk (below_step (by repeat (first | (with_reducible first | exact HB.out | apply below_alloc | apply pw_below_drewN | apply below_drew1) | exact HB.out)) hb); clear HB; have HB := n0_; clear n0_; (try clear hb); (try clear hb2); (try clear hk); (try clear hi)) | (go_at_call 39; (with_reducible refine (fix_Sub.calls a1 a0 t287 _ A14.out).mono ?_); rintro e w42 ⟨rfl, hb⟩; have n0_ := Aside0.mk (below_step (by repeat (first | (with_reducible first | exact HB.out | apply below_alloc | apply pw_below_drewN | apply below_drew1) | exact HB.out)) hb); clear HB; have HB := n0_; clear n0_; (try clear hb); (try clear hb2); (try clear hk); (try clear hi)) | (go_at_call 37; (with_reducible refine (fix_Add.calls (wrap64 (-a0)) (wrap64 (-a1)) t288 _ A16.out).mono ?_); rintro e w43 ⟨rfl, hb⟩; have n0_ := Aside0.mk (below_step (by repeat (first | (with_reducible first | exact HB.out | apply below_alloc | apply pw_below_drewN | apply below_drew1) | exact HB.out)) hb); clear HB; have HB := n0_; clear n0_; (try clear hb); (try clear hb2); (try clear hk); (try clear hi)) | (go_at_call 37; (with_reducible refine (fix_Add.calls a0 a1 t289 _ A17.out).mono ?_); rintro e w44 ⟨rfl, hb⟩; have n0_ := Aside0.mk (below_step (by repeat (first | (with_reducible first | exact HB.out | apply below_alloc | apply pw_below_drewN | apply below_drew1) | exact HB.out)) hb); clear HB; have HB := n0_; clear n0_; (try clear hb); (try clear hb2); (try clear hk); (try clear hi)))
                  go_ret
                  exact ⟨by first | rfl | (simp [errW_none, errW_some] <;> rfl) | (simp [*, errW_none, errW_some] <;> rfl), by repeat (first | (with_reducible first | exact HB.out | apply below_alloc | apply pw_below_drewN | apply below_drew1) | exact HB.out)⟩
              · rw [if_neg c15] at H
                have c15b0 : (t286 == (wrap64 (-t287))) = false := beq_eq_false_iff_ne.mpr c15
                have c15b1 : (t286 != (wrap64 (-t287))) = true := bne_iff_ne.mpr c15
                obtain rfl := Option.some.inj H
                go_wp2_with (first | (go_at_call 41; (with_reducible refine (fix_Mul.calls kj4 (wrap64 (-a0)) a1 t284 _ A10.out).mono ?_); rintro e w45 ⟨rfl, hb⟩; have n0_ := Aside0.mk (below_step (by repeat (first | (with_reducible first | exact HB.out | apply below_alloc | apply pw_below_drewN | apply below_drew1) | exact HB.out)) hb); clear HB; have HB := n0_; clear n0_; (try clear hb); (try clear hb2); (try clear hk); (try clear hi)) | (go_at_call 41; (with_reducible refine (fix_Mul.calls kj4 a0 a1 t285 _ A11.out).mono ?_); rintro e w46 ⟨rfl, hb⟩; have n0_ := Aside0.mk (below_step (by repeat (first | (with_reducible first | exact HB.out | apply below_alloc | apply pw_below_drewN | apply below_drew1) | exact HB.out)) hb); clear HB; have HB := n0_; clear n0_; (try clear hb); (try clear hb2); (try clear hk); (try clear hi)) | (go_at_call 39; (with_reducible refine (fix_Sub.calls a0 a1 t286 _ A13.out).mono ?_); rintro e w47 ⟨rfl, hb⟩; have n0_ := Aside0.mk (below_step (by repeat (first | (with_reducible first | exact HB.out | apply below_alloc | apply pw_below_drewN | apply below_drew1) | exact HB.out)) hb); clear HB; have HB := n0_; clear n0_; (try clear hb); (try clear hb2); (try clear hk); (try clear hi)) | (go_at_call 39; (with_reducible refine (fix_Sub.calls a1 a0 t287 _ A14.out).mono ?_); rintro e w48 ⟨rfl, hb⟩; have n0_ := Aside0.mk (below_step (by repeat (first | (with_reducible first | exact HB.out | apply below_alloc | apply pw_below_drewN | apply below_drew1) | exact HB.out)) hb); clear HB; have HB := n0_; clear n0_; (try clear hb); (try clear hb2); (try clear hk); (try clear hi)))
                go_ret
                exact ⟨by first | rfl | (simp [errW_none, errW_some] <;> rfl) | (simp [*, errW_none, errW_some] <;> rfl), by repeat (first | (with_reducible first | exact HB.out | apply below_alloc | apply pw_below_drewN | apply below_drew1) | exact HB.out)⟩
            · rw [if_neg c12] at H
              have c12b0 : (t284 == (wrap64 (-t285))) = false := beq_eq_false_iff_ne.mpr c12
              have c12b1 : (t284 != (wrap64 (-t285))) = true := bne_iff_ne.mpr c12
              obtain rfl := Option.some.inj H
              go_wp2_with (first | (go_at_call 41; (with_reducible refine (fix_Mul.calls kj4 (wrap64 (-a0)) a1 t284 _ A10.out).mono ?_); rintro e w49 ⟨rfl, hb⟩; have n0_ := Aside0.mk (below_step (by repeat (first | (with_reducible first | exact HB.out | apply below_alloc | apply pw_below_drewN | apply below_drew1) | exact HB.out)) hb); clear HB; have HB := n0_; clear n0_; (try clear hb); (try clear hb2); (try clear hk); (try clear hi)) | (go_at_call 41; (with_reducible refine (fix_Mul.calls kj4 a0 a1 t285 _ A11.out).mono ?_); rintro e w50 ⟨rfl, hb⟩; have n0_ := Aside0.mk (below_step (by repeat (first | (with_reducible first | exact HB.out | apply below_alloc | apply pw_below_drewN | apply below_drew1) | exact HB.out)) hb); clear HB; have HB := n0_; clear n0_; (try clear hb); (try clear hb2); (try clear hk); (try clear hi)))
              go_ret
              exact ⟨by first | rfl | (simp [errW_none, errW_some] <;> rfl) | (simp [*, errW_none, errW_some] <;> rfl), by repeat (first | (with_reducible first | exact HB.out | apply below_alloc | apply pw_below_drewN | apply below_drew1) | exact HB.out)⟩
          · exact absurd rfl c9
  · replace c4 := Bool.eq_false_iff.mpr c4
    subst c4
    have H1 : (some false) = some r := by rw [if_neg (show ¬ (false = true) by decide)] at H; exact H
    clear H
    have H := H1
    clear H1
    obtain rfl := Option.some.inj H
    go_enter Try.func13, Try.ntmps13
    go_wp2_with (first | ((with_reducible refine gate_callee (f := 34) rfl ?_); refine goesL_ (some 6) rfl rfl Try.func34 (by kernel_rfl) rfl #[] rfl (by (try simp only [List.map_toArray, List.map_cons, List.map_nil]); first | done | rfl | (simp only [List.length_drop, List.length_take]; rfl)) ?_; (with_reducible refine (valancelaw01_works.calls k  false _ A3.out).mono ?_); rintro e w51 ⟨rfl, hb⟩; refine ⟨_, rfl, ?_⟩; have n0_ := Aside0.mk (below_step (by repeat (first | (with_reducible first | exact HB.out | apply below_alloc | apply pw_below_drewN | apply below_drew1) | exact HB.out)) hb); clear HB; have HB := n0_; clear n0_; (try clear hb); (try clear hb2); (try clear hk); (try clear hi)))
    go_ret
    exact ⟨by first | rfl | (simp [errW_none, errW_some] <;> rfl) | (simp [*, errW_none, errW_some] <;> rfl), by repeat (first | (with_reducible first | exact HB.out | apply below_alloc | apply pw_below_drewN | apply below_drew1) | exact HB.out)⟩

/-- THE ONE PURE STATEMENT of valancelaw01_FixSigns: yours. -/
def valancelaw01_FixSigns.Pure : Prop := ∀ (a0 : Int) (a1 : Int), (Lit.int .i64 a0).wf = true → (Lit.int .i64 a1).wf = true → ∃ k, valancelaw01_FixSigns.f k a0 a1 = some true
theorem valancelaw01_FixSigns.walk (P : valancelaw01_FixSigns.Pure) (a0 : Int) (a1 : Int) (w : World) (w0 : (Lit.int .i64 a0).wf = true) (w1 : (Lit.int .i64 a1).wf = true) :
    Calls Try.prog 13 #[.int .i64 a0, .int .i64 a1] w fun e w' => e = .returned (.bool true) ∧ Below w.heap.size w w' := by
  obtain ⟨k, h⟩ := P a0 a1 w0 w1
  refine (valancelaw01_FixSigns.calls k a0 a1 true w h).mono ?_
  rintro e w' ⟨rfl, hd⟩
  exact ⟨rfl, hd⟩

end Go.Proofs.Ytcadddijlgcnbaa.V
