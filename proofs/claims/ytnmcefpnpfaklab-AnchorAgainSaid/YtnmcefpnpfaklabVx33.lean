/- What the functions of this seat answer, as plain Lean functions, and that the calls come to just that (written by a program of this repo, over the kit's printer; Lean checks it). -/
import Derived.Test.YtnmcefpnpfaklabVx0
import Derived.Test.YtnmcefpnpfaklabVx20
import Derived.Test.YtnmcefpnpfaklabVx21
namespace Go.Proofs.Ytnmcefpnpfaklab.V
open Go.RowKit Go.Proofs.YtnmcefpnpfaklabW.PrintWords Go.Proofs.YtnmcefpnpfaklabW.PrintLast Go.Proofs.YtnmcefpnpfaklabW.PrintMore
attribute [local go_sem] max2_int min2_int max_two min_two max_three min_three max_four min_four   -- for this text's walks alone
set_option linter.unusedVariables false
set_option linter.unusedSimpArgs false

/-! ### valancelaw12_AnchorAgain: function 12 -/
def valancelaw12_AnchorAgain.j0 : Nat → Int → Int → Int → Int → Bool → Bool → Option (Bool)
  | 0, _, _, _, _, _, _ => none
  | k + 1, x0, x1, x2, x3, x9, x41 => if x41 = true then (some x9) else ((anchor_Keep.f x0 x1 x2 x3).bind fun t342 => (if (wrap64 ((wrap64 (x0 + x2)) - x1)) ≤ 0 then (if x9 = true then ((anchor_Keep.f x0 x1 x1 x3).bind fun t343 => (if t343 = x0 then ((anchor_Keep.f t342 x2 x2 x3).bind fun t344 => (if t344 = t342 then (some true) else (none))) else (none))) else (none)) else (if x9 = true then ((anchor_Keep.f x0 x1 x1 x3).bind fun t345 => (if t345 = x0 then ((anchor_Keep.f t342 x2 x2 x3).bind fun t346 => (if t346 = t342 then (if (wrap64 ((wrap64 (x0 + x2)) - x1)) > x3 then (some true) else ((anchor_Keep.f t342 x2 x1 x3).bind fun t347 => (some (t347 == x0)))) else (none))) else (none))) else (none))))
def valancelaw12_AnchorAgain.f (k : Nat) (a0 : Int) (a1 : Int) (a2 : Int) (a3 : Int) : Option (Bool) := (valancelaw12_works.f k).bind fun t341 => (if t341 = true then (if a0 < 1 then (valancelaw12_AnchorAgain.j0 k a0 a1 a2 a3 t341 true) else (if a0 > a3 then (valancelaw12_AnchorAgain.j0 k a0 a1 a2 a3 t341 true) else (if a3 > 1073741824 then (valancelaw12_AnchorAgain.j0 k a0 a1 a2 a3 t341 true) else (if a1 < (-1073741824) then (valancelaw12_AnchorAgain.j0 k a0 a1 a2 a3 t341 true) else (if a1 > 1073741824 then (valancelaw12_AnchorAgain.j0 k a0 a1 a2 a3 t341 true) else (if a2 < (-1073741824) then (valancelaw12_AnchorAgain.j0 k a0 a1 a2 a3 t341 true) else (valancelaw12_AnchorAgain.j0 k a0 a1 a2 a3 t341 (decide (a2 > 1073741824))))))))) else (none))
theorem valancelaw12_AnchorAgain.mono_l : ∀ k, (∀ y0 y1 y2 y3 y4 y5, LeO (valancelaw12_AnchorAgain.j0 k y0 y1 y2 y3 y4 y5) (valancelaw12_AnchorAgain.j0 (k + 1) y0 y1 y2 y3 y4 y5))
  | 0 => fun _ _ _ _ _ _ r h => by simp [valancelaw12_AnchorAgain.j0] at h
  | k + 1 => by
    have ih0 := valancelaw12_AnchorAgain.mono_l k
    · intro y0 y1 y2 y3 y4 y5
      unfold valancelaw12_AnchorAgain.j0
      repeat' first
      | (with_reducible exact ih0 _ _ _ _ _ _)
      | (with_reducible exact valancelaw12_works.mono _)
      | (with_reducible exact LeO.refl _)
      | (with_reducible exact LeO.none _)
      | (with_reducible refine LeO.ite ?_ ?_)
      | (with_reducible refine LeO.bind ?_ (fun _ => ?_))
      | exact ih0 _ _ _ _ _ _
      | exact valancelaw12_works.mono _
      | exact LeO.none _
      | refine LeO.ite ?_ ?_
      | refine LeO.bind ?_ (fun _ => ?_)
theorem valancelaw12_AnchorAgain.mono : ∀ a0 a1 a2 a3 k, LeO (valancelaw12_AnchorAgain.f k a0 a1 a2 a3) (valancelaw12_AnchorAgain.f (k + 1) a0 a1 a2 a3) := by
  intro a0 a1 a2 a3 k
  have ih0 := valancelaw12_AnchorAgain.mono_l k
  unfold valancelaw12_AnchorAgain.f
  repeat' first
      | (with_reducible exact ih0 _ _ _ _ _ _)
      | (with_reducible exact valancelaw12_works.mono _)
      | (with_reducible exact LeO.refl _)
      | (with_reducible exact LeO.none _)
      | (with_reducible refine LeO.ite ?_ ?_)
      | (with_reducible refine LeO.bind ?_ (fun _ => ?_))
      | exact ih0 _ _ _ _ _ _
      | exact valancelaw12_works.mono _
      | exact LeO.none _
      | refine LeO.ite ?_ ?_
      | refine LeO.bind ?_ (fun _ => ?_)
set_option maxHeartbeats 8000000 in
set_option maxRecDepth 100000 in
theorem valancelaw12_AnchorAgain.calls (k : Nat) (a0 : Int) (a1 : Int) (a2 : Int) (a3 : Int) (r : Bool) (w : World) (h : valancelaw12_AnchorAgain.f k a0 a1 a2 a3 = some r) :
    Calls Try.prog 12 #[.int .i64 a0, .int .i64 a1, .int .i64 a2, .int .i64 a3] w fun e w' => e = .returned (.bool r) ∧ Below w.heap.size w w' := by
  have HB := Aside0.mk (Below.refl w.heap.size w)
  have H : ((valancelaw12_works.f k).bind fun t341 => (if t341 = true then (if a0 < 1 then (valancelaw12_AnchorAgain.j0 k a0 a1 a2 a3 t341 true) else (if a0 > a3 then (valancelaw12_AnchorAgain.j0 k a0 a1 a2 a3 t341 true) else (if a3 > 1073741824 then (valancelaw12_AnchorAgain.j0 k a0 a1 a2 a3 t341 true) else (if a1 < (-1073741824) then (valancelaw12_AnchorAgain.j0 k a0 a1 a2 a3 t341 true) else (if a1 > 1073741824 then (valancelaw12_AnchorAgain.j0 k a0 a1 a2 a3 t341 true) else (if a2 < (-1073741824) then (valancelaw12_AnchorAgain.j0 k a0 a1 a2 a3 t341 true) else (valancelaw12_AnchorAgain.j0 k a0 a1 a2 a3 t341 (decide (a2 > 1073741824))))))))) else (none))) = some r := h
  clear h
  replace H := Option.bind_eq_some_iff.mp H
  obtain ⟨t341, A50, H⟩ := H
  replace H : (if t341 = true then (if a0 < 1 then (valancelaw12_AnchorAgain.j0 k a0 a1 a2 a3 t341 true) else (if a0 > a3 then (valancelaw12_AnchorAgain.j0 k a0 a1 a2 a3 t341 true) else (if a3 > 1073741824 then (valancelaw12_AnchorAgain.j0 k a0 a1 a2 a3 t341 true) else (if a1 < (-1073741824) then (valancelaw12_AnchorAgain.j0 k a0 a1 a2 a3 t341 true) else (if a1 > 1073741824 then (valancelaw12_AnchorAgain.j0 k a0 a1 a2 a3 t341 true) else (if a2 < (-1073741824) then (valancelaw12_AnchorAgain.j0 k a0 a1 a2 a3 t341 true) else (valancelaw12_AnchorAgain.j0 k a0 a1 a2 a3 t341 (decide (a2 > 1073741824))))))))) else (none)) = some r := H
  have A5 := Aside0.mk A50
  clear A50
  by_cases c6 : t341 = true
  · subst c6
    have H1 : (if a0 < 1 then (valancelaw12_AnchorAgain.j0 k a0 a1 a2 a3 true true) else (if a0 > a3 then (valancelaw12_AnchorAgain.j0 k a0 a1 a2 a3 true true) else (if a3 > 1073741824 then (valancelaw12_AnchorAgain.j0 k a0 a1 a2 a3 true true) else (if a1 < (-1073741824) then (valancelaw12_AnchorAgain.j0 k a0 a1 a2 a3 true true) else (if a1 > 1073741824 then (valancelaw12_AnchorAgain.j0 k a0 a1 a2 a3 true true) else (if a2 < (-1073741824) then (valancelaw12_AnchorAgain.j0 k a0 a1 a2 a3 true true) else (valancelaw12_AnchorAgain.j0 k a0 a1 a2 a3 true (decide (a2 > 1073741824))))))))) = some r := by rw [if_pos rfl] at H; exact H
    clear H
    have H := H1
    clear H1
    have HC7 := Aside0.mk H
    clear H
    go_enter Try.func12, Try.ntmps12
    go_upto_region 4 with (first | ((with_reducible refine gate_callee (f := 24) rfl ?_); refine goesL_ (some 12) rfl rfl Try.func24 (by kernel_rfl) rfl #[] rfl (by (try simp only [List.map_toArray, List.map_cons, List.map_nil]); first | done | rfl | (simp only [List.length_drop, List.length_take]; rfl)) ?_; (with_reducible refine (valancelaw12_works.calls k  true _ A5.out).mono ?_); rintro e w8 ⟨rfl, hb⟩; refine ⟨_, rfl, ?_⟩; have n0_ := Aside0.mk (below_step (by repeat (first | (with_reducible first | exact HB.out | apply below_alloc | apply pw_below_drewN | apply below_drew1) | exact HB.out)) hb); clear HB; have HB := n0_; clear n0_; (try clear hb); (try clear hb2); (try clear hk); (try clear hi)))
    (try simp only [Act.put, List.setIfInBounds_toArray, List.set_cons_zero, List.set_cons_succ])
    go_cut [41] (fun v41 wc => ∃ (kq : Nat) (x41_6 : Bool), v41 = .bool x41_6 ∧ Aside0 (valancelaw12_AnchorAgain.j0 kq a0 a1 a2 a3 true x41_6 = some r) ∧ Aside0 (kq ≤ k) ∧ Aside0 (Below w.heap.size w wc))
    case first =>
      have H := HC7.out
      clear HC7
      by_cases c9 : a0 < 1
      · rw [if_pos c9] at H
        have c9b0 : decide (a0 < 1) = true := decide_eq_true c9
        clear c9
        (first | rw [c9b0] | (simp only [i64_w, i32_w]; rw [c9b0]) | skip)
        have H' := Aside0.mk H
        clear H
        go_wp2
        go_meet
        case rel => exact ⟨_, (true), (by first | rfl | (simp; done) | (simp [*]; done)), H', ⟨by first | omega | exact Nat.le_refl _⟩, ⟨by repeat (first | (with_reducible first | exact HB.out | apply below_alloc | apply pw_below_drewN | apply below_drew1) | exact HB.out)⟩⟩
      · rw [if_neg c9] at H
        have c9b0 : decide (a0 < 1) = false := decide_eq_false c9
        clear c9
        (first | rw [c9b0] | (simp only [i64_w, i32_w]; rw [c9b0]) | skip)
        by_cases c10 : a0 > a3
        · rw [if_pos c10] at H
          have c10b0 : decide (a3 < a0) = true := decide_eq_true c10
          clear c10
          have H' := Aside0.mk H
          clear H
          go_wp2
          go_meet
          case rel => exact ⟨_, (true), (by first | rfl | (simp; done) | (simp [*]; done)), H', ⟨by first | omega | exact Nat.le_refl _⟩, ⟨by repeat (first | (with_reducible first | exact HB.out | apply below_alloc | apply pw_below_drewN | apply below_drew1) | exact HB.out)⟩⟩
        · rw [if_neg c10] at H
          have c10b0 : decide (a3 < a0) = false := decide_eq_false c10
          clear c10
          by_cases c11 : a3 > 1073741824
          · rw [if_pos c11] at H
            have c11b0 : decide (1073741824 < a3) = true := decide_eq_true c11
            clear c11
            have H' := Aside0.mk H
            clear H
            go_wp2
            go_meet
            case rel => exact ⟨_, (true), (by first | rfl | (simp; done) | (simp [*]; done)), H', ⟨by first | omega | exact Nat.le_refl _⟩, ⟨by repeat (first | (with_reducible first | exact HB.out | apply below_alloc | apply pw_below_drewN | apply below_drew1) | exact HB.out)⟩⟩
          · rw [if_neg c11] at H
            have c11b0 : decide (1073741824 < a3) = false := decide_eq_false c11
            clear c11
            by_cases c12 : a1 < (-1073741824)
            · rw [if_pos c12] at H
              have c12b0 : decide (a1 < (-1073741824)) = true := decide_eq_true c12
              clear c12
              have H' := Aside0.mk H
              clear H
              go_wp2
              go_meet
              case rel => exact ⟨_, (true), (by first | rfl | (simp; done) | (simp [*]; done)), H', ⟨by first | omega | exact Nat.le_refl _⟩, ⟨by repeat (first | (with_reducible first | exact HB.out | apply below_alloc | apply pw_below_drewN | apply below_drew1) | exact HB.out)⟩⟩
            · rw [if_neg c12] at H
              have c12b0 : decide (a1 < (-1073741824)) = false := decide_eq_false c12
              clear c12
              by_cases c13 : a1 > 1073741824
              · rw [if_pos c13] at H
                have c13b0 : decide (1073741824 < a1) = true := decide_eq_true c13
                clear c13
                have H' := Aside0.mk H
                clear H
                go_wp2
                go_meet
                case rel => exact ⟨_, (true), (by first | rfl | (simp; done) | (simp [*]; done)), H', ⟨by first | omega | exact Nat.le_refl _⟩, ⟨by repeat (first | (with_reducible first | exact HB.out | apply below_alloc | apply pw_below_drewN | apply below_drew1) | exact HB.out)⟩⟩
              · rw [if_neg c13] at H
                have c13b0 : decide (1073741824 < a1) = false := decide_eq_false c13
                clear c13
                by_cases c14 : a2 < (-1073741824)
                · rw [if_pos c14] at H
                  have c14b0 : decide (a2 < (-1073741824)) = true := decide_eq_true c14
                  clear c14
                  have H' := Aside0.mk H
                  clear H
                  go_wp2
                  go_meet
                  case rel => exact ⟨_, (true), (by first | rfl | (simp; done) | (simp [*]; done)), H', ⟨by first | omega | exact Nat.le_refl _⟩, ⟨by repeat (first | (with_reducible first | exact HB.out | apply below_alloc | apply pw_below_drewN | apply below_drew1) | exact HB.out)⟩⟩
                · rw [if_neg c14] at H
                  have c14b0 : decide (a2 < (-1073741824)) = false := decide_eq_false c14
                  clear c14
                  have H' := Aside0.mk H
                  clear H
                  go_wp2
                  go_meet
                  case rel => exact ⟨_, (decide (a2 > 1073741824)), (by first | rfl | (simp; done) | (simp [*]; done)), H', ⟨by first | omega | exact Nat.le_refl _⟩, ⟨by repeat (first | (with_reducible first | exact HB.out | apply below_alloc | apply pw_below_drewN | apply below_drew1) | exact HB.out)⟩⟩
    case rest =>
      clear HC7
      try clear c1
      try clear c2
      try clear p2
      try clear c6
      try clear c9
      try clear c9b0
      try clear c10
      try clear c10b0
      try clear c11
      try clear c11b0
      try clear c12
      try clear c12b0
      try clear c13
      try clear c13b0
      try clear c14
      try clear c14b0
      obtain ⟨kq, x41_6, rfl, HA, HJ6, HB⟩ := hcut
      cases kq with
      | zero => exact absurd HA.out (by simp [valancelaw12_AnchorAgain.j0])
      | succ kj6 =>
        have H := HA.out
        clear HA
        simp only [valancelaw12_AnchorAgain.j0] at H
        by_cases c15 : x41_6 = true
        · subst c15
          have H1 : (some true) = some r := by rw [if_pos rfl] at H; exact H
          clear H
          have H := H1
          clear H1
          obtain rfl := Option.some.inj H
          go_wp2
          go_ret
          exact ⟨by first | rfl | (cases Option.some.inj (A27.out.symm.trans A19.out); rfl) | (cases Option.some.inj (A29.out.symm.trans A21.out); rfl) | (cases Option.some.inj (A19.out.symm.trans A27.out); rfl) | (cases Option.some.inj (A21.out.symm.trans A29.out); rfl) | (simp [errW_none, errW_some] <;> rfl) | (simp [*, errW_none, errW_some] <;> rfl), by repeat (first | (with_reducible first | exact HB.out | apply below_alloc | apply pw_below_drewN | apply below_drew1) | exact HB.out)⟩
        · replace c15 := Bool.eq_false_iff.mpr c15
          subst c15
          have H1 : ((anchor_Keep.f a0 a1 a2 a3).bind fun t342 => (if (wrap64 ((wrap64 (a0 + a2)) - a1)) ≤ 0 then (if true = true then ((anchor_Keep.f a0 a1 a1 a3).bind fun t343 => (if t343 = a0 then ((anchor_Keep.f t342 a2 a2 a3).bind fun t344 => (if t344 = t342 then (some true) else (none))) else (none))) else (none)) else (if true = true then ((anchor_Keep.f a0 a1 a1 a3).bind fun t345 => (if t345 = a0 then ((anchor_Keep.f t342 a2 a2 a3).bind fun t346 => (if t346 = t342 then (if (wrap64 ((wrap64 (a0 + a2)) - a1)) > a3 then (some true) else ((anchor_Keep.f t342 a2 a1 a3).bind fun t347 => (some (t347 == a0)))) else (none))) else (none))) else (none)))) = some r := by rw [if_neg (show ¬ (false = true) by decide)] at H; exact H
          clear H
          have H := H1
          clear H1
          replace H := Option.bind_eq_some_iff.mp H
          obtain ⟨t342, A160, H⟩ := H
          replace H : (if (wrap64 ((wrap64 (a0 + a2)) - a1)) ≤ 0 then (if true = true then ((anchor_Keep.f a0 a1 a1 a3).bind fun t343 => (if t343 = a0 then ((anchor_Keep.f t342 a2 a2 a3).bind fun t344 => (if t344 = t342 then (some true) else (none))) else (none))) else (none)) else (if true = true then ((anchor_Keep.f a0 a1 a1 a3).bind fun t345 => (if t345 = a0 then ((anchor_Keep.f t342 a2 a2 a3).bind fun t346 => (if t346 = t342 then (if (wrap64 ((wrap64 (a0 + a2)) - a1)) > a3 then (some true) else ((anchor_Keep.f t342 a2 a1 a3).bind fun t347 => (some (t347 == a0)))) else (none))) else (none))) else (none))) = some r := H
          have A16 := Aside0.mk A160
          clear A160
          by_cases c17 : (wrap64 ((wrap64 (a0 + a2)) - a1)) ≤ 0
          · rw [if_pos c17] at H
            have c17b0 : decide ((wrap64 ((wrap64 (a0 + a2)) - a1)) ≤ 0) = true := decide_eq_true c17
            clear c17
            by_cases c18 : true = true
            · clear c18
              have H1 : ((anchor_Keep.f a0 a1 a1 a3).bind fun t343 => (if t343 = a0 then ((anchor_Keep.f t342 a2 a2 a3).bind fun t344 => (if t344 = t342 then (some true) else (none))) else (none))) = some r := by first | (rw [if_pos rfl] at H; exact H) | (rw [if_pos True.intro] at H; exact H)
              clear H
              have H := H1
              clear H1
              replace H := Option.bind_eq_some_iff.mp H
              obtain ⟨t343, A190, H⟩ := H
              replace H : (if t343 = a0 then ((anchor_Keep.f t342 a2 a2 a3).bind fun t344 => (if t344 = t342 then (some true) else (none))) else (none)) = some r := H
              have A19 := Aside0.mk A190
              clear A190
              by_cases c20 : t343 = a0
              · rw [if_pos c20] at H
                have c20b0 : (t343 == a0) = true := beq_iff_eq.mpr c20
                have c20b1 : (t343 != a0) = false := bne_eq_false_iff_eq.mpr c20
                clear c20
                replace H := Option.bind_eq_some_iff.mp H
                obtain ⟨t344, A210, H⟩ := H
                replace H : (if t344 = t342 then (some true) else (none)) = some r := H
                have A21 := Aside0.mk A210
                clear A210
                by_cases c22 : t344 = t342
                · rw [if_pos c22] at H
                  have c22b0 : (t344 == t342) = true := beq_iff_eq.mpr c22
                  have c22b1 : (t344 != t342) = false := bne_eq_false_iff_eq.mpr c22
                  clear c22
                  obtain rfl := Option.some.inj H
                  go_wp2_with (first | ((with_reducible refine gate_callee (f := 32) rfl ?_); refine goesL_ (some 47) rfl rfl Try.func32 (by kernel_rfl) rfl #[.int .i64 a0, .int .i64 a1, .int .i64 a2, .int .i64 a3] rfl (by (try simp only [List.map_toArray, List.map_cons, List.map_nil]); first | done | rfl | (simp only [List.length_drop, List.length_take]; rfl)) ?_; (with_reducible refine (anchor_Keep.calls a0 a1 a2 a3 t342 _ A16.out).mono ?_); rintro e w23 ⟨rfl, hb⟩; refine ⟨_, rfl, ?_⟩; have n0_ := Aside0.mk (below_step (by repeat (first | (with_reducible first | exact HB.out | apply below_alloc | apply pw_below_drewN | apply below_drew1) | exact HB.out)) hb); clear HB; have HB := n0_; clear n0_; (try clear hb); (try clear hb2); (try clear hk); (try clear hi)) | (go_at_call 32; (with_reducible refine (anchor_Keep.calls a0 a1 a1 a3 t343 _ A19.out).mono ?_); rintro e w24 ⟨rfl, hb⟩; have n0_ := Aside0.mk (below_step (by repeat (first | (with_reducible first | exact HB.out | apply below_alloc | apply pw_below_drewN | apply below_drew1) | exact HB.out)) hb); clear HB; have HB := n0_; clear n0_; (try clear hb); (try clear hb2); (try clear hk); (try clear hi)) | (go_at_call 32; (with_reducible refine (anchor_Keep.calls t342 a2 a2 a3 t344 _ A21.out).mono ?_); rintro e w25 ⟨rfl, hb⟩; have n0_ := Aside0.mk (below_step (by repeat (first | (with_reducible first | exact HB.out | apply below_alloc | apply pw_below_drewN | apply below_drew1) | exact HB.out)) hb); clear HB; have HB := n0_; clear n0_; (try clear hb); (try clear hb2); (try clear hk); (try clear hi)))
                  go_ret
                  exact ⟨by first | rfl | (cases Option.some.inj (A27.out.symm.trans A19.out); rfl) | (cases Option.some.inj (A29.out.symm.trans A21.out); rfl) | (cases Option.some.inj (A19.out.symm.trans A27.out); rfl) | (cases Option.some.inj (A21.out.symm.trans A29.out); rfl) | (simp [errW_none, errW_some] <;> rfl) | (simp [*, errW_none, errW_some] <;> rfl), by repeat (first | (with_reducible first | exact HB.out | apply below_alloc | apply pw_below_drewN | apply below_drew1) | exact HB.out)⟩
                · rw [if_neg c22] at H
                  exact absurd H (by simp)
              · rw [if_neg c20] at H
                exact absurd H (by simp)
            · exact absurd rfl c18
          · rw [if_neg c17] at H
            have c17b0 : decide ((wrap64 ((wrap64 (a0 + a2)) - a1)) ≤ 0) = false := decide_eq_false c17
            clear c17
            by_cases c26 : true = true
            · clear c26
              have H1 : ((anchor_Keep.f a0 a1 a1 a3).bind fun t345 => (if t345 = a0 then ((anchor_Keep.f t342 a2 a2 a3).bind fun t346 => (if t346 = t342 then (if (wrap64 ((wrap64 (a0 + a2)) - a1)) > a3 then (some true) else ((anchor_Keep.f t342 a2 a1 a3).bind fun t347 => (some (t347 == a0)))) else (none))) else (none))) = some r := by first | (rw [if_pos rfl] at H; exact H) | (rw [if_pos True.intro] at H; exact H)
              clear H
              have H := H1
              clear H1
              replace H := Option.bind_eq_some_iff.mp H
              obtain ⟨t345, A270, H⟩ := H
              replace H : (if t345 = a0 then ((anchor_Keep.f t342 a2 a2 a3).bind fun t346 => (if t346 = t342 then (if (wrap64 ((wrap64 (a0 + a2)) - a1)) > a3 then (some true) else ((anchor_Keep.f t342 a2 a1 a3).bind fun t347 => (some (t347 == a0)))) else (none))) else (none)) = some r := H
              have A27 := Aside0.mk A270
              clear A270
              by_cases c28 : t345 = a0
              · rw [if_pos c28] at H
                have c28b0 : (t345 == a0) = true := beq_iff_eq.mpr c28
                have c28b1 : (t345 != a0) = false := bne_eq_false_iff_eq.mpr c28
                clear c28
                replace H := Option.bind_eq_some_iff.mp H
                obtain ⟨t346, A290, H⟩ := H
                replace H : (if t346 = t342 then (if (wrap64 ((wrap64 (a0 + a2)) - a1)) > a3 then (some true) else ((anchor_Keep.f t342 a2 a1 a3).bind fun t347 => (some (t347 == a0)))) else (none)) = some r := H
                have A29 := Aside0.mk A290
                clear A290
                by_cases c30 : t346 = t342
                · rw [if_pos c30] at H
                  have c30b0 : (t346 == t342) = true := beq_iff_eq.mpr c30
                  have c30b1 : (t346 != t342) = false := bne_eq_false_iff_eq.mpr c30
                  clear c30
                  by_cases c31 : (wrap64 ((wrap64 (a0 + a2)) - a1)) > a3
                  · rw [if_pos c31] at H
                    have c31b0 : decide (a3 < (wrap64 ((wrap64 (a0 + a2)) - a1))) = true := decide_eq_true c31
                    clear c31
                    obtain rfl := Option.some.inj H
                    go_wp2_with (first | ((with_reducible refine gate_callee (f := 32) rfl ?_); refine goesL_ (some 47) rfl rfl Try.func32 (by kernel_rfl) rfl #[.int .i64 a0, .int .i64 a1, .int .i64 a2, .int .i64 a3] rfl (by (try simp only [List.map_toArray, List.map_cons, List.map_nil]); first | done | rfl | (simp only [List.length_drop, List.length_take]; rfl)) ?_; (with_reducible refine (anchor_Keep.calls a0 a1 a2 a3 t342 _ A16.out).mono ?_); rintro e w32 ⟨rfl, hb⟩; refine ⟨_, rfl, ?_⟩; have n0_ := Aside0.mk (below_step (by repeat (first | (with_reducible first | exact HB.out | apply below_alloc | apply pw_below_drewN | apply below_drew1) | exact HB.out)) hb); clear HB; have HB := n0_; clear n0_; (try clear hb); (try clear hb2); (try clear hk); (try clear hi)) | (go_at_call 32; (with_reducible refine (anchor_Keep.calls a0 a1 a1 a3 t345 _ A27.out).mono ?_); rintro e w33 ⟨rfl, hb⟩; have n0_ := Aside0.mk (below_step (by repeat (first | (with_reducible first | exact HB.out | apply below_alloc | apply pw_below_drewN | apply below_drew1) | exact HB.out)) hb); clear HB; have HB := n0_; clear n0_; (try clear hb); (try clear hb2); (try clear hk); (try clear hi)) | (go_at_call 32; (with_reducible refine (anchor_Keep.calls t342 a2 a2 a3 t346 _ A29.out).mono ?_); rintro e w34 ⟨rfl, hb⟩; have n0_ := Aside0.mk (below_step (by repeat (first | (with_reducible first | exact HB.out | apply below_alloc | apply pw_below_drewN | apply below_drew1) | exact HB.out)) hb); clear HB; have HB := n0_; clear n0_; (try clear hb); (try clear hb2); (try clear hk); (try clear hi)))
                    go_ret
                    exact ⟨by first | rfl | (cases Option.some.inj (A27.out.symm.trans A19.out); rfl) | (cases Option.some.inj (A29.out.symm.trans A21.out); rfl) | (cases Option.some.inj (A19.out.symm.trans A27.out); rfl) | (cases Option.some.inj (A21.out.symm.trans A29.out); rfl) | (simp [errW_none, errW_some] <;> rfl) | (simp [*, errW_none, errW_some] <;> rfl), by repeat (first | (with_reducible first | exact HB.out | apply below_alloc | apply pw_below_drewN | apply below_drew1) | exact HB.out)⟩
                  · rw [if_neg c31] at H
                    have c31b0 : decide (a3 < (wrap64 ((wrap64 (a0 + a2)) - a1))) = false := decide_eq_false c31
                    clear c31
                    replace H := Option.bind_eq_some_iff.mp H
                    obtain ⟨t347, A350, H⟩ := H
                    replace H : (some (t347 == a0)) = some r := H
                    have A35 := Aside0.mk A350
                    clear A350
                    obtain rfl := Option.some.inj H
                    go_wp2_with (first | ((with_reducible refine gate_callee (f := 32) rfl ?_); refine goesL_ (some 47) rfl rfl Try.func32 (by kernel_rfl) rfl #[.int .i64 a0, .int .i64 a1, .int .i64 a2, .int .i64 a3] rfl (by (try simp only [List.map_toArray, List.map_cons, List.map_nil]); first | done | rfl | (simp only [List.length_drop, List.length_take]; rfl)) ?_; (with_reducible refine (anchor_Keep.calls a0 a1 a2 a3 t342 _ A16.out).mono ?_); rintro e w36 ⟨rfl, hb⟩; refine ⟨_, rfl, ?_⟩; have n0_ := Aside0.mk (below_step (by repeat (first | (with_reducible first | exact HB.out | apply below_alloc | apply pw_below_drewN | apply below_drew1) | exact HB.out)) hb); clear HB; have HB := n0_; clear n0_; (try clear hb); (try clear hb2); (try clear hk); (try clear hi)) | (go_at_call 32; (with_reducible refine (anchor_Keep.calls a0 a1 a1 a3 t345 _ A27.out).mono ?_); rintro e w37 ⟨rfl, hb⟩; have n0_ := Aside0.mk (below_step (by repeat (first | (with_reducible first | exact HB.out | apply below_alloc | apply pw_below_drewN | apply below_drew1) | exact HB.out)) hb); clear HB; have HB := n0_; clear n0_; (try clear hb); (try clear hb2); (try clear hk); (try clear hi)) | (go_at_call 32; (with_reducible refine (anchor_Keep.calls t342 a2 a2 a3 t346 _ A29.out).mono ?_); rintro e w38 ⟨rfl, hb⟩; have n0_ := Aside0.mk (below_step (by repeat (first | (with_reducible first | exact HB.out | apply below_alloc | apply pw_below_drewN | apply below_drew1) | exact HB.out)) hb); clear HB; have HB := n0_; clear n0_; (try clear hb); (try clear hb2); (try clear hk); (try clear hi)) | (go_at_call 32; (with_reducible refine (anchor_Keep.calls t342 a2 a1 a3 t347 _ A35.out).mono ?_); rintro e w39 ⟨rfl, hb⟩; have n0_ := Aside0.mk (below_step (by repeat (first | (with_reducible first | exact HB.out | apply below_alloc | apply pw_below_drewN | apply below_drew1) | exact HB.out)) hb); clear HB; have HB := n0_; clear n0_; (try clear hb); (try clear hb2); (try clear hk); (try clear hi)))
                    go_ret
                    exact ⟨by first | rfl | (cases Option.some.inj (A27.out.symm.trans A19.out); rfl) | (cases Option.some.inj (A29.out.symm.trans A21.out); rfl) | (cases Option.some.inj (A19.out.symm.trans A27.out); rfl) | (cases Option.some.inj (A21.out.symm.trans A29.out); rfl) | (simp [errW_none, errW_some] <;> rfl) | (simp [*, errW_none, errW_some] <;> rfl), by repeat (first | (with_reducible first | exact HB.out | apply below_alloc | apply pw_below_drewN | apply below_drew1) | exact HB.out)⟩
                · rw [if_neg c30] at H
                  exact absurd H (by simp)
              · rw [if_neg c28] at H
                exact absurd H (by simp)
            · exact absurd rfl c26
  · replace c6 := Bool.eq_false_iff.mpr c6
    subst c6
    have H1 : (none) = some r := by rw [if_neg (show ¬ (false = true) by decide)] at H; exact H
    clear H
    have H := H1
    clear H1
    exact absurd H (by simp)

/-- THE ONE PURE STATEMENT of valancelaw12_AnchorAgain: yours. -/
def valancelaw12_AnchorAgain.Pure : Prop := ∀ (a0 : Int) (a1 : Int) (a2 : Int) (a3 : Int), (Lit.int .i64 a0).wf = true → (Lit.int .i64 a1).wf = true → (Lit.int .i64 a2).wf = true → (Lit.int .i64 a3).wf = true → ∃ k, valancelaw12_AnchorAgain.f k a0 a1 a2 a3 = some true
theorem valancelaw12_AnchorAgain.walk (P : valancelaw12_AnchorAgain.Pure) (a0 : Int) (a1 : Int) (a2 : Int) (a3 : Int) (w : World) (w0 : (Lit.int .i64 a0).wf = true) (w1 : (Lit.int .i64 a1).wf = true) (w2 : (Lit.int .i64 a2).wf = true) (w3 : (Lit.int .i64 a3).wf = true) :
    Calls Try.prog 12 #[.int .i64 a0, .int .i64 a1, .int .i64 a2, .int .i64 a3] w fun e w' => e = .returned (.bool true) ∧ Below w.heap.size w w' := by
  obtain ⟨k, h⟩ := P a0 a1 a2 a3 w0 w1 w2 w3
  refine (valancelaw12_AnchorAgain.calls k a0 a1 a2 a3 true w h).mono ?_
  rintro e w' ⟨rfl, hd⟩
  exact ⟨rfl, hd⟩

end Go.Proofs.Ytnmcefpnpfaklab.V
