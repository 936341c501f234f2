/- What the functions of this seat answer, as plain Lean functions, and that the calls come to just that (written by a program of this repo, over the kit's printer; Lean checks it). -/
import Derived.Test.YtnmcefpnpfaklabVx0
import Derived.Test.YtnmcefpnpfaklabVx20
import Derived.Test.YtnmcefpnpfaklabVx21
namespace Go.Proofs.Ytnmcefpnpfaklab.V
open Go.RowKit Go.Proofs.YtnmcefpnpfaklabW.PrintWords Go.Proofs.YtnmcefpnpfaklabW.PrintLast Go.Proofs.YtnmcefpnpfaklabW.PrintMore
attribute [local go_sem] max2_int min2_int max_two min_two max_three min_three max_four min_four   -- for this text's walks alone
set_option linter.unusedVariables false
set_option linter.unusedSimpArgs false

/-! ### valancelaw12_AnchorKeeps: function 11 -/
def valancelaw12_AnchorKeeps.j0 : Nat → Int → Int → Int → Int → Bool → Bool → Option (Bool)
  | 0, _, _, _, _, _, _ => none
  | k + 1, x0, x1, x2, x3, x9, x44 => if x44 = true then (some x9) else ((anchor_Keep.f x0 x1 x2 x3).bind fun t340 => (if x0 = 0 then (if x9 = true then (some (t340 == 0)) else (none)) else (if x9 = true then (if t340 ≥ 0 then (if t340 ≤ x3 then (if (wrap64 (x2 - t340)) = (wrap64 (x1 - x0)) then (some true) else (if t340 = 0 then (if (wrap64 ((wrap64 (x0 + x2)) - x1)) < 0 then (some true) else (if t340 = x3 then (some (decide ((wrap64 ((wrap64 (x0 + x2)) - x1)) > x3))) else (none))) else (if t340 = x3 then (some (decide ((wrap64 ((wrap64 (x0 + x2)) - x1)) > x3))) else (none)))) else (none)) else (none)) else (none))))
def valancelaw12_AnchorKeeps.f (k : Nat) (a0 : Int) (a1 : Int) (a2 : Int) (a3 : Int) : Option (Bool) := (valancelaw12_works.f k).bind fun t339 => (if t339 = true then (if a0 < 0 then (valancelaw12_AnchorKeeps.j0 k a0 a1 a2 a3 t339 true) else (if a0 > 1073741824 then (valancelaw12_AnchorKeeps.j0 k a0 a1 a2 a3 t339 true) else (if a1 < (-1073741824) then (valancelaw12_AnchorKeeps.j0 k a0 a1 a2 a3 t339 true) else (if a1 > 1073741824 then (valancelaw12_AnchorKeeps.j0 k a0 a1 a2 a3 t339 true) else (if a2 < (-1073741824) then (valancelaw12_AnchorKeeps.j0 k a0 a1 a2 a3 t339 true) else (if a2 > 1073741824 then (valancelaw12_AnchorKeeps.j0 k a0 a1 a2 a3 t339 true) else (if a3 < 0 then (valancelaw12_AnchorKeeps.j0 k a0 a1 a2 a3 t339 true) else (valancelaw12_AnchorKeeps.j0 k a0 a1 a2 a3 t339 (decide (a3 > 1073741824)))))))))) else (none))
theorem valancelaw12_AnchorKeeps.mono_l : ∀ k, (∀ y0 y1 y2 y3 y4 y5, LeO (valancelaw12_AnchorKeeps.j0 k y0 y1 y2 y3 y4 y5) (valancelaw12_AnchorKeeps.j0 (k + 1) y0 y1 y2 y3 y4 y5))
  | 0 => fun _ _ _ _ _ _ r h => by simp [valancelaw12_AnchorKeeps.j0] at h
  | k + 1 => by
    have ih0 := valancelaw12_AnchorKeeps.mono_l k
    · intro y0 y1 y2 y3 y4 y5
      unfold valancelaw12_AnchorKeeps.j0
      repeat' first
      | (with_reducible exact ih0 _ _ _ _ _ _)
      | (with_reducible exact valancelaw12_works.mono _)
      | (with_reducible exact LeO.refl _)
      | (with_reducible exact LeO.none _)
      | (with_reducible refine LeO.ite ?_ ?_)
      | (with_reducible refine LeO.bind ?_ (fun _ => ?_))
      | exact ih0 _ _ _ _ _ _
      | exact valancelaw12_works.mono _
      | exact LeO.none _
      | refine LeO.ite ?_ ?_
      | refine LeO.bind ?_ (fun _ => ?_)
theorem valancelaw12_AnchorKeeps.mono : ∀ a0 a1 a2 a3 k, LeO (valancelaw12_AnchorKeeps.f k a0 a1 a2 a3) (valancelaw12_AnchorKeeps.f (k + 1) a0 a1 a2 a3) := by
  intro a0 a1 a2 a3 k
  have ih0 := valancelaw12_AnchorKeeps.mono_l k
  unfold valancelaw12_AnchorKeeps.f
  repeat' first
      | (with_reducible exact ih0 _ _ _ _ _ _)
      | (with_reducible exact valancelaw12_works.mono _)
      | (with_reducible exact LeO.refl _)
      | (with_reducible exact LeO.none _)
      | (with_reducible refine LeO.ite ?_ ?_)
      | (with_reducible refine LeO.bind ?_ (fun _ => ?_))
      | exact ih0 _ _ _ _ _ _
      | exact valancelaw12_works.mono _
      | exact LeO.none _
      | refine LeO.ite ?_ ?_
      | refine LeO.bind ?_ (fun _ => ?_)
set_option maxHeartbeats 8000000 in
set_option maxRecDepth 100000 in
theorem valancelaw12_AnchorKeeps.calls (k : Nat) (a0 : Int) (a1 : Int) (a2 : Int) (a3 : Int) (r : Bool) (w : World) (h : valancelaw12_AnchorKeeps.f k a0 a1 a2 a3 = some r) :
    Calls Try.prog 11 #[.int .i64 a0, .int .i64 a1, .int .i64 a2, .int .i64 a3] w fun e w' => e = .returned (.bool r) ∧ Below w.heap.size w w' := by
  have HB := Aside0.mk (Below.refl w.heap.size w)
  have H : ((valancelaw12_works.f k).bind fun t339 => (if t339 = true then (if a0 < 0 then (valancelaw12_AnchorKeeps.j0 k a0 a1 a2 a3 t339 true) else (if a0 > 1073741824 then (valancelaw12_AnchorKeeps.j0 k a0 a1 a2 a3 t339 true) else (if a1 < (-1073741824) then (valancelaw12_AnchorKeeps.j0 k a0 a1 a2 a3 t339 true) else (if a1 > 1073741824 then (valancelaw12_AnchorKeeps.j0 k a0 a1 a2 a3 t339 true) else (if a2 < (-1073741824) then (valancelaw12_AnchorKeeps.j0 k a0 a1 a2 a3 t339 true) else (if a2 > 1073741824 then (valancelaw12_AnchorKeeps.j0 k a0 a1 a2 a3 t339 true) else (if a3 < 0 then (valancelaw12_AnchorKeeps.j0 k a0 a1 a2 a3 t339 true) else (valancelaw12_AnchorKeeps.j0 k a0 a1 a2 a3 t339 (decide (a3 > 1073741824)))))))))) else (none))) = some r := h
  clear h
  replace H := Option.bind_eq_some_iff.mp H
  obtain ⟨t339, A50, H⟩ := H
  replace H : (if t339 = true then (if a0 < 0 then (valancelaw12_AnchorKeeps.j0 k a0 a1 a2 a3 t339 true) else (if a0 > 1073741824 then (valancelaw12_AnchorKeeps.j0 k a0 a1 a2 a3 t339 true) else (if a1 < (-1073741824) then (valancelaw12_AnchorKeeps.j0 k a0 a1 a2 a3 t339 true) else (if a1 > 1073741824 then (valancelaw12_AnchorKeeps.j0 k a0 a1 a2 a3 t339 true) else (if a2 < (-1073741824) then (valancelaw12_AnchorKeeps.j0 k a0 a1 a2 a3 t339 true) else (if a2 > 1073741824 then (valancelaw12_AnchorKeeps.j0 k a0 a1 a2 a3 t339 true) else (if a3 < 0 then (valancelaw12_AnchorKeeps.j0 k a0 a1 a2 a3 t339 true) else (valancelaw12_AnchorKeeps.j0 k a0 a1 a2 a3 t339 (decide (a3 > 1073741824)))))))))) else (none)) = some r := H
  have A5 := Aside0.mk A50
  clear A50
  by_cases c6 : t339 = true
  · subst c6
    have H1 : (if a0 < 0 then (valancelaw12_AnchorKeeps.j0 k a0 a1 a2 a3 true true) else (if a0 > 1073741824 then (valancelaw12_AnchorKeeps.j0 k a0 a1 a2 a3 true true) else (if a1 < (-1073741824) then (valancelaw12_AnchorKeeps.j0 k a0 a1 a2 a3 true true) else (if a1 > 1073741824 then (valancelaw12_AnchorKeeps.j0 k a0 a1 a2 a3 true true) else (if a2 < (-1073741824) then (valancelaw12_AnchorKeeps.j0 k a0 a1 a2 a3 true true) else (if a2 > 1073741824 then (valancelaw12_AnchorKeeps.j0 k a0 a1 a2 a3 true true) else (if a3 < 0 then (valancelaw12_AnchorKeeps.j0 k a0 a1 a2 a3 true true) else (valancelaw12_AnchorKeeps.j0 k a0 a1 a2 a3 true (decide (a3 > 1073741824)))))))))) = some r := by rw [if_pos rfl] at H; exact H
    clear H
    have H := H1
    clear H1
    have HC7 := Aside0.mk H
    clear H
    go_enter Try.func11, Try.ntmps11
    go_upto_region 4 with (first | ((with_reducible refine gate_callee (f := 24) rfl ?_); refine goesL_ (some 12) rfl rfl Try.func24 (by kernel_rfl) rfl #[] rfl (by (try simp only [List.map_toArray, List.map_cons, List.map_nil]); first | done | rfl | (simp only [List.length_drop, List.length_take]; rfl)) ?_; (with_reducible refine (valancelaw12_works.calls k  true _ A5.out).mono ?_); rintro e w8 ⟨rfl, hb⟩; refine ⟨_, rfl, ?_⟩; have n0_ := Aside0.mk (below_step (by repeat (first | (with_reducible first | exact HB.out | apply below_alloc | apply pw_below_drewN | apply below_drew1) | exact HB.out)) hb); clear HB; have HB := n0_; clear n0_; (try clear hb); (try clear hb2); (try clear hk); (try clear hi)))
    (try simp only [Act.put, List.setIfInBounds_toArray, List.set_cons_zero, List.set_cons_succ])
    go_cut [44] (fun v44 wc => ∃ (kq : Nat) (x44_6 : Bool), v44 = .bool x44_6 ∧ Aside0 (valancelaw12_AnchorKeeps.j0 kq a0 a1 a2 a3 true x44_6 = some r) ∧ Aside0 (kq ≤ k) ∧ Aside0 (Below w.heap.size w wc))
    case first =>
      have H := HC7.out
      clear HC7
      by_cases c9 : a0 < 0
      · rw [if_pos c9] at H
        have c9b0 : decide (a0 < 0) = true := decide_eq_true c9
        clear c9
        (first | rw [c9b0] | (simp only [i64_w, i32_w]; rw [c9b0]) | skip)
        have H' := Aside0.mk H
        clear H
        go_wp2
        go_meet
        case rel => exact ⟨_, (true), (by first | rfl | (simp; done) | (simp [*]; done)), H', ⟨by first | omega | exact Nat.le_refl _⟩, ⟨by repeat (first | (with_reducible first | exact HB.out | apply below_alloc | apply pw_below_drewN | apply below_drew1) | exact HB.out)⟩⟩
      · rw [if_neg c9] at H
        have c9b0 : decide (a0 < 0) = false := decide_eq_false c9
        clear c9
        (first | rw [c9b0] | (simp only [i64_w, i32_w]; rw [c9b0]) | skip)
        by_cases c10 : a0 > 1073741824
        · rw [if_pos c10] at H
          have c10b0 : decide (1073741824 < a0) = true := decide_eq_true c10
          clear c10
          have H' := Aside0.mk H
          clear H
          go_wp2
          go_meet
          case rel => exact ⟨_, (true), (by first | rfl | (simp; done) | (simp [*]; done)), H', ⟨by first | omega | exact Nat.le_refl _⟩, ⟨by repeat (first | (with_reducible first | exact HB.out | apply below_alloc | apply pw_below_drewN | apply below_drew1) | exact HB.out)⟩⟩
        · rw [if_neg c10] at H
          have c10b0 : decide (1073741824 < a0) = false := decide_eq_false c10
          clear c10
          by_cases c11 : a1 < (-1073741824)
          · rw [if_pos c11] at H
            have c11b0 : decide (a1 < (-1073741824)) = true := decide_eq_true c11
            clear c11
            have H' := Aside0.mk H
            clear H
            go_wp2
            go_meet
            case rel => exact ⟨_, (true), (by first | rfl | (simp; done) | (simp [*]; done)), H', ⟨by first | omega | exact Nat.le_refl _⟩, ⟨by repeat (first | (with_reducible first | exact HB.out | apply below_alloc | apply pw_below_drewN | apply below_drew1) | exact HB.out)⟩⟩
          · rw [if_neg c11] at H
            have c11b0 : decide (a1 < (-1073741824)) = false := decide_eq_false c11
            clear c11
            by_cases c12 : a1 > 1073741824
            · rw [if_pos c12] at H
              have c12b0 : decide (1073741824 < a1) = true := decide_eq_true c12
              clear c12
              have H' := Aside0.mk H
              clear H
              go_wp2
              go_meet
              case rel => exact ⟨_, (true), (by first | rfl | (simp; done) | (simp [*]; done)), H', ⟨by first | omega | exact Nat.le_refl _⟩, ⟨by repeat (first | (with_reducible first | exact HB.out | apply below_alloc | apply pw_below_drewN | apply below_drew1) | exact HB.out)⟩⟩
            · rw [if_neg c12] at H
              have c12b0 : decide (1073741824 < a1) = false := decide_eq_false c12
              clear c12
              by_cases c13 : a2 < (-1073741824)
              · rw [if_pos c13] at H
                have c13b0 : decide (a2 < (-1073741824)) = true := decide_eq_true c13
                clear c13
                have H' := Aside0.mk H
                clear H
                go_wp2
                go_meet
                case rel => exact ⟨_, (true), (by first | rfl | (simp; done) | (simp [*]; done)), H', ⟨by first | omega | exact Nat.le_refl _⟩, ⟨by repeat (first | (with_reducible first | exact HB.out | apply below_alloc | apply pw_below_drewN | apply below_drew1) | exact HB.out)⟩⟩
              · rw [if_neg c13] at H
                have c13b0 : decide (a2 < (-1073741824)) = false := decide_eq_false c13
                clear c13
                by_cases c14 : a2 > 1073741824
                · rw [if_pos c14] at H
                  have c14b0 : decide (1073741824 < a2) = true := decide_eq_true c14
                  clear c14
                  have H' := Aside0.mk H
                  clear H
                  go_wp2
                  go_meet
                  case rel => exact ⟨_, (true), (by first | rfl | (simp; done) | (simp [*]; done)), H', ⟨by first | omega | exact Nat.le_refl _⟩, ⟨by repeat (first | (with_reducible first | exact HB.out | apply below_alloc | apply pw_below_drewN | apply below_drew1) | exact HB.out)⟩⟩
                · rw [if_neg c14] at H
                  have c14b0 : decide (1073741824 < a2) = false := decide_eq_false c14
                  clear c14
                  by_cases c15 : a3 < 0
                  · rw [if_pos c15] at H
                    have c15b0 : decide (a3 < 0) = true := decide_eq_true c15
                    clear c15
                    have H' := Aside0.mk H
                    clear H
                    go_wp2
                    go_meet
                    case rel => exact ⟨_, (true), (by first | rfl | (simp; done) | (simp [*]; done)), H', ⟨by first | omega | exact Nat.le_refl _⟩, ⟨by repeat (first | (with_reducible first | exact HB.out | apply below_alloc | apply pw_below_drewN | apply below_drew1) | exact HB.out)⟩⟩
                  · rw [if_neg c15] at H
                    have c15b0 : decide (a3 < 0) = false := decide_eq_false c15
                    clear c15
                    have H' := Aside0.mk H
                    clear H
                    go_wp2
                    go_meet
                    case rel => exact ⟨_, (decide (a3 > 1073741824)), (by first | rfl | (simp; done) | (simp [*]; done)), H', ⟨by first | omega | exact Nat.le_refl _⟩, ⟨by repeat (first | (with_reducible first | exact HB.out | apply below_alloc | apply pw_below_drewN | apply below_drew1) | exact HB.out)⟩⟩
    case rest =>
      clear HC7
      try clear c1
      try clear c2
      try clear p2
      try clear c6
      try clear c9
      try clear c9b0
      try clear c10
      try clear c10b0
      try clear c11
      try clear c11b0
      try clear c12
      try clear c12b0
      try clear c13
      try clear c13b0
      try clear c14
      try clear c14b0
      try clear c15
      try clear c15b0
      obtain ⟨kq, x44_6, rfl, HA, HJ6, HB⟩ := hcut
      cases kq with
      | zero => exact absurd HA.out (by simp [valancelaw12_AnchorKeeps.j0])
      | succ kj6 =>
        have H := HA.out
        clear HA
        simp only [valancelaw12_AnchorKeeps.j0] at H
        by_cases c16 : x44_6 = true
        · subst c16
          have H1 : (some true) = some r := by rw [if_pos rfl] at H; exact H
          clear H
          have H := H1
          clear H1
          obtain rfl := Option.some.inj H
          go_wp2
          go_ret
          exact ⟨by first | rfl | (simp [errW_none, errW_some] <;> rfl) | (simp [*, errW_none, errW_some] <;> rfl), by repeat (first | (with_reducible first | exact HB.out | apply below_alloc | apply pw_below_drewN | apply below_drew1) | exact HB.out)⟩
        · replace c16 := Bool.eq_false_iff.mpr c16
          subst c16
          have H1 : ((anchor_Keep.f a0 a1 a2 a3).bind fun t340 => (if a0 = 0 then (if true = true then (some (t340 == 0)) else (none)) else (if true = true then (if t340 ≥ 0 then (if t340 ≤ a3 then (if (wrap64 (a2 - t340)) = (wrap64 (a1 - a0)) then (some true) else (if t340 = 0 then (if (wrap64 ((wrap64 (a0 + a2)) - a1)) < 0 then (some true) else (if t340 = a3 then (some (decide ((wrap64 ((wrap64 (a0 + a2)) - a1)) > a3))) else (none))) else (if t340 = a3 then (some (decide ((wrap64 ((wrap64 (a0 + a2)) - a1)) > a3))) else (none)))) else (none)) else (none)) else (none)))) = some r := by rw [if_neg (show ¬ (false = true) by decide)] at H; exact H
          clear H
          have H := H1
          clear H1
          replace H := Option.bind_eq_some_iff.mp H
          obtain ⟨t340, A170, H⟩ := H
          replace H : (if a0 = 0 then (if true = true then (some (t340 == 0)) else (none)) else (if true = true then (if t340 ≥ 0 then (if t340 ≤ a3 then (if (wrap64 (a2 - t340)) = (wrap64 (a1 - a0)) then (some true) else (if t340 = 0 then (if (wrap64 ((wrap64 (a0 + a2)) - a1)) < 0 then (some true) else (if t340 = a3 then (some (decide ((wrap64 ((wrap64 (a0 + a2)) - a1)) > a3))) else (none))) else (if t340 = a3 then (some (decide ((wrap64 ((wrap64 (a0 + a2)) - a1)) > a3))) else (none)))) else (none)) else (none)) else (none))) = some r := H
          have A17 := Aside0.mk A170
          clear A170
          by_cases c18 : a0 = 0
          · rw [if_pos c18] at H
            have c18b0 : (a0 == 0) = true := beq_iff_eq.mpr c18
            have c18b1 : (a0 != 0) = false := bne_eq_false_iff_eq.mpr c18
            clear c18
            by_cases c19 : true = true
            · clear c19
              have H1 : (some (t340 == 0)) = some r := by first | (rw [if_pos rfl] at H; exact H) | (rw [if_pos True.intro] at H; exact H)
              clear H
              have H := H1
              clear H1
              obtain rfl := Option.some.inj H
              go_wp2_with (first | ((with_reducible refine gate_callee (f := 32) rfl ?_); refine goesL_ (some 50) rfl rfl Try.func32 (by kernel_rfl) rfl #[.int .i64 a0, .int .i64 a1, .int .i64 a2, .int .i64 a3] rfl (by (try simp only [List.map_toArray, List.map_cons, List.map_nil]); first | done | rfl | (simp only [List.length_drop, List.length_take]; rfl)) ?_; (with_reducible refine (anchor_Keep.calls a0 a1 a2 a3 t340 _ A17.out).mono ?_); rintro e w20 ⟨rfl, hb⟩; refine ⟨_, rfl, ?_⟩; have n0_ := Aside0.mk (below_step (by repeat (first | (with_reducible first | exact HB.out | apply below_alloc | apply pw_below_drewN | apply below_drew1) | exact HB.out)) hb); clear HB; have HB := n0_; clear n0_; (try clear hb); (try clear hb2); (try clear hk); (try clear hi)))
              go_ret
              exact ⟨by first | rfl | (simp [errW_none, errW_some] <;> rfl) | (simp [*, errW_none, errW_some] <;> rfl), by repeat (first | (with_reducible first | exact HB.out | apply below_alloc | apply pw_below_drewN | apply below_drew1) | exact HB.out)⟩
            · exact absurd rfl c19
          · rw [if_neg c18] at H
            have c18b0 : (a0 == 0) = false := beq_eq_false_iff_ne.mpr c18
            have c18b1 : (a0 != 0) = true := bne_iff_ne.mpr c18
            by_cases c21 : true = true
            · clear c21
              have H1 : (if t340 ≥ 0 then (if t340 ≤ a3 then (if (wrap64 (a2 - t340)) = (wrap64 (a1 - a0)) then (some true) else (if t340 = 0 then (if (wrap64 ((wrap64 (a0 + a2)) - a1)) < 0 then (some true) else (if t340 = a3 then (some (decide ((wrap64 ((wrap64 (a0 + a2)) - a1)) > a3))) else (none))) else (if t340 = a3 then (some (decide ((wrap64 ((wrap64 (a0 + a2)) - a1)) > a3))) else (none)))) else (none)) else (none)) = some r := by first | (rw [if_pos rfl] at H; exact H) | (rw [if_pos True.intro] at H; exact H)
              clear H
              have H := H1
              clear H1
              by_cases c22 : t340 ≥ 0
              · rw [if_pos c22] at H
                have c22b0 : decide (0 ≤ t340) = true := decide_eq_true c22
                clear c22
                by_cases c23 : t340 ≤ a3
                · rw [if_pos c23] at H
                  have c23b0 : decide (t340 ≤ a3) = true := decide_eq_true c23
                  clear c23
                  by_cases c24 : (wrap64 (a2 - t340)) = (wrap64 (a1 - a0))
                  · rw [if_pos c24] at H
                    have c24b0 : ((wrap64 (a2 - t340)) == (wrap64 (a1 - a0))) = true := beq_iff_eq.mpr c24
                    have c24b1 : ((wrap64 (a2 - t340)) != (wrap64 (a1 - a0))) = false := bne_eq_false_iff_eq.mpr c24
                    clear c24
                    obtain rfl := Option.some.inj H
                    go_wp2_with (first | ((with_reducible refine gate_callee (f := 32) rfl ?_); refine goesL_ (some 50) rfl rfl Try.func32 (by kernel_rfl) rfl #[.int .i64 a0, .int .i64 a1, .int .i64 a2, .int .i64 a3] rfl (by (try simp only [List.map_toArray, List.map_cons, List.map_nil]); first | done | rfl | (simp only [List.length_drop, List.length_take]; rfl)) ?_; (with_reducible refine (anchor_Keep.calls a0 a1 a2 a3 t340 _ A17.out).mono ?_); rintro e w25 ⟨rfl, hb⟩; refine ⟨_, rfl, ?_⟩; have n0_ := Aside0.mk (below_step (by repeat (first | (with_reducible first | exact HB.out | apply below_alloc | apply pw_below_drewN | apply below_drew1) | exact HB.out)) hb); clear HB; have HB := n0_; clear n0_; (try clear hb); (try clear hb2); (try clear hk); (try clear hi)))
                    go_ret
                    exact ⟨by first | rfl | (simp [errW_none, errW_some] <;> rfl) | (simp [*, errW_none, errW_some] <;> rfl), by repeat (first | (with_reducible first | exact HB.out | apply below_alloc | apply pw_below_drewN | apply below_drew1) | exact HB.out)⟩
                  · rw [if_neg c24] at H
                    have c24b0 : ((wrap64 (a2 - t340)) == (wrap64 (a1 - a0))) = false := beq_eq_false_iff_ne.mpr c24
                    have c24b1 : ((wrap64 (a2 - t340)) != (wrap64 (a1 - a0))) = true := bne_iff_ne.mpr c24
                    by_cases c26 : t340 = 0
                    · rw [if_pos c26] at H
                      have c26b0 : (t340 == 0) = true := beq_iff_eq.mpr c26
                      have c26b1 : (t340 != 0) = false := bne_eq_false_iff_eq.mpr c26
                      clear c26
                      by_cases c27 : (wrap64 ((wrap64 (a0 + a2)) - a1)) < 0
                      · rw [if_pos c27] at H
                        have c27b0 : decide ((wrap64 ((wrap64 (a0 + a2)) - a1)) < 0) = true := decide_eq_true c27
                        clear c27
                        obtain rfl := Option.some.inj H
                        go_wp2_with (first | ((with_reducible refine gate_callee (f := 32) rfl ?_); refine goesL_ (some 50) rfl rfl Try.func32 (by kernel_rfl) rfl #[.int .i64 a0, .int .i64 a1, .int .i64 a2, .int .i64 a3] rfl (by (try simp only [List.map_toArray, List.map_cons, List.map_nil]); first | done | rfl | (simp only [List.length_drop, List.length_take]; rfl)) ?_; (with_reducible refine (anchor_Keep.calls a0 a1 a2 a3 t340 _ A17.out).mono ?_); rintro e w28 ⟨rfl, hb⟩; refine ⟨_, rfl, ?_⟩; have n0_ := Aside0.mk (below_step (by repeat (first | (with_reducible first | exact HB.out | apply below_alloc | apply pw_below_drewN | apply below_drew1) | exact HB.out)) hb); clear HB; have HB := n0_; clear n0_; (try clear hb); (try clear hb2); (try clear hk); (try clear hi)))
                        go_ret
                        exact ⟨by first | rfl | (simp [errW_none, errW_some] <;> rfl) | (simp [*, errW_none, errW_some] <;> rfl), by repeat (first | (with_reducible first | exact HB.out | apply below_alloc | apply pw_below_drewN | apply below_drew1) | exact HB.out)⟩
                      · rw [if_neg c27] at H
                        have c27b0 : decide ((wrap64 ((wrap64 (a0 + a2)) - a1)) < 0) = false := decide_eq_false c27
                        clear c27
                        by_cases c29 : t340 = a3
                        · rw [if_pos c29] at H
                          have c29b0 : (t340 == a3) = true := beq_iff_eq.mpr c29
                          have c29b1 : (t340 != a3) = false := bne_eq_false_iff_eq.mpr c29
                          clear c29
                          obtain rfl := Option.some.inj H
                          go_wp2_with (first | ((with_reducible refine gate_callee (f := 32) rfl ?_); refine goesL_ (some 50) rfl rfl Try.func32 (by kernel_rfl) rfl #[.int .i64 a0, .int .i64 a1, .int .i64 a2, .int .i64 a3] rfl (by (try simp only [List.map_toArray, List.map_cons, List.map_nil]); first | done | rfl | (simp only [List.length_drop, List.length_take]; rfl)) ?_; (with_reducible refine (anchor_Keep.calls a0 a1 a2 a3 t340 _ A17.out).mono ?_); rintro e w30 ⟨rfl, hb⟩; refine ⟨_, rfl, ?_⟩; have n0_ := Aside0.mk (below_step (by repeat (first | (with_reducible first | exact HB.out | apply below_alloc | apply pw_below_drewN | apply below_drew1) | exact HB.out)) hb); clear HB; have HB := n0_; clear n0_; (try clear hb); (try clear hb2); (try clear hk); (try clear hi)))
                          go_ret
                          exact ⟨by first | rfl | (simp [errW_none, errW_some] <;> rfl) | (simp [*, errW_none, errW_some] <;> rfl), by repeat (first | (with_reducible first | exact HB.out | apply below_alloc | apply pw_below_drewN | apply below_drew1) | exact HB.out)⟩
                        · rw [if_neg c29] at H
                          exact absurd H (by simp)
                    · rw [if_neg c26] at H
                      have c26b0 : (t340 == 0) = false := beq_eq_false_iff_ne.mpr c26
                      have c26b1 : (t340 != 0) = true := bne_iff_ne.mpr c26
                      by_cases c31 : t340 = a3
                      · rw [if_pos c31] at H
                        have c31b0 : (t340 == a3) = true := beq_iff_eq.mpr c31
                        have c31b1 : (t340 != a3) = false := bne_eq_false_iff_eq.mpr c31
                        clear c31
                        obtain rfl := Option.some.inj H
                        go_wp2_with (first | ((with_reducible refine gate_callee (f := 32) rfl ?_); refine goesL_ (some 50) rfl rfl Try.func32 (by kernel_rfl) rfl #[.int .i64 a0, .int .i64 a1, .int .i64 a2, .int .i64 a3] rfl (by (try simp only [List.map_toArray, List.map_cons, List.map_nil]); first | done | rfl | (simp only [List.length_drop, List.length_take]; rfl)) ?_; (with_reducible refine (anchor_Keep.calls a0 a1 a2 a3 t340 _ A17.out).mono ?_); rintro e w32 ⟨rfl, hb⟩; refine ⟨_, rfl, ?_⟩; have n0_ := Aside0.mk (below_step (by repeat (first | (with_reducible first | exact HB.out | apply below_alloc | apply pw_below_drewN | apply below_drew1) | exact HB.out)) hb); clear HB; have HB := n0_; clear n0_; (try clear hb); (try clear hb2); (try clear hk); (try clear hi)))
                        go_ret
                        exact ⟨by first | rfl | (simp [errW_none, errW_some] <;> rfl) | (simp [*, errW_none, errW_some] <;> rfl), by repeat (first | (with_reducible first | exact HB.out | apply below_alloc | apply pw_below_drewN | apply below_drew1) | exact HB.out)⟩
                      · rw [if_neg c31] at H
                        exact absurd H (by simp)
                · rw [if_neg c23] at H
                  exact absurd H (by simp)
              · rw [if_neg c22] at H
                exact absurd H (by simp)
            · exact absurd rfl c21
  · replace c6 := Bool.eq_false_iff.mpr c6
    subst c6
    have H1 : (none) = some r := by rw [if_neg (show ¬ (false = true) by decide)] at H; exact H
    clear H
    have H := H1
    clear H1
    exact absurd H (by simp)

/-- THE ONE PURE STATEMENT of valancelaw12_AnchorKeeps: yours. -/
def valancelaw12_AnchorKeeps.Pure : Prop := ∀ (a0 : Int) (a1 : Int) (a2 : Int) (a3 : Int), (Lit.int .i64 a0).wf = true → (Lit.int .i64 a1).wf = true → (Lit.int .i64 a2).wf = true → (Lit.int .i64 a3).wf = true → ∃ k, valancelaw12_AnchorKeeps.f k a0 a1 a2 a3 = some true
theorem valancelaw12_AnchorKeeps.walk (P : valancelaw12_AnchorKeeps.Pure) (a0 : Int) (a1 : Int) (a2 : Int) (a3 : Int) (w : World) (w0 : (Lit.int .i64 a0).wf = true) (w1 : (Lit.int .i64 a1).wf = true) (w2 : (Lit.int .i64 a2).wf = true) (w3 : (Lit.int .i64 a3).wf = true) :
    Calls Try.prog 11 #[.int .i64 a0, .int .i64 a1, .int .i64 a2, .int .i64 a3] w fun e w' => e = .returned (.bool true) ∧ Below w.heap.size w w' := by
  obtain ⟨k, h⟩ := P a0 a1 a2 a3 w0 w1 w2 w3
  refine (valancelaw12_AnchorKeeps.calls k a0 a1 a2 a3 true w h).mono ?_
  rintro e w' ⟨rfl, hd⟩
  exact ⟨rfl, hd⟩

end Go.Proofs.Ytnmcefpnpfaklab.V
