/- What the functions of this seat answer, as plain Lean functions, and that the calls come to just that (written by a program of this repo, over the kit's printer; Lean checks it). -/
import Derived.Test.YtnmcefpnpfakladVx0
import Derived.Test.YtnmcefpnpfakladVx4
import Derived.Test.YtnmcefpnpfakladVx11
import Derived.Test.YtnmcefpnpfakladVx14
namespace Go.Proofs.Ytnmcefpnpfaklad.V
open Go.RowKit Go.Proofs.YtnmcefpnpfakladW.PrintWords Go.Proofs.YtnmcefpnpfakladW.PrintLast Go.Proofs.YtnmcefpnpfakladW.PrintMore
attribute [local go_sem] max2_int min2_int max_two min_two max_three min_three max_four min_four   -- for this text's walks alone
set_option linter.unusedVariables false
set_option linter.unusedSimpArgs false

/-! ### valancelaw09_JustifyApart: function 4 -/
mutual
def valancelaw09_JustifyApart.j0 : Nat → Int → List Int → Int → Int → Bool → Bool → Option (Bool)
  | 0, _, _, _, _, _, _ => none
  | k + 1, x0, x1, x2, x3, x9, x41 => if x41 = true then (some x9) else (valancelaw09_JustifyApart.l0 k x0 x1 x2 x3 x9 0)
def valancelaw09_JustifyApart.l0 : Nat → Int → List Int → Int → Int → Bool → Int → Option (Bool)
  | 0, _, _, _, _, _, _ => none
  | k + 1, x0, x1, x2, x3, x9, x10 => if x10 < (x1.length : Int) then (if 0 ≤ x10 then (if (rd x1 x10) < 0 then (some x9) else (if (rd x1 x10) > 1048576 then (some x9) else (valancelaw09_JustifyApart.l0 k x0 x1 x2 x3 x9 (wrap64 (x10 + 1))))) else (none)) else ((justify_Starts.f k x0 x1 x2 x3).bind fun t225 => (if (t225.length : Int) = (x1.length : Int) then (valancelaw09_JustifyApart.l1 k x0 x1 x2 x3 x9 t225 1) else (none)))
def valancelaw09_JustifyApart.l1 : Nat → Int → List Int → Int → Int → Bool → List Int → Int → Option (Bool)
  | 0, _, _, _, _, _, _, _ => none
  | k + 1, x0, x1, x2, x3, x9, x11, x12 => if x12 < (x11.length : Int) then (if 0 ≤ x12 then (if 0 ≤ (wrap64 (x12 - 1)) then (if (wrap64 (x12 - 1)) < (x11.length : Int) then (if (wrap64 (x12 - 1)) < (x1.length : Int) then (if (rd x11 x12) < (wrap64 ((wrap64 ((rd x11 (wrap64 (x12 - 1))) + (rd x1 (wrap64 (x12 - 1))))) + x3)) then (none) else (valancelaw09_JustifyApart.l1 k x0 x1 x2 x3 x9 x11 (wrap64 (x12 + 1)))) else (none)) else (none)) else (none)) else (none)) else (if 0 ≤ (wrap64 ((x11.length : Int) - 1)) then (if (wrap64 ((x11.length : Int) - 1)) < (x11.length : Int) then (if (wrap64 ((x11.length : Int) - 1)) < (x1.length : Int) then ((lines_Long.f k x1 x3).bind fun t233 => (if t233 ≤ x2 then (if 0 < (x11.length : Int) then (if (rd x11 0) < 0 then (none) else (if (wrap64 ((rd x11 (wrap64 ((x11.length : Int) - 1))) + (rd x1 (wrap64 ((x11.length : Int) - 1))))) > x2 then (none) else (if x9 = true then (if x0 = 3 then (if (x1.length : Int) < 2 then (if x0 = 1 then (some ((wrap64 ((rd x11 (wrap64 ((x11.length : Int) - 1))) + (rd x1 (wrap64 ((x11.length : Int) - 1))))) == x2)) else (some true)) else (if (rd x11 0) = 0 then (if (wrap64 ((rd x11 (wrap64 ((x11.length : Int) - 1))) + (rd x1 (wrap64 ((x11.length : Int) - 1))))) = x2 then (if x0 = 1 then (some ((wrap64 ((rd x11 (wrap64 ((x11.length : Int) - 1))) + (rd x1 (wrap64 ((x11.length : Int) - 1))))) == x2)) else (some true)) else (none)) else (none))) else (if x0 = 1 then (some ((wrap64 ((rd x11 (wrap64 ((x11.length : Int) - 1))) + (rd x1 (wrap64 ((x11.length : Int) - 1))))) == x2)) else (some true))) else (none)))) else (none)) else (if x9 = true then (if x0 = 1 then (some ((wrap64 ((rd x11 (wrap64 ((x11.length : Int) - 1))) + (rd x1 (wrap64 ((x11.length : Int) - 1))))) == x2)) else (some true)) else (none)))) else (none)) else (none)) else (none))
end
def valancelaw09_JustifyApart.f (k : Nat) (a0 : Int) (l1 : List Int) (a2 : Int) (a3 : Int) : Option (Bool) := (valancelaw09_works.f k).bind fun t222 => (if t222 = true then (if (l1.length : Int) > 64 then (valancelaw09_JustifyApart.j0 k a0 l1 a2 a3 t222 true) else (if (l1.length : Int) = 0 then (valancelaw09_JustifyApart.j0 k a0 l1 a2 a3 t222 true) else (if a2 < 0 then (valancelaw09_JustifyApart.j0 k a0 l1 a2 a3 t222 true) else (if a2 > 1073741824 then (valancelaw09_JustifyApart.j0 k a0 l1 a2 a3 t222 true) else (if a3 < 0 then (valancelaw09_JustifyApart.j0 k a0 l1 a2 a3 t222 true) else (valancelaw09_JustifyApart.j0 k a0 l1 a2 a3 t222 (decide (a3 > 1048576)))))))) else (none))
theorem valancelaw09_JustifyApart.mono_l : ∀ k, (∀ y0 y1 y2 y3 y4 y5, LeO (valancelaw09_JustifyApart.j0 k y0 y1 y2 y3 y4 y5) (valancelaw09_JustifyApart.j0 (k + 1) y0 y1 y2 y3 y4 y5)) ∧ (∀ y0 y1 y2 y3 y4 y5, LeO (valancelaw09_JustifyApart.l0 k y0 y1 y2 y3 y4 y5) (valancelaw09_JustifyApart.l0 (k + 1) y0 y1 y2 y3 y4 y5)) ∧ (∀ y0 y1 y2 y3 y4 y5 y6, LeO (valancelaw09_JustifyApart.l1 k y0 y1 y2 y3 y4 y5 y6) (valancelaw09_JustifyApart.l1 (k + 1) y0 y1 y2 y3 y4 y5 y6))
  | 0 => ⟨fun _ _ _ _ _ _ r h => by simp [valancelaw09_JustifyApart.j0] at h, fun _ _ _ _ _ _ r h => by simp [valancelaw09_JustifyApart.l0] at h, fun _ _ _ _ _ _ _ r h => by simp [valancelaw09_JustifyApart.l1] at h⟩
  | k + 1 => by
    obtain ⟨ih0, ih1, ih2⟩ := valancelaw09_JustifyApart.mono_l k
    refine ⟨?_, ?_, ?_⟩
    · intro y0 y1 y2 y3 y4 y5
      unfold valancelaw09_JustifyApart.j0
      repeat' first
      | (with_reducible exact ih0 _ _ _ _ _ _)
      | (with_reducible exact ih1 _ _ _ _ _ _)
      | (with_reducible exact ih2 _ _ _ _ _ _ _)
      | (with_reducible exact justify_Starts.mono _ _ _ _ _)
      | (with_reducible exact lines_Long.mono _ _ _)
      | (with_reducible exact valancelaw09_works.mono _)
      | (with_reducible exact LeO.refl _)
      | (with_reducible exact LeO.none _)
      | (with_reducible refine LeO.ite ?_ ?_)
      | (with_reducible refine LeO.bind ?_ (fun _ => ?_))
      | exact ih0 _ _ _ _ _ _
      | exact ih1 _ _ _ _ _ _
      | exact ih2 _ _ _ _ _ _ _
      | exact justify_Starts.mono _ _ _ _ _
      | exact lines_Long.mono _ _ _
      | exact valancelaw09_works.mono _
      | exact LeO.none _
      | refine LeO.ite ?_ ?_
      | refine LeO.bind ?_ (fun _ => ?_)
    · intro y0 y1 y2 y3 y4 y5
      unfold valancelaw09_JustifyApart.l0
      repeat' first
      | (with_reducible exact ih0 _ _ _ _ _ _)
      | (with_reducible exact ih1 _ _ _ _ _ _)
      | (with_reducible exact ih2 _ _ _ _ _ _ _)
      | (with_reducible exact justify_Starts.mono _ _ _ _ _)
      | (with_reducible exact lines_Long.mono _ _ _)
      | (with_reducible exact valancelaw09_works.mono _)
      | (with_reducible exact LeO.refl _)
      | (with_reducible exact LeO.none _)
      | (with_reducible refine LeO.ite ?_ ?_)
      | (with_reducible refine LeO.bind ?_ (fun _ => ?_))
      | exact ih0 _ _ _ _ _ _
      | exact ih1 _ _ _ _ _ _
      | exact ih2 _ _ _ _ _ _ _
      | exact justify_Starts.mono _ _ _ _ _
      | exact lines_Long.mono _ _ _
      | exact valancelaw09_works.mono _
      | exact LeO.none _
      | refine LeO.ite ?_ ?_
      | refine LeO.bind ?_ (fun _ => ?_)
    · intro y0 y1 y2 y3 y4 y5 y6
      unfold valancelaw09_JustifyApart.l1
      repeat' first
      | (with_reducible exact ih0 _ _ _ _ _ _)
      | (with_reducible exact ih1 _ _ _ _ _ _)
      | (with_reducible exact ih2 _ _ _ _ _ _ _)
      | (with_reducible exact justify_Starts.mono _ _ _ _ _)
      | (with_reducible exact lines_Long.mono _ _ _)
      | (with_reducible exact valancelaw09_works.mono _)
      | (with_reducible exact LeO.refl _)
      | (with_reducible exact LeO.none _)
      | (with_reducible refine LeO.ite ?_ ?_)
      | (with_reducible refine LeO.bind ?_ (fun _ => ?_))
      | exact ih0 _ _ _ _ _ _
      | exact ih1 _ _ _ _ _ _
      | exact ih2 _ _ _ _ _ _ _
      | exact justify_Starts.mono _ _ _ _ _
      | exact lines_Long.mono _ _ _
      | exact valancelaw09_works.mono _
      | exact LeO.none _
      | refine LeO.ite ?_ ?_
      | refine LeO.bind ?_ (fun _ => ?_)
theorem valancelaw09_JustifyApart.mono : ∀ a0 a1 a2 a3 k, LeO (valancelaw09_JustifyApart.f k a0 a1 a2 a3) (valancelaw09_JustifyApart.f (k + 1) a0 a1 a2 a3) := by
  intro a0 a1 a2 a3 k
  obtain ⟨ih0, ih1, ih2⟩ := valancelaw09_JustifyApart.mono_l k
  unfold valancelaw09_JustifyApart.f
  repeat' first
      | (with_reducible exact ih0 _ _ _ _ _ _)
      | (with_reducible exact ih1 _ _ _ _ _ _)
      | (with_reducible exact ih2 _ _ _ _ _ _ _)
      | (with_reducible exact justify_Starts.mono _ _ _ _ _)
      | (with_reducible exact lines_Long.mono _ _ _)
      | (with_reducible exact valancelaw09_works.mono _)
      | (with_reducible exact LeO.refl _)
      | (with_reducible exact LeO.none _)
      | (with_reducible refine LeO.ite ?_ ?_)
      | (with_reducible refine LeO.bind ?_ (fun _ => ?_))
      | exact ih0 _ _ _ _ _ _
      | exact ih1 _ _ _ _ _ _
      | exact ih2 _ _ _ _ _ _ _
      | exact justify_Starts.mono _ _ _ _ _
      | exact lines_Long.mono _ _ _
      | exact valancelaw09_works.mono _
      | exact LeO.none _
      | refine LeO.ite ?_ ?_
      | refine LeO.bind ?_ (fun _ => ?_)
set_option maxHeartbeats 8000000 in
set_option maxRecDepth 100000 in
theorem valancelaw09_JustifyApart.calls (k : Nat) (a0 : Int) (A1 : Option Addr) (c1 : Nat) (l1 : List Int) (a2 : Int) (a3 : Int) (r : Bool) (w : World) (hr1 : Kd.C (Kd.int .i64) w A1 l1.length l1) (hc1 : l1.length ≤ c1) (h : valancelaw09_JustifyApart.f k a0 l1 a2 a3 = some r) :
    Calls Try.prog 4 #[.int .i64 a0, .slice A1 l1.length c1, .int .i64 a2, .int .i64 a3] w fun e w' => e = .returned (.bool r) ∧ Below w.heap.size w w' := by
  have HR1 := Aside0.mk hr1
  have HC1 := Aside0.mk hc1
  clear hr1 hc1
  have HB := Aside0.mk (Below.refl w.heap.size w)
  have H : ((valancelaw09_works.f k).bind fun t222 => (if t222 = true then (if (l1.length : Int) > 64 then (valancelaw09_JustifyApart.j0 k a0 l1 a2 a3 t222 true) else (if (l1.length : Int) = 0 then (valancelaw09_JustifyApart.j0 k a0 l1 a2 a3 t222 true) else (if a2 < 0 then (valancelaw09_JustifyApart.j0 k a0 l1 a2 a3 t222 true) else (if a2 > 1073741824 then (valancelaw09_JustifyApart.j0 k a0 l1 a2 a3 t222 true) else (if a3 < 0 then (valancelaw09_JustifyApart.j0 k a0 l1 a2 a3 t222 true) else (valancelaw09_JustifyApart.j0 k a0 l1 a2 a3 t222 (decide (a3 > 1048576)))))))) else (none))) = some r := h
  clear h
  replace H := Option.bind_eq_some_iff.mp H
  obtain ⟨t222, A50, H⟩ := H
  replace H : (if t222 = true then (if (l1.length : Int) > 64 then (valancelaw09_JustifyApart.j0 k a0 l1 a2 a3 t222 true) else (if (l1.length : Int) = 0 then (valancelaw09_JustifyApart.j0 k a0 l1 a2 a3 t222 true) else (if a2 < 0 then (valancelaw09_JustifyApart.j0 k a0 l1 a2 a3 t222 true) else (if a2 > 1073741824 then (valancelaw09_JustifyApart.j0 k a0 l1 a2 a3 t222 true) else (if a3 < 0 then (valancelaw09_JustifyApart.j0 k a0 l1 a2 a3 t222 true) else (valancelaw09_JustifyApart.j0 k a0 l1 a2 a3 t222 (decide (a3 > 1048576)))))))) else (none)) = some r := H
  have A5 := Aside0.mk A50
  clear A50
  by_cases c6 : t222 = true
  · subst c6
    have H1 : (if (l1.length : Int) > 64 then (valancelaw09_JustifyApart.j0 k a0 l1 a2 a3 true true) else (if (l1.length : Int) = 0 then (valancelaw09_JustifyApart.j0 k a0 l1 a2 a3 true true) else (if a2 < 0 then (valancelaw09_JustifyApart.j0 k a0 l1 a2 a3 true true) else (if a2 > 1073741824 then (valancelaw09_JustifyApart.j0 k a0 l1 a2 a3 true true) else (if a3 < 0 then (valancelaw09_JustifyApart.j0 k a0 l1 a2 a3 true true) else (valancelaw09_JustifyApart.j0 k a0 l1 a2 a3 true (decide (a3 > 1048576)))))))) = some r := by rw [if_pos rfl] at H; exact H
    clear H
    have H := H1
    clear H1
    have HC7 := Aside0.mk H
    clear H
    go_enter Try.func4, Try.ntmps4
    go_upto_region 4 with (first | (go_at_call 15; (with_reducible refine (valancelaw09_works.calls k  true _ A5.out).mono ?_); rintro e w8 ⟨rfl, hb⟩; have n0_ := Aside0.mk (below_step (by repeat (first | (with_reducible first | exact HB.out | apply below_alloc | apply pw_below_drewN | apply below_drew1) | exact HB.out)) hb); clear HB; have HB := n0_; clear n0_; (try clear hb); (try clear hb2); (try clear hk); (try clear hi)))
    repeat (go_quiet (first | (go_at_call 15; (with_reducible refine (valancelaw09_works.calls k  true _ A5.out).mono ?_); rintro e w8 ⟨rfl, hb⟩; have n0_ := Aside0.mk (below_step (by repeat (first | (with_reducible first | exact HB.out | apply below_alloc | apply pw_below_drewN | apply below_drew1) | exact HB.out)) hb); clear HB; have HB := n0_; clear n0_; (try clear hb); (try clear hb2); (try clear hk); (try clear hi))); go_upto_region 4 with (first | (go_at_call 15; (with_reducible refine (valancelaw09_works.calls k  true _ A5.out).mono ?_); rintro e w8 ⟨rfl, hb⟩; have n0_ := Aside0.mk (below_step (by repeat (first | (with_reducible first | exact HB.out | apply below_alloc | apply pw_below_drewN | apply below_drew1) | exact HB.out)) hb); clear HB; have HB := n0_; clear n0_; (try clear hb); (try clear hb2); (try clear hk); (try clear hi))))
    (try simp only [Act.put, List.setIfInBounds_toArray, List.set_cons_zero, List.set_cons_succ])
    go_cut [41] (fun v41 wc => ∃ (kq : Nat) (x41_6 : Bool), v41 = .bool x41_6 ∧ Aside0 (valancelaw09_JustifyApart.j0 kq a0 l1 a2 a3 true x41_6 = some r) ∧ Aside0 (kq ≤ k) ∧ Aside0 (Below w.heap.size w wc))
    case first =>
      have H := HC7.out
      clear HC7
      by_cases c9 : (l1.length : Int) > 64
      · rw [if_pos c9] at H
        have c9b0 : decide (64 < (l1.length : Int)) = true := decide_eq_true c9
        have c9b1 : decide (64 < l1.length) = true := decide_eq_true (by omega)
        clear c9
        (first | rw [c9b0] | (simp only [i64_w, i32_w]; rw [c9b0]) | skip)
        have H' := Aside0.mk H
        clear H
        go_wp2
        repeat (go_quiet (fail); try go_wp2)
        go_meet
        case rel => exact ⟨_, (true), (by first | rfl | (simp; done) | (simp [*]; done)), H', ⟨by first | omega | exact Nat.le_refl _⟩, ⟨by repeat (first | (with_reducible first | exact HB.out | apply below_alloc | apply pw_below_drewN | apply below_drew1) | exact HB.out)⟩⟩
      · rw [if_neg c9] at H
        have c9b0 : decide (64 < (l1.length : Int)) = false := decide_eq_false c9
        have c9b1 : decide (64 < l1.length) = false := decide_eq_false (by omega)
        clear c9
        (first | rw [c9b0] | (simp only [i64_w, i32_w]; rw [c9b0]) | skip)
        by_cases c10 : (l1.length : Int) = 0
        · rw [if_pos c10] at H
          have c10b0 : ((l1.length : Int) == 0) = true := beq_iff_eq.mpr c10
          have c10b1 : ((l1.length : Int) != 0) = false := bne_eq_false_iff_eq.mpr c10
          clear c10
          have H' := Aside0.mk H
          clear H
          go_wp2
          repeat (go_quiet (fail); try go_wp2)
          go_meet
          case rel => exact ⟨_, (true), (by first | rfl | (simp; done) | (simp [*]; done)), H', ⟨by first | omega | exact Nat.le_refl _⟩, ⟨by repeat (first | (with_reducible first | exact HB.out | apply below_alloc | apply pw_below_drewN | apply below_drew1) | exact HB.out)⟩⟩
        · rw [if_neg c10] at H
          have c10b0 : ((l1.length : Int) == 0) = false := beq_eq_false_iff_ne.mpr c10
          have c10b1 : ((l1.length : Int) != 0) = true := bne_iff_ne.mpr c10
          have c10b2 : ¬ (l1 = []) := fun h_ => c10 (by rw [h_]; rfl)
          by_cases c11 : a2 < 0
          · rw [if_pos c11] at H
            have c11b0 : decide (a2 < 0) = true := decide_eq_true c11
            clear c11
            have H' := Aside0.mk H
            clear H
            go_wp2
            repeat (go_quiet (fail); try go_wp2)
            go_meet
            case rel => exact ⟨_, (true), (by first | rfl | (simp; done) | (simp [*]; done)), H', ⟨by first | omega | exact Nat.le_refl _⟩, ⟨by repeat (first | (with_reducible first | exact HB.out | apply below_alloc | apply pw_below_drewN | apply below_drew1) | exact HB.out)⟩⟩
          · rw [if_neg c11] at H
            have c11b0 : decide (a2 < 0) = false := decide_eq_false c11
            clear c11
            by_cases c12 : a2 > 1073741824
            · rw [if_pos c12] at H
              have c12b0 : decide (1073741824 < a2) = true := decide_eq_true c12
              clear c12
              have H' := Aside0.mk H
              clear H
              go_wp2
              repeat (go_quiet (fail); try go_wp2)
              go_meet
              case rel => exact ⟨_, (true), (by first | rfl | (simp; done) | (simp [*]; done)), H', ⟨by first | omega | exact Nat.le_refl _⟩, ⟨by repeat (first | (with_reducible first | exact HB.out | apply below_alloc | apply pw_below_drewN | apply below_drew1) | exact HB.out)⟩⟩
            · rw [if_neg c12] at H
              have c12b0 : decide (1073741824 < a2) = false := decide_eq_false c12
              clear c12
              by_cases c13 : a3 < 0
              · rw [if_pos c13] at H
                have c13b0 : decide (a3 < 0) = true := decide_eq_true c13
                clear c13
                have H' := Aside0.mk H
                clear H
                go_wp2
                repeat (go_quiet (fail); try go_wp2)
                go_meet
                case rel => exact ⟨_, (true), (by first | rfl | (simp; done) | (simp [*]; done)), H', ⟨by first | omega | exact Nat.le_refl _⟩, ⟨by repeat (first | (with_reducible first | exact HB.out | apply below_alloc | apply pw_below_drewN | apply below_drew1) | exact HB.out)⟩⟩
              · rw [if_neg c13] at H
                have c13b0 : decide (a3 < 0) = false := decide_eq_false c13
                clear c13
                have H' := Aside0.mk H
                clear H
                go_wp2
                repeat (go_quiet (fail); try go_wp2)
                go_meet
                case rel => exact ⟨_, (decide (a3 > 1048576)), (by first | rfl | (simp; done) | (simp [*]; done)), H', ⟨by first | omega | exact Nat.le_refl _⟩, ⟨by repeat (first | (with_reducible first | exact HB.out | apply below_alloc | apply pw_below_drewN | apply below_drew1) | exact HB.out)⟩⟩
    case rest =>
      clear HC7
      try clear c1
      try clear p2
      try clear c4
      try clear c6
      try clear c9
      try clear c9b0
      try clear c9b1
      try clear c10
      try clear c10b0
      try clear c10b1
      try clear c10b2
      try clear c11
      try clear c11b0
      try clear c12
      try clear c12b0
      try clear c13
      try clear c13b0
      obtain ⟨kq, x41_6, rfl, HA, HJ6, HB⟩ := hcut
      cases kq with
      | zero => exact absurd HA.out (by simp [valancelaw09_JustifyApart.j0])
      | succ kj6 =>
        have H := HA.out
        clear HA
        simp only [valancelaw09_JustifyApart.j0] at H
        by_cases c14 : x41_6 = true
        · subst c14
          have H1 : (some true) = some r := by rw [if_pos rfl] at H; exact H
          clear H
          have H := H1
          clear H1
          obtain rfl := Option.some.inj H
          go_wp2
          repeat (go_quiet (fail); try go_wp2)
          go_ret
          exact ⟨by first | rfl | (simp [errW_none, errW_some] <;> rfl) | (simp [*, errW_none, errW_some] <;> rfl), by repeat (first | (with_reducible first | exact HB.out | apply below_alloc | apply pw_below_drewN | apply below_drew1) | exact HB.out)⟩
        · replace c14 := Bool.eq_false_iff.mpr c14
          subst c14
          have H1 : (valancelaw09_JustifyApart.l0 kj6 a0 l1 a2 a3 true 0) = some r := by rw [if_neg (show ¬ (false = true) by decide)] at H; exact H
          clear H
          have H := H1
          clear H1
          have H' := Aside0.mk H
          clear H
          go_wp2
          repeat (go_quiet (fail); try go_wp2)
          go_loopg [10] kj6 (fun kq v10 w' => ∃ (x10_2 : Int), v10 = .int .i64 x10_2 ∧ Aside0 (valancelaw09_JustifyApart.l0 kq a0 l1 a2 a3 true x10_2 = some r) ∧ Aside0 (kq ≤ kj6) ∧ Aside0 (Below w.heap.size w w'))
          case atStart => exact ⟨(0), (by first | rfl | (simp; done) | (simp [*]; done)), H', ⟨Nat.le_refl _⟩, ⟨by repeat (first | (with_reducible first | exact HB.out | apply below_alloc | apply pw_below_drewN | apply below_drew1) | exact HB.out)⟩⟩
          case round =>
            clear H'
            try clear c1
            try clear p2
            try clear c4
            try clear c6
            try clear c9
            try clear c9b0
            try clear c9b1
            try clear c10
            try clear c10b0
            try clear c10b1
            try clear c10b2
            try clear c11
            try clear c11b0
            try clear c12
            try clear c12b0
            try clear c13
            try clear c13b0
            try clear c14
            try clear p2
            obtain ⟨x10_2, rfl, HA, HK2, HB⟩ := hrel
            cases gk with
            | zero => exact absurd HA.out (by simp [valancelaw09_JustifyApart.l0])
            | succ k2 =>
              have H := HA.out
              clear HA
              simp only [valancelaw09_JustifyApart.l0] at H
              by_cases c15 : x10_2 < (l1.length : Int)
              · rw [if_pos c15] at H
                have c15b0 : decide (x10_2 < (l1.length : Int)) = true := decide_eq_true c15
                clear c15
                by_cases c16 : 0 ≤ x10_2
                · rw [if_pos c16] at H
                  have c16b0 : decide (0 ≤ x10_2) = true := decide_eq_true c16
                  clear c16
                  by_cases c17 : (rd l1 x10_2) < 0
                  · rw [if_pos c17] at H
                    have c17b0 : decide ((rd l1 x10_2) < 0) = true := decide_eq_true c17
                    clear c17
                    obtain rfl := Option.some.inj H
                    have p223 : 0 ≤ (x10_2 : Int) := of_decide_eq_true (by first | (with_reducible assumption) | assumption)
                    have q223 : x10_2 < (l1.length : Int) := of_decide_eq_true (by first | (with_reducible assumption) | assumption)
                    obtain ⟨ad223, e223, hx223_0⟩ := Kd.at_int HR1.out x10_2 p223 q223
                    cases e223
                    replace hx223_0 := (HB.out.cell (World.block_lt_of_cell? w _ hx223_0)).trans hx223_0
                    replace p223 := eq_true p223
                    replace q223 := eq_true q223
                    go_wp2
                    repeat (go_quiet (fail); try go_wp2)
                    go_ret
                    exact ⟨by first | rfl | (simp [errW_none, errW_some] <;> rfl) | (simp [*, errW_none, errW_some] <;> rfl), by repeat (first | (with_reducible first | exact HB.out | apply below_alloc | apply pw_below_drewN | apply below_drew1) | exact HB.out)⟩
                  · rw [if_neg c17] at H
                    have c17b0 : decide ((rd l1 x10_2) < 0) = false := decide_eq_false c17
                    clear c17
                    by_cases c18 : (rd l1 x10_2) > 1048576
                    · rw [if_pos c18] at H
                      have c18b0 : decide (1048576 < (rd l1 x10_2)) = true := decide_eq_true c18
                      clear c18
                      obtain rfl := Option.some.inj H
                      have p223 : 0 ≤ (x10_2 : Int) := of_decide_eq_true (by first | (with_reducible assumption) | assumption)
                      have q223 : x10_2 < (l1.length : Int) := of_decide_eq_true (by first | (with_reducible assumption) | assumption)
                      obtain ⟨ad223, e223, hx223_0⟩ := Kd.at_int HR1.out x10_2 p223 q223
                      cases e223
                      replace hx223_0 := (HB.out.cell (World.block_lt_of_cell? w _ hx223_0)).trans hx223_0
                      replace p223 := eq_true p223
                      replace q223 := eq_true q223
                      have p224 : 0 ≤ (x10_2 : Int) := of_decide_eq_true (by first | (with_reducible assumption) | assumption)
                      have q224 : x10_2 < (l1.length : Int) := of_decide_eq_true (by first | (with_reducible assumption) | assumption)
                      obtain ⟨ad224, e224, hx224_0⟩ := Kd.at_int HR1.out x10_2 p224 q224
                      obtain rfl : ad223 = ad224 := (by injection e224)
                      replace hx224_0 := (HB.out.cell (World.block_lt_of_cell? w _ hx224_0)).trans hx224_0
                      replace p224 := eq_true p224
                      replace q224 := eq_true q224
                      go_wp2
                      repeat (go_quiet (fail); try go_wp2)
                      go_ret
                      exact ⟨by first | rfl | (simp [errW_none, errW_some] <;> rfl) | (simp [*, errW_none, errW_some] <;> rfl), by repeat (first | (with_reducible first | exact HB.out | apply below_alloc | apply pw_below_drewN | apply below_drew1) | exact HB.out)⟩
                    · rw [if_neg c18] at H
                      have c18b0 : decide (1048576 < (rd l1 x10_2)) = false := decide_eq_false c18
                      clear c18
                      have H' := Aside0.mk H
                      clear H
                      have p223 : 0 ≤ (x10_2 : Int) := of_decide_eq_true (by first | (with_reducible assumption) | assumption)
                      have q223 : x10_2 < (l1.length : Int) := of_decide_eq_true (by first | (with_reducible assumption) | assumption)
                      obtain ⟨ad223, e223, hx223_0⟩ := Kd.at_int HR1.out x10_2 p223 q223
                      cases e223
                      replace hx223_0 := (HB.out.cell (World.block_lt_of_cell? w _ hx223_0)).trans hx223_0
                      replace p223 := eq_true p223
                      replace q223 := eq_true q223
                      have p224 : 0 ≤ (x10_2 : Int) := of_decide_eq_true (by first | (with_reducible assumption) | assumption)
                      have q224 : x10_2 < (l1.length : Int) := of_decide_eq_true (by first | (with_reducible assumption) | assumption)
                      obtain ⟨ad224, e224, hx224_0⟩ := Kd.at_int HR1.out x10_2 p224 q224
                      obtain rfl : ad223 = ad224 := (by injection e224)
                      replace hx224_0 := (HB.out.cell (World.block_lt_of_cell? w _ hx224_0)).trans hx224_0
                      replace p224 := eq_true p224
                      replace q224 := eq_true q224
                      go_wp2
                      repeat (go_quiet (fail); try go_wp2)
                      go_roundg k2
                      case measure => have := HJ6.out; have := HK2.out; omega
                      case rel => exact ⟨(wrap64 (x10_2 + 1)), (by first | rfl | (simp; done) | (simp [*]; done)), H', ⟨by have := HJ6.out; have := HK2.out; omega⟩, ⟨by repeat (first | (with_reducible first | exact HB.out | apply below_alloc | apply pw_below_drewN | apply below_drew1) | exact HB.out)⟩⟩
                · rw [if_neg c16] at H
                  exact absurd H (by simp)
              · rw [if_neg c15] at H
                have c15b0 : decide (x10_2 < (l1.length : Int)) = false := decide_eq_false c15
                clear c15
                replace H := Option.bind_eq_some_iff.mp H
                obtain ⟨t225, A190, H⟩ := H
                replace H : (if (t225.length : Int) = (l1.length : Int) then (valancelaw09_JustifyApart.l1 k2 a0 l1 a2 a3 true t225 1) else (none)) = some r := H
                have A19 := Aside0.mk A190
                clear A190
                by_cases c20 : (t225.length : Int) = (l1.length : Int)
                · rw [if_pos c20] at H
                  have c20b0 : ((t225.length : Int) == (l1.length : Int)) = true := beq_iff_eq.mpr c20
                  have c20b1 : ((t225.length : Int) != (l1.length : Int)) = false := bne_eq_false_iff_eq.mpr c20
                  have c20b2 : (t225.length == l1.length) = true := by first | simpa using c20 | (simp at c20 ⊢; omega)
                  clear c20
                  have H' := Aside0.mk H
                  clear H
                  go_wp2_with (first | (go_at_call 16; (with_reducible refine (justify_Starts.calls k2 a0 _ _ l1 a2 a3 t225 _ ?side1 ?side2 A19.out).mono ?_); (case side1 => repeat (first | exact (Kd.C_below HR1.out HB.out) | (with_reducible refine Kd.C_alloc ?_ _) | (with_reducible refine Kd.C_drewN ?_ _) | (with_reducible refine Kd.C_drew ?_))); (case side2 => exact HC1.out); rintro e w21 ⟨v226, rfl, ho0, hb⟩; have n0_ := Aside0.mk (Kd.R_lower ho0 (below_size (by repeat (first | (with_reducible first | exact HB.out | apply below_alloc | apply pw_below_drewN | apply below_drew1) | exact HB.out)))); have n1_ := Aside0.mk (below_step (by repeat (first | (with_reducible first | exact HB.out | apply below_alloc | apply pw_below_drewN | apply below_drew1) | exact HB.out)) hb); clear HB; have HO227 := n0_; have HB := n1_; clear n0_ n1_; (try clear hb); (try clear hb2); (try clear hk); (try clear hi); (try clear ho0); obtain ⟨Ao22, co22, eo22⟩ := Kd.R_slice HO227.out; subst eo22))
                  repeat (go_quiet (first | (go_at_call 16; (with_reducible refine (justify_Starts.calls k2 a0 _ _ l1 a2 a3 t225 _ ?side1 ?side2 A19.out).mono ?_); (case side1 => repeat (first | exact (Kd.C_below HR1.out HB.out) | (with_reducible refine Kd.C_alloc ?_ _) | (with_reducible refine Kd.C_drewN ?_ _) | (with_reducible refine Kd.C_drew ?_))); (case side2 => exact HC1.out); rintro e w21 ⟨v226, rfl, ho0, hb⟩; have n0_ := Aside0.mk (Kd.R_lower ho0 (below_size (by repeat (first | (with_reducible first | exact HB.out | apply below_alloc | apply pw_below_drewN | apply below_drew1) | exact HB.out)))); have n1_ := Aside0.mk (below_step (by repeat (first | (with_reducible first | exact HB.out | apply below_alloc | apply pw_below_drewN | apply below_drew1) | exact HB.out)) hb); clear HB; have HO227 := n0_; have HB := n1_; clear n0_ n1_; (try clear hb); (try clear hb2); (try clear hk); (try clear hi); (try clear ho0); obtain ⟨Ao22, co22, eo22⟩ := Kd.R_slice HO227.out; subst eo22)); try go_wp2_with (first | (go_at_call 16; (with_reducible refine (justify_Starts.calls k2 a0 _ _ l1 a2 a3 t225 _ ?side1 ?side2 A19.out).mono ?_); (case side1 => repeat (first | exact (Kd.C_below HR1.out HB.out) | (with_reducible refine Kd.C_alloc ?_ _) | (with_reducible refine Kd.C_drewN ?_ _) | (with_reducible refine Kd.C_drew ?_))); (case side2 => exact HC1.out); rintro e w21 ⟨v226, rfl, ho0, hb⟩; have n0_ := Aside0.mk (Kd.R_lower ho0 (below_size (by repeat (first | (with_reducible first | exact HB.out | apply below_alloc | apply pw_below_drewN | apply below_drew1) | exact HB.out)))); have n1_ := Aside0.mk (below_step (by repeat (first | (with_reducible first | exact HB.out | apply below_alloc | apply pw_below_drewN | apply below_drew1) | exact HB.out)) hb); clear HB; have HO227 := n0_; have HB := n1_; clear n0_ n1_; (try clear hb); (try clear hb2); (try clear hk); (try clear hi); (try clear ho0); obtain ⟨Ao22, co22, eo22⟩ := Kd.R_slice HO227.out; subst eo22)))
                  go_loopg [12] k2 (fun kq v12 w' => ∃ (x12_3 : Int), v12 = .int .i64 x12_3 ∧ Aside0 (valancelaw09_JustifyApart.l1 kq a0 l1 a2 a3 true t225 x12_3 = some r) ∧ Aside0 (kq ≤ k2) ∧ Aside0 (Kd.R (Kd.int .i64) 3 w' w.heap.size (fun _ => True) (.slice Ao22 t225.length co22) t225) ∧ Aside0 (Below w.heap.size w w'))
                  case atStart => exact ⟨(1), (by first | rfl | (simp; done) | (simp [*]; done)), H', ⟨Nat.le_refl _⟩, ⟨by (with_reducible repeat (first | apply Kd.R_alloc | apply Kd.R_drewN | apply Kd.R_drew)); exact HO227.out⟩, ⟨by repeat (first | (with_reducible first | exact HB.out | apply below_alloc | apply pw_below_drewN | apply below_drew1) | exact HB.out)⟩⟩
                  case round =>
                    clear H'
                    try clear c1
                    try clear c2
                    try clear p2
                    try clear q2
                    try clear hx2
                    try clear c4
                    try clear c6
                    try clear p6
                    try clear c9
                    try clear c9b0
                    try clear c9b1
                    try clear c10
                    try clear c10b0
                    try clear c10b1
                    try clear c10b2
                    try clear c11
                    try clear c11b0
                    try clear c12
                    try clear c12b0
                    try clear c13
                    try clear c13b0
                    try clear c14
                    try clear c15
                    try clear c15b0
                    try clear c16
                    try clear c16b0
                    try clear c17
                    try clear c17b0
                    try clear c18
                    try clear c18b0
                    try clear c20
                    try clear c20b0
                    try clear c20b1
                    try clear c20b2
                    try clear p22
                    try clear q22
                    try clear hx22
                    try clear hx223_0
                    try clear hx224_0
                    try clear p2
                    try clear p223
                    try clear p224
                    try clear q223
                    try clear q224
                    obtain ⟨x12_3, rfl, HA, HK3, HO_11, HB⟩ := hrel
                    cases gk with
                    | zero => exact absurd HA.out (by simp [valancelaw09_JustifyApart.l1])
                    | succ k3 =>
                      have H := HA.out
                      clear HA
                      simp only [valancelaw09_JustifyApart.l1] at H
                      by_cases c23 : x12_3 < (t225.length : Int)
                      · rw [if_pos c23] at H
                        have c23b0 : decide (x12_3 < (t225.length : Int)) = true := decide_eq_true c23
                        clear c23
                        by_cases c24 : 0 ≤ x12_3
                        · rw [if_pos c24] at H
                          have c24b0 : decide (0 ≤ x12_3) = true := decide_eq_true c24
                          clear c24
                          obtain ⟨ji25, hji25⟩ : ∃ j_ : Int, (wrap64 (x12_3 - 1)) = j_ := ⟨_, rfl⟩
                          replace H : (if 0 ≤ (ji25) then (if (ji25) < (t225.length : Int) then (if (ji25) < (l1.length : Int) then (if (rd t225 x12_3) < (wrap64 ((wrap64 ((rd t225 (ji25)) + (rd l1 (ji25)))) + a3)) then (none) else (valancelaw09_JustifyApart.l1 k3 a0 l1 a2 a3 true t225 (wrap64 (x12_3 + 1)))) else (none)) else (none)) else (none)) = some r := by first | (rw [hji25] at H; exact H) | (simp only [hji25] at H ⊢; exact H)
                          have hji25w : (IntKind.i64.wrap (x12_3 - 1)) = ji25 := (i64_w _).trans hji25
                          by_cases c26 : 0 ≤ (ji25)
                          · rw [if_pos c26] at H
                            have c26b0 : decide (0 ≤ (ji25)) = true := decide_eq_true c26
                            clear c26
                            by_cases c27 : (ji25) < (t225.length : Int)
                            · rw [if_pos c27] at H
                              have c27b0 : decide ((ji25) < (t225.length : Int)) = true := decide_eq_true c27
                              clear c27
                              by_cases c28 : (ji25) < (l1.length : Int)
                              · rw [if_pos c28] at H
                                have c28b0 : decide ((ji25) < (l1.length : Int)) = true := decide_eq_true c28
                                clear c28
                                by_cases c29 : (rd t225 x12_3) < (wrap64 ((wrap64 ((rd t225 (ji25)) + (rd l1 (ji25)))) + a3))
                                · rw [if_pos c29] at H
                                  exact absurd H (by simp)
                                · rw [if_neg c29] at H
                                  have c29b0 : decide ((rd t225 x12_3) < (wrap64 ((wrap64 ((rd t225 (ji25)) + (rd l1 (ji25)))) + a3))) = false := decide_eq_false c29
                                  clear c29
                                  have H' := Aside0.mk H
                                  clear H
                                  have p228 : 0 ≤ (x12_3 : Int) := of_decide_eq_true (by first | (with_reducible assumption) | assumption)
                                  have q228 : x12_3 < (t225.length : Int) := of_decide_eq_true (by first | (with_reducible assumption) | assumption)
                                  obtain ⟨ad228, e228, hx228_0⟩ := Kd.at_int (Kd.R_reads' HO_11.out).2.2 x12_3 p228 q228
                                  cases e228
                                  replace p228 := eq_true p228
                                  replace q228 := eq_true q228
                                  have p229 : 0 ≤ ((ji25) : Int) := of_decide_eq_true (by first | (with_reducible assumption) | assumption)
                                  have q229 : (ji25) < (t225.length : Int) := of_decide_eq_true (by first | (with_reducible assumption) | assumption)
                                  obtain ⟨ad229, e229, hx229_0⟩ := Kd.at_int (Kd.R_reads' HO_11.out).2.2 (ji25) p229 q229
                                  obtain rfl : ad228 = ad229 := (by injection e229)
                                  replace p229 := eq_true p229
                                  replace q229 := eq_true q229
                                  have p230 : 0 ≤ ((ji25) : Int) := of_decide_eq_true (by first | (with_reducible assumption) | assumption)
                                  have q230 : (ji25) < (l1.length : Int) := of_decide_eq_true (by first | (with_reducible assumption) | assumption)
                                  obtain ⟨ad230, e230, hx230_0⟩ := Kd.at_int HR1.out (ji25) p230 q230
                                  cases e230
                                  replace hx230_0 := (HB.out.cell (World.block_lt_of_cell? w _ hx230_0)).trans hx230_0
                                  replace p230 := eq_true p230
                                  replace q230 := eq_true q230
                                  go_wp2
                                  repeat (go_quiet (fail); try go_wp2)
                                  go_roundg k3
                                  case measure => have := HJ6.out; have := HK2.out; have := HK3.out; omega
                                  case rel => exact ⟨(wrap64 (x12_3 + 1)), (by first | rfl | (simp; done) | (simp [*]; done)), H', ⟨by have := HJ6.out; have := HK2.out; have := HK3.out; omega⟩, ⟨by (with_reducible repeat (first | apply Kd.R_alloc | apply Kd.R_drewN | apply Kd.R_drew)); exact HO_11.out⟩, ⟨by repeat (first | (with_reducible first | exact HB.out | apply below_alloc | apply pw_below_drewN | apply below_drew1) | exact HB.out)⟩⟩
                              · rw [if_neg c28] at H
                                exact absurd H (by simp)
                            · rw [if_neg c27] at H
                              exact absurd H (by simp)
                          · rw [if_neg c26] at H
                            exact absurd H (by simp)
                        · rw [if_neg c24] at H
                          exact absurd H (by simp)
                      · rw [if_neg c23] at H
                        have c23b0 : decide (x12_3 < (t225.length : Int)) = false := decide_eq_false c23
                        clear c23
                        obtain ⟨ji30, hji30⟩ : ∃ j_ : Int, (wrap64 ((t225.length : Int) - 1)) = j_ := ⟨_, rfl⟩
                        replace H : (if 0 ≤ (ji30) then (if (ji30) < (t225.length : Int) then (if (ji30) < (l1.length : Int) then ((lines_Long.f k3 l1 a3).bind fun t233 => (if t233 ≤ a2 then (if 0 < (t225.length : Int) then (if (rd t225 0) < 0 then (none) else (if (wrap64 ((rd t225 (ji30)) + (rd l1 (ji30)))) > a2 then (none) else (if true = true then (if a0 = 3 then (if (l1.length : Int) < 2 then (if a0 = 1 then (some ((wrap64 ((rd t225 (ji30)) + (rd l1 (ji30)))) == a2)) else (some true)) else (if (rd t225 0) = 0 then (if (wrap64 ((rd t225 (ji30)) + (rd l1 (ji30)))) = a2 then (if a0 = 1 then (some ((wrap64 ((rd t225 (ji30)) + (rd l1 (ji30)))) == a2)) else (some true)) else (none)) else (none))) else (if a0 = 1 then (some ((wrap64 ((rd t225 (ji30)) + (rd l1 (ji30)))) == a2)) else (some true))) else (none)))) else (none)) else (if true = true then (if a0 = 1 then (some ((wrap64 ((rd t225 (ji30)) + (rd l1 (ji30)))) == a2)) else (some true)) else (none)))) else (none)) else (none)) else (none)) = some r := by first | (rw [hji30] at H; exact H) | (simp only [hji30] at H ⊢; exact H)
                        have hji30w : (IntKind.i64.wrap ((t225.length : Int) - 1)) = ji30 := (i64_w _).trans hji30
                        by_cases c31 : 0 ≤ (ji30)
                        · rw [if_pos c31] at H
                          have c31b0 : decide (0 ≤ (ji30)) = true := decide_eq_true c31
                          clear c31
                          by_cases c32 : (ji30) < (t225.length : Int)
                          · rw [if_pos c32] at H
                            have c32b0 : decide ((ji30) < (t225.length : Int)) = true := decide_eq_true c32
                            clear c32
                            by_cases c33 : (ji30) < (l1.length : Int)
                            · rw [if_pos c33] at H
                              have c33b0 : decide ((ji30) < (l1.length : Int)) = true := decide_eq_true c33
                              clear c33
                              replace H := Option.bind_eq_some_iff.mp H
                              obtain ⟨t233, A340, H⟩ := H
                              replace H : (if t233 ≤ a2 then (if 0 < (t225.length : Int) then (if (rd t225 0) < 0 then (none) else (if (wrap64 ((rd t225 (ji30)) + (rd l1 (ji30)))) > a2 then (none) else (if true = true then (if a0 = 3 then (if (l1.length : Int) < 2 then (if a0 = 1 then (some ((wrap64 ((rd t225 (ji30)) + (rd l1 (ji30)))) == a2)) else (some true)) else (if (rd t225 0) = 0 then (if (wrap64 ((rd t225 (ji30)) + (rd l1 (ji30)))) = a2 then (if a0 = 1 then (some ((wrap64 ((rd t225 (ji30)) + (rd l1 (ji30)))) == a2)) else (some true)) else (none)) else (none))) else (if a0 = 1 then (some ((wrap64 ((rd t225 (ji30)) + (rd l1 (ji30)))) == a2)) else (some true))) else (none)))) else (none)) else (if true = true then (if a0 = 1 then (some ((wrap64 ((rd t225 (ji30)) + (rd l1 (ji30)))) == a2)) else (some true)) else (none))) = some r := H
                              have A34 := Aside0.mk A340
                              clear A340
                              by_cases c35 : t233 ≤ a2
                              · rw [if_pos c35] at H
                                have c35b0 : decide (t233 ≤ a2) = true := decide_eq_true c35
                                clear c35
                                by_cases c36 : 0 < (t225.length : Int)
                                · rw [if_pos c36] at H
                                  have c36b0 : decide (0 < (t225.length : Int)) = true := decide_eq_true c36
                                  have c36b1 : decide (0 < t225.length) = true := decide_eq_true (by omega)
                                  clear c36
                                  by_cases c37 : (rd t225 0) < 0
                                  · rw [if_pos c37] at H
                                    exact absurd H (by simp)
                                  · rw [if_neg c37] at H
                                    have c37b0 : decide ((rd t225 0) < 0) = false := decide_eq_false c37
                                    clear c37
                                    by_cases c38 : (wrap64 ((rd t225 (ji30)) + (rd l1 (ji30)))) > a2
                                    · rw [if_pos c38] at H
                                      exact absurd H (by simp)
                                    · rw [if_neg c38] at H
                                      have c38b0 : decide (a2 < (wrap64 ((rd t225 (ji30)) + (rd l1 (ji30))))) = false := decide_eq_false c38
                                      clear c38
                                      by_cases c39 : true = true
                                      · clear c39
                                        have H1 : (if a0 = 3 then (if (l1.length : Int) < 2 then (if a0 = 1 then (some ((wrap64 ((rd t225 (ji30)) + (rd l1 (ji30)))) == a2)) else (some true)) else (if (rd t225 0) = 0 then (if (wrap64 ((rd t225 (ji30)) + (rd l1 (ji30)))) = a2 then (if a0 = 1 then (some ((wrap64 ((rd t225 (ji30)) + (rd l1 (ji30)))) == a2)) else (some true)) else (none)) else (none))) else (if a0 = 1 then (some ((wrap64 ((rd t225 (ji30)) + (rd l1 (ji30)))) == a2)) else (some true))) = some r := by first | (rw [if_pos rfl] at H; exact H) | (rw [if_pos True.intro] at H; exact H)
                                        clear H
                                        have H := H1
                                        clear H1
                                        by_cases c40 : a0 = 3
                                        · rw [if_pos c40] at H
                                          have c40b0 : (a0 == 3) = true := beq_iff_eq.mpr c40
                                          have c40b1 : (a0 != 3) = false := bne_eq_false_iff_eq.mpr c40
                                          clear c40
                                          by_cases c41 : (l1.length : Int) < 2
                                          · rw [if_pos c41] at H
                                            have c41b0 : decide ((l1.length : Int) < 2) = true := decide_eq_true c41
                                            have c41b1 : decide (l1.length < 2) = true := decide_eq_true (by omega)
                                            clear c41
                                            by_cases c42 : a0 = 1
                                            · rw [if_pos c42] at H
                                              have c42b0 : (a0 == 1) = true := beq_iff_eq.mpr c42
                                              have c42b1 : (a0 != 1) = false := bne_eq_false_iff_eq.mpr c42
                                              clear c42
                                              obtain rfl := Option.some.inj H
                                              have p231 : 0 ≤ ((ji30) : Int) := of_decide_eq_true (by first | (with_reducible assumption) | assumption)
                                              have q231 : (ji30) < (t225.length : Int) := of_decide_eq_true (by first | (with_reducible assumption) | assumption)
                                              obtain ⟨ad231, e231, hx231_0⟩ := Kd.at_int (Kd.R_reads' HO_11.out).2.2 (ji30) p231 q231
                                              cases e231
                                              replace p231 := eq_true p231
                                              replace q231 := eq_true q231
                                              have p232 : 0 ≤ ((ji30) : Int) := of_decide_eq_true (by first | (with_reducible assumption) | assumption)
                                              have q232 : (ji30) < (l1.length : Int) := of_decide_eq_true (by first | (with_reducible assumption) | assumption)
                                              obtain ⟨ad232, e232, hx232_0⟩ := Kd.at_int HR1.out (ji30) p232 q232
                                              cases e232
                                              replace hx232_0 := (HB.out.cell (World.block_lt_of_cell? w _ hx232_0)).trans hx232_0
                                              replace p232 := eq_true p232
                                              replace q232 := eq_true q232
                                              go_wp2_with (first | (go_at_call 23; (with_reducible refine (lines_Long.calls k3 _ _ l1 a3 t233 _ ?side1 ?side2 A34.out).mono ?_); (case side1 => repeat (first | exact (Kd.C_below HR1.out HB.out) | (with_reducible refine Kd.C_alloc ?_ _) | (with_reducible refine Kd.C_drewN ?_ _) | (with_reducible refine Kd.C_drew ?_))); (case side2 => exact HC1.out); rintro e w43 ⟨rfl, hb⟩; have n0_ := Aside0.mk (Kd.R_below (by (with_reducible repeat (first | apply Kd.R_alloc | apply Kd.R_drewN | apply Kd.R_drew)); exact HO_11.out) hb); have n1_ := Aside0.mk (below_step (by repeat (first | (with_reducible first | exact HB.out | apply below_alloc | apply pw_below_drewN | apply below_drew1) | exact HB.out)) hb); clear HO_11; clear HB; have HO_11 := n0_; have HB := n1_; clear n0_ n1_; (try clear hb); (try clear hb2); (try clear hk); (try clear hi); have p234 : 0 ≤ (0 : Int) := (by omega); have q234 : 0 < (t225.length : Int) := of_decide_eq_true (by first | (with_reducible assumption) | assumption); obtain ⟨ad234, e234, hx234_0⟩ := Kd.at_int (Kd.R_reads' HO_11.out).2.2 0 p234 q234; obtain rfl : ad231 = ad234 := (by injection e234); have qi234 : (0 < t225.length) = True := eq_true (by omega); (try rw [show ((0 : Int)).toNat = 0 from rfl] at hx234_0); (try rw [Addr.add_zero'] at hx234_0); replace p234 := eq_true p234; replace q234 := eq_true q234))
                                              repeat (go_quiet (first | (go_at_call 23; (with_reducible refine (lines_Long.calls k3 _ _ l1 a3 t233 _ ?side1 ?side2 A34.out).mono ?_); (case side1 => repeat (first | exact (Kd.C_below HR1.out HB.out) | (with_reducible refine Kd.C_alloc ?_ _) | (with_reducible refine Kd.C_drewN ?_ _) | (with_reducible refine Kd.C_drew ?_))); (case side2 => exact HC1.out); rintro e w43 ⟨rfl, hb⟩; have n0_ := Aside0.mk (Kd.R_below (by (with_reducible repeat (first | apply Kd.R_alloc | apply Kd.R_drewN | apply Kd.R_drew)); exact HO_11.out) hb); have n1_ := Aside0.mk (below_step (by repeat (first | (with_reducible first | exact HB.out | apply below_alloc | apply pw_below_drewN | apply below_drew1) | exact HB.out)) hb); clear HO_11; clear HB; have HO_11 := n0_; have HB := n1_; clear n0_ n1_; (try clear hb); (try clear hb2); (try clear hk); (try clear hi); have p234 : 0 ≤ (0 : Int) := (by omega); have q234 : 0 < (t225.length : Int) := of_decide_eq_true (by first | (with_reducible assumption) | assumption); obtain ⟨ad234, e234, hx234_0⟩ := Kd.at_int (Kd.R_reads' HO_11.out).2.2 0 p234 q234; obtain rfl : ad231 = ad234 := (by injection e234); have qi234 : (0 < t225.length) = True := eq_true (by omega); (try rw [show ((0 : Int)).toNat = 0 from rfl] at hx234_0); (try rw [Addr.add_zero'] at hx234_0); replace p234 := eq_true p234; replace q234 := eq_true q234)); try go_wp2_with (first | (go_at_call 23; (with_reducible refine (lines_Long.calls k3 _ _ l1 a3 t233 _ ?side1 ?side2 A34.out).mono ?_); (case side1 => repeat (first | exact (Kd.C_below HR1.out HB.out) | (with_reducible refine Kd.C_alloc ?_ _) | (with_reducible refine Kd.C_drewN ?_ _) | (with_reducible refine Kd.C_drew ?_))); (case side2 => exact HC1.out); rintro e w43 ⟨rfl, hb⟩; have n0_ := Aside0.mk (Kd.R_below (by (with_reducible repeat (first | apply Kd.R_alloc | apply Kd.R_drewN | apply Kd.R_drew)); exact HO_11.out) hb); have n1_ := Aside0.mk (below_step (by repeat (first | (with_reducible first | exact HB.out | apply below_alloc | apply pw_below_drewN | apply below_drew1) | exact HB.out)) hb); clear HO_11; clear HB; have HO_11 := n0_; have HB := n1_; clear n0_ n1_; (try clear hb); (try clear hb2); (try clear hk); (try clear hi); have p234 : 0 ≤ (0 : Int) := (by omega); have q234 : 0 < (t225.length : Int) := of_decide_eq_true (by first | (with_reducible assumption) | assumption); obtain ⟨ad234, e234, hx234_0⟩ := Kd.at_int (Kd.R_reads' HO_11.out).2.2 0 p234 q234; obtain rfl : ad231 = ad234 := (by injection e234); have qi234 : (0 < t225.length) = True := eq_true (by omega); (try rw [show ((0 : Int)).toNat = 0 from rfl] at hx234_0); (try rw [Addr.add_zero'] at hx234_0); replace p234 := eq_true p234; replace q234 := eq_true q234)))
                                              go_ret
                                              exact ⟨by first | rfl | (simp [errW_none, errW_some] <;> rfl) | (simp only [← hji30]; first | rfl | (simp [errW_none, errW_some] <;> rfl)) | (simp [*, errW_none, errW_some] <;> rfl), by repeat (first | (with_reducible first | exact HB.out | apply below_alloc | apply pw_below_drewN | apply below_drew1) | exact HB.out)⟩
                                            · rw [if_neg c42] at H
                                              have c42b0 : (a0 == 1) = false := beq_eq_false_iff_ne.mpr c42
                                              have c42b1 : (a0 != 1) = true := bne_iff_ne.mpr c42
                                              obtain rfl := Option.some.inj H
                                              have p231 : 0 ≤ ((ji30) : Int) := of_decide_eq_true (by first | (with_reducible assumption) | assumption)
                                              have q231 : (ji30) < (t225.length : Int) := of_decide_eq_true (by first | (with_reducible assumption) | assumption)
                                              obtain ⟨ad231, e231, hx231_0⟩ := Kd.at_int (Kd.R_reads' HO_11.out).2.2 (ji30) p231 q231
                                              cases e231
                                              replace p231 := eq_true p231
                                              replace q231 := eq_true q231
                                              have p232 : 0 ≤ ((ji30) : Int) := of_decide_eq_true (by first | (with_reducible assumption) | assumption)
                                              have q232 : (ji30) < (l1.length : Int) := of_decide_eq_true (by first | (with_reducible assumption) | assumption)
                                              obtain ⟨ad232, e232, hx232_0⟩ := Kd.at_int HR1.out (ji30) p232 q232
                                              cases e232
                                              replace hx232_0 := (HB.out.cell (World.block_lt_of_cell? w _ hx232_0)).trans hx232_0
                                              replace p232 := eq_true p232
                                              replace q232 := eq_true q232
                                              go_wp2_with (first | (go_at_call 23; (with_reducible refine (lines_Long.calls k3 _ _ l1 a3 t233 _ ?side1 ?side2 A34.out).mono ?_); (case side1 => repeat (first | exact (Kd.C_below HR1.out HB.out) | (with_reducible refine Kd.C_alloc ?_ _) | (with_reducible refine Kd.C_drewN ?_ _) | (with_reducible refine Kd.C_drew ?_))); (case side2 => exact HC1.out); rintro e w44 ⟨rfl, hb⟩; have n0_ := Aside0.mk (Kd.R_below (by (with_reducible repeat (first | apply Kd.R_alloc | apply Kd.R_drewN | apply Kd.R_drew)); exact HO_11.out) hb); have n1_ := Aside0.mk (below_step (by repeat (first | (with_reducible first | exact HB.out | apply below_alloc | apply pw_below_drewN | apply below_drew1) | exact HB.out)) hb); clear HO_11; clear HB; have HO_11 := n0_; have HB := n1_; clear n0_ n1_; (try clear hb); (try clear hb2); (try clear hk); (try clear hi); have p234 : 0 ≤ (0 : Int) := (by omega); have q234 : 0 < (t225.length : Int) := of_decide_eq_true (by first | (with_reducible assumption) | assumption); obtain ⟨ad234, e234, hx234_0⟩ := Kd.at_int (Kd.R_reads' HO_11.out).2.2 0 p234 q234; obtain rfl : ad231 = ad234 := (by injection e234); have qi234 : (0 < t225.length) = True := eq_true (by omega); (try rw [show ((0 : Int)).toNat = 0 from rfl] at hx234_0); (try rw [Addr.add_zero'] at hx234_0); replace p234 := eq_true p234; replace q234 := eq_true q234))
                                              repeat (go_quiet (first | (go_at_call 23; (with_reducible refine (lines_Long.calls k3 _ _ l1 a3 t233 _ ?side1 ?side2 A34.out).mono ?_); (case side1 => repeat (first | exact (Kd.C_below HR1.out HB.out) | (with_reducible refine Kd.C_alloc ?_ _) | (with_reducible refine Kd.C_drewN ?_ _) | (with_reducible refine Kd.C_drew ?_))); (case side2 => exact HC1.out); rintro e w44 ⟨rfl, hb⟩; have n0_ := Aside0.mk (Kd.R_below (by (with_reducible repeat (first | apply Kd.R_alloc | apply Kd.R_drewN | apply Kd.R_drew)); exact HO_11.out) hb); have n1_ := Aside0.mk (below_step (by repeat (first | (with_reducible first | exact HB.out | apply below_alloc | apply pw_below_drewN | apply below_drew1) | exact HB.out)) hb); clear HO_11; clear HB; have HO_11 := n0_; have HB := n1_; clear n0_ n1_; (try clear hb); (try clear hb2); (try clear hk); (try clear hi); have p234 : 0 ≤ (0 : Int) := (by omega); have q234 : 0 < (t225.length : Int) := of_decide_eq_true (by first | (with_reducible assumption) | assumption); obtain ⟨ad234, e234, hx234_0⟩ := Kd.at_int (Kd.R_reads' HO_11.out).2.2 0 p234 q234; obtain rfl : ad231 = ad234 := (by injection e234); have qi234 : (0 < t225.length) = True := eq_true (by omega); (try rw [show ((0 : Int)).toNat = 0 from rfl] at hx234_0); (try rw [Addr.add_zero'] at hx234_0); replace p234 := eq_true p234; replace q234 := eq_true q234)); try go_wp2_with (first | (go_at_call 23; (with_reducible refine (lines_Long.calls k3 _ _ l1 a3 t233 _ ?side1 ?side2 A34.out).mono ?_); (case side1 => repeat (first | exact (Kd.C_below HR1.out HB.out) | (with_reducible refine Kd.C_alloc ?_ _) | (with_reducible refine Kd.C_drewN ?_ _) | (with_reducible refine Kd.C_drew ?_))); (case side2 => exact HC1.out); rintro e w44 ⟨rfl, hb⟩; have n0_ := Aside0.mk (Kd.R_below (by (with_reducible repeat (first | apply Kd.R_alloc | apply Kd.R_drewN | apply Kd.R_drew)); exact HO_11.out) hb); have n1_ := Aside0.mk (below_step (by repeat (first | (with_reducible first | exact HB.out | apply below_alloc | apply pw_below_drewN | apply below_drew1) | exact HB.out)) hb); clear HO_11; clear HB; have HO_11 := n0_; have HB := n1_; clear n0_ n1_; (try clear hb); (try clear hb2); (try clear hk); (try clear hi); have p234 : 0 ≤ (0 : Int) := (by omega); have q234 : 0 < (t225.length : Int) := of_decide_eq_true (by first | (with_reducible assumption) | assumption); obtain ⟨ad234, e234, hx234_0⟩ := Kd.at_int (Kd.R_reads' HO_11.out).2.2 0 p234 q234; obtain rfl : ad231 = ad234 := (by injection e234); have qi234 : (0 < t225.length) = True := eq_true (by omega); (try rw [show ((0 : Int)).toNat = 0 from rfl] at hx234_0); (try rw [Addr.add_zero'] at hx234_0); replace p234 := eq_true p234; replace q234 := eq_true q234)))
                                              go_ret
                                              exact ⟨by first | rfl | (simp [errW_none, errW_some] <;> rfl) | (simp only [← hji30]; first | rfl | (simp [errW_none, errW_some] <;> rfl)) | (simp [*, errW_none, errW_some] <;> rfl), by repeat (first | (with_reducible first | exact HB.out | apply below_alloc | apply pw_below_drewN | apply below_drew1) | exact HB.out)⟩
                                          · rw [if_neg c41] at H
                                            have c41b0 : decide ((l1.length : Int) < 2) = false := decide_eq_false c41
                                            have c41b1 : decide (l1.length < 2) = false := decide_eq_false (by omega)
                                            clear c41
                                            by_cases c45 : (rd t225 0) = 0
                                            · rw [if_pos c45] at H
                                              have c45b0 : ((rd t225 0) == 0) = true := beq_iff_eq.mpr c45
                                              have c45b1 : ((rd t225 0) != 0) = false := bne_eq_false_iff_eq.mpr c45
                                              clear c45
                                              by_cases c46 : (wrap64 ((rd t225 (ji30)) + (rd l1 (ji30)))) = a2
                                              · rw [if_pos c46] at H
                                                have c46b0 : ((wrap64 ((rd t225 (ji30)) + (rd l1 (ji30)))) == a2) = true := beq_iff_eq.mpr c46
                                                have c46b1 : ((wrap64 ((rd t225 (ji30)) + (rd l1 (ji30)))) != a2) = false := bne_eq_false_iff_eq.mpr c46
                                                clear c46
                                                by_cases c47 : a0 = 1
                                                · rw [if_pos c47] at H
                                                  have c47b0 : (a0 == 1) = true := beq_iff_eq.mpr c47
                                                  have c47b1 : (a0 != 1) = false := bne_eq_false_iff_eq.mpr c47
                                                  clear c47
                                                  obtain rfl := Option.some.inj H
                                                  have p231 : 0 ≤ ((ji30) : Int) := of_decide_eq_true (by first | (with_reducible assumption) | assumption)
                                                  have q231 : (ji30) < (t225.length : Int) := of_decide_eq_true (by first | (with_reducible assumption) | assumption)
                                                  obtain ⟨ad231, e231, hx231_0⟩ := Kd.at_int (Kd.R_reads' HO_11.out).2.2 (ji30) p231 q231
                                                  cases e231
                                                  replace p231 := eq_true p231
                                                  replace q231 := eq_true q231
                                                  have p232 : 0 ≤ ((ji30) : Int) := of_decide_eq_true (by first | (with_reducible assumption) | assumption)
                                                  have q232 : (ji30) < (l1.length : Int) := of_decide_eq_true (by first | (with_reducible assumption) | assumption)
                                                  obtain ⟨ad232, e232, hx232_0⟩ := Kd.at_int HR1.out (ji30) p232 q232
                                                  cases e232
                                                  replace hx232_0 := (HB.out.cell (World.block_lt_of_cell? w _ hx232_0)).trans hx232_0
                                                  replace p232 := eq_true p232
                                                  replace q232 := eq_true q232
                                                  go_wp2_with (first | (go_at_call 23; (with_reducible refine (lines_Long.calls k3 _ _ l1 a3 t233 _ ?side1 ?side2 A34.out).mono ?_); (case side1 => repeat (first | exact (Kd.C_below HR1.out HB.out) | (with_reducible refine Kd.C_alloc ?_ _) | (with_reducible refine Kd.C_drewN ?_ _) | (with_reducible refine Kd.C_drew ?_))); (case side2 => exact HC1.out); rintro e w48 ⟨rfl, hb⟩; have n0_ := Aside0.mk (Kd.R_below (by (with_reducible repeat (first | apply Kd.R_alloc | apply Kd.R_drewN | apply Kd.R_drew)); exact HO_11.out) hb); have n1_ := Aside0.mk (below_step (by repeat (first | (with_reducible first | exact HB.out | apply below_alloc | apply pw_below_drewN | apply below_drew1) | exact HB.out)) hb); clear HO_11; clear HB; have HO_11 := n0_; have HB := n1_; clear n0_ n1_; (try clear hb); (try clear hb2); (try clear hk); (try clear hi); have p234 : 0 ≤ (0 : Int) := (by omega); have q234 : 0 < (t225.length : Int) := of_decide_eq_true (by first | (with_reducible assumption) | assumption); obtain ⟨ad234, e234, hx234_0⟩ := Kd.at_int (Kd.R_reads' HO_11.out).2.2 0 p234 q234; obtain rfl : ad231 = ad234 := (by injection e234); have qi234 : (0 < t225.length) = True := eq_true (by omega); (try rw [show ((0 : Int)).toNat = 0 from rfl] at hx234_0); (try rw [Addr.add_zero'] at hx234_0); replace p234 := eq_true p234; replace q234 := eq_true q234; have p235 : 0 ≤ (0 : Int) := (by omega); have q235 : 0 < (t225.length : Int) := of_decide_eq_true (by first | (with_reducible assumption) | assumption); obtain ⟨ad235, e235, hx235_0⟩ := Kd.at_int (Kd.R_reads' HO_11.out).2.2 0 p235 q235; obtain rfl : ad231 = ad235 := (by injection e235); have qi235 : (0 < t225.length) = True := eq_true (by omega); (try rw [show ((0 : Int)).toNat = 0 from rfl] at hx235_0); (try rw [Addr.add_zero'] at hx235_0); replace p235 := eq_true p235; replace q235 := eq_true q235))
                                                  repeat (go_quiet (first | (go_at_call 23; (with_reducible refine (lines_Long.calls k3 _ _ l1 a3 t233 _ ?side1 ?side2 A34.out).mono ?_); (case side1 => repeat (first | exact (Kd.C_below HR1.out HB.out) | (with_reducible refine Kd.C_alloc ?_ _) | (with_reducible refine Kd.C_drewN ?_ _) | (with_reducible refine Kd.C_drew ?_))); (case side2 => exact HC1.out); rintro e w48 ⟨rfl, hb⟩; have n0_ := Aside0.mk (Kd.R_below (by (with_reducible repeat (first | apply Kd.R_alloc | apply Kd.R_drewN | apply Kd.R_drew)); exact HO_11.out) hb); have n1_ := Aside0.mk (below_step (by repeat (first | (with_reducible first | exact HB.out | apply below_alloc | apply pw_below_drewN | apply below_drew1) | exact HB.out)) hb); clear HO_11; clear HB; have HO_11 := n0_; have HB := n1_; clear n0_ n1_; (try clear hb); (try clear hb2); (try clear hk); (try clear hi); have p234 : 0 ≤ (0 : Int) := (by omega); have q234 : 0 < (t225.length : Int) := of_decide_eq_true (by first | (with_reducible assumption) | assumption); obtain ⟨ad234, e234, hx234_0⟩ := Kd.at_int (Kd.R_reads' HO_11.out).2.2 0 p234 q234; obtain rfl : ad231 = ad234 := (by injection e234); have qi234 : (0 < t225.length) = True := eq_true (by omega); (try rw [show ((0 : Int)).toNat = 0 from rfl] at hx234_0); (try rw [Addr.add_zero'] at hx234_0); replace p234 := eq_true p234; replace q234 := eq_true q234; have p235 : 0 ≤ (0 : Int) := (by omega); have q235 : 0 < (t225.length : Int) := of_decide_eq_true (by first | (with_reducible assumption) | assumption); obtain ⟨ad235, e235, hx235_0⟩ := Kd.at_int (Kd.R_reads' HO_11.out).2.2 0 p235 q235; obtain rfl : ad231 = ad235 := (by injection e235); have qi235 : (0 < t225.length) = True := eq_true (by omega); (try rw [show ((0 : Int)).toNat = 0 from rfl] at hx235_0); (try rw [Addr.add_zero'] at hx235_0); replace p235 := eq_true p235; replace q235 := eq_true q235)); try go_wp2_with (first | (go_at_call 23; (with_reducible refine (lines_Long.calls k3 _ _ l1 a3 t233 _ ?side1 ?side2 A34.out).mono ?_); (case side1 => repeat (first | exact (Kd.C_below HR1.out HB.out) | (with_reducible refine Kd.C_alloc ?_ _) | (with_reducible refine Kd.C_drewN ?_ _) | (with_reducible refine Kd.C_drew ?_))); (case side2 => exact HC1.out); rintro e w48 ⟨rfl, hb⟩; have n0_ := Aside0.mk (Kd.R_below (by (with_reducible repeat (first | apply Kd.R_alloc | apply Kd.R_drewN | apply Kd.R_drew)); exact HO_11.out) hb); have n1_ := Aside0.mk (below_step (by repeat (first | (with_reducible first | exact HB.out | apply below_alloc | apply pw_below_drewN | apply below_drew1) | exact HB.out)) hb); clear HO_11; clear HB; have HO_11 := n0_; have HB := n1_; clear n0_ n1_; (try clear hb); (try clear hb2); (try clear hk); (try clear hi); have p234 : 0 ≤ (0 : Int) := (by omega); have q234 : 0 < (t225.length : Int) := of_decide_eq_true (by first | (with_reducible assumption) | assumption); obtain ⟨ad234, e234, hx234_0⟩ := Kd.at_int (Kd.R_reads' HO_11.out).2.2 0 p234 q234; obtain rfl : ad231 = ad234 := (by injection e234); have qi234 : (0 < t225.length) = True := eq_true (by omega); (try rw [show ((0 : Int)).toNat = 0 from rfl] at hx234_0); (try rw [Addr.add_zero'] at hx234_0); replace p234 := eq_true p234; replace q234 := eq_true q234; have p235 : 0 ≤ (0 : Int) := (by omega); have q235 : 0 < (t225.length : Int) := of_decide_eq_true (by first | (with_reducible assumption) | assumption); obtain ⟨ad235, e235, hx235_0⟩ := Kd.at_int (Kd.R_reads' HO_11.out).2.2 0 p235 q235; obtain rfl : ad231 = ad235 := (by injection e235); have qi235 : (0 < t225.length) = True := eq_true (by omega); (try rw [show ((0 : Int)).toNat = 0 from rfl] at hx235_0); (try rw [Addr.add_zero'] at hx235_0); replace p235 := eq_true p235; replace q235 := eq_true q235)))
                                                  go_ret
                                                  exact ⟨by first | rfl | (simp [errW_none, errW_some] <;> rfl) | (simp only [← hji30]; first | rfl | (simp [errW_none, errW_some] <;> rfl)) | (simp [*, errW_none, errW_some] <;> rfl), by repeat (first | (with_reducible first | exact HB.out | apply below_alloc | apply pw_below_drewN | apply below_drew1) | exact HB.out)⟩
                                                · rw [if_neg c47] at H
                                                  have c47b0 : (a0 == 1) = false := beq_eq_false_iff_ne.mpr c47
                                                  have c47b1 : (a0 != 1) = true := bne_iff_ne.mpr c47
                                                  obtain rfl := Option.some.inj H
                                                  have p231 : 0 ≤ ((ji30) : Int) := of_decide_eq_true (by first | (with_reducible assumption) | assumption)
                                                  have q231 : (ji30) < (t225.length : Int) := of_decide_eq_true (by first | (with_reducible assumption) | assumption)
                                                  obtain ⟨ad231, e231, hx231_0⟩ := Kd.at_int (Kd.R_reads' HO_11.out).2.2 (ji30) p231 q231
                                                  cases e231
                                                  replace p231 := eq_true p231
                                                  replace q231 := eq_true q231
                                                  have p232 : 0 ≤ ((ji30) : Int) := of_decide_eq_true (by first | (with_reducible assumption) | assumption)
                                                  have q232 : (ji30) < (l1.length : Int) := of_decide_eq_true (by first | (with_reducible assumption) | assumption)
                                                  obtain ⟨ad232, e232, hx232_0⟩ := Kd.at_int HR1.out (ji30) p232 q232
                                                  cases e232
                                                  replace hx232_0 := (HB.out.cell (World.block_lt_of_cell? w _ hx232_0)).trans hx232_0
                                                  replace p232 := eq_true p232
                                                  replace q232 := eq_true q232
                                                  go_wp2_with (first | (go_at_call 23; (with_reducible refine (lines_Long.calls k3 _ _ l1 a3 t233 _ ?side1 ?side2 A34.out).mono ?_); (case side1 => repeat (first | exact (Kd.C_below HR1.out HB.out) | (with_reducible refine Kd.C_alloc ?_ _) | (with_reducible refine Kd.C_drewN ?_ _) | (with_reducible refine Kd.C_drew ?_))); (case side2 => exact HC1.out); rintro e w49 ⟨rfl, hb⟩; have n0_ := Aside0.mk (Kd.R_below (by (with_reducible repeat (first | apply Kd.R_alloc | apply Kd.R_drewN | apply Kd.R_drew)); exact HO_11.out) hb); have n1_ := Aside0.mk (below_step (by repeat (first | (with_reducible first | exact HB.out | apply below_alloc | apply pw_below_drewN | apply below_drew1) | exact HB.out)) hb); clear HO_11; clear HB; have HO_11 := n0_; have HB := n1_; clear n0_ n1_; (try clear hb); (try clear hb2); (try clear hk); (try clear hi); have p234 : 0 ≤ (0 : Int) := (by omega); have q234 : 0 < (t225.length : Int) := of_decide_eq_true (by first | (with_reducible assumption) | assumption); obtain ⟨ad234, e234, hx234_0⟩ := Kd.at_int (Kd.R_reads' HO_11.out).2.2 0 p234 q234; obtain rfl : ad231 = ad234 := (by injection e234); have qi234 : (0 < t225.length) = True := eq_true (by omega); (try rw [show ((0 : Int)).toNat = 0 from rfl] at hx234_0); (try rw [Addr.add_zero'] at hx234_0); replace p234 := eq_true p234; replace q234 := eq_true q234; have p235 : 0 ≤ (0 : Int) := (by omega); have q235 : 0 < (t225.length : Int) := of_decide_eq_true (by first | (with_reducible assumption) | assumption); obtain ⟨ad235, e235, hx235_0⟩ := Kd.at_int (Kd.R_reads' HO_11.out).2.2 0 p235 q235; obtain rfl : ad231 = ad235 := (by injection e235); have qi235 : (0 < t225.length) = True := eq_true (by omega); (try rw [show ((0 : Int)).toNat = 0 from rfl] at hx235_0); (try rw [Addr.add_zero'] at hx235_0); replace p235 := eq_true p235; replace q235 := eq_true q235))
                                                  repeat (go_quiet (first | (go_at_call 23; (with_reducible refine (lines_Long.calls k3 _ _ l1 a3 t233 _ ?side1 ?side2 A34.out).mono ?_); (case side1 => repeat (first | exact (Kd.C_below HR1.out HB.out) | (with_reducible refine Kd.C_alloc ?_ _) | (with_reducible refine Kd.C_drewN ?_ _) | (with_reducible refine Kd.C_drew ?_))); (case side2 => exact HC1.out); rintro e w49 ⟨rfl, hb⟩; have n0_ := Aside0.mk (Kd.R_below (by (with_reducible repeat (first | apply Kd.R_alloc | apply Kd.R_drewN | apply Kd.R_drew)); exact HO_11.out) hb); have n1_ := Aside0.mk (below_step (by repeat (first | (with_reducible first | exact HB.out | apply below_alloc | apply pw_below_drewN | apply below_drew1) | exact HB.out)) hb); clear HO_11; clear HB; have HO_11 := n0_; have HB := n1_; clear n0_ n1_; (try clear hb); (try clear hb2); (try clear hk); (try clear hi); have p234 : 0 ≤ (0 : Int) := (by omega); have q234 : 0 < (t225.length : Int) := of_decide_eq_true (by first | (with_reducible assumption) | assumption); obtain ⟨ad234, e234, hx234_0⟩ := Kd.at_int (Kd.R_reads' HO_11.out).2.2 0 p234 q234; obtain rfl : ad231 = ad234 := (by injection e234); have qi234 : (0 < t225.length) = True := eq_true (by omega); (try rw [show ((0 : Int)).toNat = 0 from rfl] at hx234_0); (try rw [Addr.add_zero'] at hx234_0); replace p234 := eq_true p234; replace q234 := eq_true q234; have p235 : 0 ≤ (0 : Int) := (by omega); have q235 : 0 < (t225.length : Int) := of_decide_eq_true (by first | (with_reducible assumption) | assumption); obtain ⟨ad235, e235, hx235_0⟩ := Kd.at_int (Kd.R_reads' HO_11.out).2.2 0 p235 q235; obtain rfl : ad231 = ad235 := (by injection e235); have qi235 : (0 < t225.length) = True := eq_true (by omega); (try rw [show ((0 : Int)).toNat = 0 from rfl] at hx235_0); (try rw [Addr.add_zero'] at hx235_0); replace p235 := eq_true p235; replace q235 := eq_true q235)); try go_wp2_with (first | (go_at_call 23; (with_reducible refine (lines_Long.calls k3 _ _ l1 a3 t233 _ ?side1 ?side2 A34.out).mono ?_); (case side1 => repeat (first | exact (Kd.C_below HR1.out HB.out) | (with_reducible refine Kd.C_alloc ?_ _) | (with_reducible refine Kd.C_drewN ?_ _) | (with_reducible refine Kd.C_drew ?_))); (case side2 => exact HC1.out); rintro e w49 ⟨rfl, hb⟩; have n0_ := Aside0.mk (Kd.R_below (by (with_reducible repeat (first | apply Kd.R_alloc | apply Kd.R_drewN | apply Kd.R_drew)); exact HO_11.out) hb); have n1_ := Aside0.mk (below_step (by repeat (first | (with_reducible first | exact HB.out | apply below_alloc | apply pw_below_drewN | apply below_drew1) | exact HB.out)) hb); clear HO_11; clear HB; have HO_11 := n0_; have HB := n1_; clear n0_ n1_; (try clear hb); (try clear hb2); (try clear hk); (try clear hi); have p234 : 0 ≤ (0 : Int) := (by omega); have q234 : 0 < (t225.length : Int) := of_decide_eq_true (by first | (with_reducible assumption) | assumption); obtain ⟨ad234, e234, hx234_0⟩ := Kd.at_int (Kd.R_reads' HO_11.out).2.2 0 p234 q234; obtain rfl : ad231 = ad234 := (by injection e234); have qi234 : (0 < t225.length) = True := eq_true (by omega); (try rw [show ((0 : Int)).toNat = 0 from rfl] at hx234_0); (try rw [Addr.add_zero'] at hx234_0); replace p234 := eq_true p234; replace q234 := eq_true q234; have p235 : 0 ≤ (0 : Int) := (by omega); have q235 : 0 < (t225.length : Int) := of_decide_eq_true (by first | (with_reducible assumption) | assumption); obtain ⟨ad235, e235, hx235_0⟩ := Kd.at_int (Kd.R_reads' HO_11.out).2.2 0 p235 q235; obtain rfl : ad231 = ad235 := (by injection e235); have qi235 : (0 < t225.length) = True := eq_true (by omega); (try rw [show ((0 : Int)).toNat = 0 from rfl] at hx235_0); (try rw [Addr.add_zero'] at hx235_0); replace p235 := eq_true p235; replace q235 := eq_true q235)))
                                                  go_ret
                                                  exact ⟨by first | rfl | (simp [errW_none, errW_some] <;> rfl) | (simp only [← hji30]; first | rfl | (simp [errW_none, errW_some] <;> rfl)) | (simp [*, errW_none, errW_some] <;> rfl), by repeat (first | (with_reducible first | exact HB.out | apply below_alloc | apply pw_below_drewN | apply below_drew1) | exact HB.out)⟩
                                              · rw [if_neg c46] at H
                                                exact absurd H (by simp)
                                            · rw [if_neg c45] at H
                                              exact absurd H (by simp)
                                        · rw [if_neg c40] at H
                                          have c40b0 : (a0 == 3) = false := beq_eq_false_iff_ne.mpr c40
                                          have c40b1 : (a0 != 3) = true := bne_iff_ne.mpr c40
                                          by_cases c50 : a0 = 1
                                          · rw [if_pos c50] at H
                                            have c50b0 : (a0 == 1) = true := beq_iff_eq.mpr c50
                                            have c50b1 : (a0 != 1) = false := bne_eq_false_iff_eq.mpr c50
                                            clear c50
                                            obtain rfl := Option.some.inj H
                                            have p231 : 0 ≤ ((ji30) : Int) := of_decide_eq_true (by first | (with_reducible assumption) | assumption)
                                            have q231 : (ji30) < (t225.length : Int) := of_decide_eq_true (by first | (with_reducible assumption) | assumption)
                                            obtain ⟨ad231, e231, hx231_0⟩ := Kd.at_int (Kd.R_reads' HO_11.out).2.2 (ji30) p231 q231
                                            cases e231
                                            replace p231 := eq_true p231
                                            replace q231 := eq_true q231
                                            have p232 : 0 ≤ ((ji30) : Int) := of_decide_eq_true (by first | (with_reducible assumption) | assumption)
                                            have q232 : (ji30) < (l1.length : Int) := of_decide_eq_true (by first | (with_reducible assumption) | assumption)
                                            obtain ⟨ad232, e232, hx232_0⟩ := Kd.at_int HR1.out (ji30) p232 q232
                                            cases e232
                                            replace hx232_0 := (HB.out.cell (World.block_lt_of_cell? w _ hx232_0)).trans hx232_0
                                            replace p232 := eq_true p232
                                            replace q232 := eq_true q232
                                            go_wp2_with (first | (go_at_call 23; (with_reducible refine (lines_Long.calls k3 _ _ l1 a3 t233 _ ?side1 ?side2 A34.out).mono ?_); (case side1 => repeat (first | exact (Kd.C_below HR1.out HB.out) | (with_reducible refine Kd.C_alloc ?_ _) | (with_reducible refine Kd.C_drewN ?_ _) | (with_reducible refine Kd.C_drew ?_))); (case side2 => exact HC1.out); rintro e w51 ⟨rfl, hb⟩; have n0_ := Aside0.mk (Kd.R_below (by (with_reducible repeat (first | apply Kd.R_alloc | apply Kd.R_drewN | apply Kd.R_drew)); exact HO_11.out) hb); have n1_ := Aside0.mk (below_step (by repeat (first | (with_reducible first | exact HB.out | apply below_alloc | apply pw_below_drewN | apply below_drew1) | exact HB.out)) hb); clear HO_11; clear HB; have HO_11 := n0_; have HB := n1_; clear n0_ n1_; (try clear hb); (try clear hb2); (try clear hk); (try clear hi); have p234 : 0 ≤ (0 : Int) := (by omega); have q234 : 0 < (t225.length : Int) := of_decide_eq_true (by first | (with_reducible assumption) | assumption); obtain ⟨ad234, e234, hx234_0⟩ := Kd.at_int (Kd.R_reads' HO_11.out).2.2 0 p234 q234; obtain rfl : ad231 = ad234 := (by injection e234); have qi234 : (0 < t225.length) = True := eq_true (by omega); (try rw [show ((0 : Int)).toNat = 0 from rfl] at hx234_0); (try rw [Addr.add_zero'] at hx234_0); replace p234 := eq_true p234; replace q234 := eq_true q234))
                                            repeat (go_quiet (first | (go_at_call 23; (with_reducible refine (lines_Long.calls k3 _ _ l1 a3 t233 _ ?side1 ?side2 A34.out).mono ?_); (case side1 => repeat (first | exact (Kd.C_below HR1.out HB.out) | (with_reducible refine Kd.C_alloc ?_ _) | (with_reducible refine Kd.C_drewN ?_ _) | (with_reducible refine Kd.C_drew ?_))); (case side2 => exact HC1.out); rintro e w51 ⟨rfl, hb⟩; have n0_ := Aside0.mk (Kd.R_below (by (with_reducible repeat (first | apply Kd.R_alloc | apply Kd.R_drewN | apply Kd.R_drew)); exact HO_11.out) hb); have n1_ := Aside0.mk (below_step (by repeat (first | (with_reducible first | exact HB.out | apply below_alloc | apply pw_below_drewN | apply below_drew1) | exact HB.out)) hb); clear HO_11; clear HB; have HO_11 := n0_; have HB := n1_; clear n0_ n1_; (try clear hb); (try clear hb2); (try clear hk); (try clear hi); have p234 : 0 ≤ (0 : Int) := (by omega); have q234 : 0 < (t225.length : Int) := of_decide_eq_true (by first | (with_reducible assumption) | assumption); obtain ⟨ad234, e234, hx234_0⟩ := Kd.at_int (Kd.R_reads' HO_11.out).2.2 0 p234 q234; obtain rfl : ad231 = ad234 := (by injection e234); have qi234 : (0 < t225.length) = True := eq_true (by omega); (try rw [show ((0 : Int)).toNat = 0 from rfl] at hx234_0); (try rw [Addr.add_zero'] at hx234_0); replace p234 := eq_true p234; replace q234 := eq_true q234)); try go_wp2_with (first | (go_at_call 23; (with_reducible refine (lines_Long.calls k3 _ _ l1 a3 t233 _ ?side1 ?side2 A34.out).mono ?_); (case side1 => repeat (first | exact (Kd.C_below HR1.out HB.out) | (with_reducible refine Kd.C_alloc ?_ _) | (with_reducible refine Kd.C_drewN ?_ _) | (with_reducible refine Kd.C_drew ?_))); (case side2 => exact HC1.out); rintro e w51 ⟨rfl, hb⟩; have n0_ := Aside0.mk (Kd.R_below (by (with_reducible repeat (first | apply Kd.R_alloc | apply Kd.R_drewN | apply Kd.R_drew)); exact HO_11.out) hb); have n1_ := Aside0.mk (below_step (by repeat (first | (with_reducible first | exact HB.out | apply below_alloc | apply pw_below_drewN | apply below_drew1) | exact HB.out)) hb); clear HO_11; clear HB; have HO_11 := n0_; have HB := n1_; clear n0_ n1_; (try clear hb); (try clear hb2); (try clear hk); (try clear hi); have p234 : 0 ≤ (0 : Int) := (by omega); have q234 : 0 < (t225.length : Int) := of_decide_eq_true (by first | (with_reducible assumption) | assumption); obtain ⟨ad234, e234, hx234_0⟩ := Kd.at_int (Kd.R_reads' HO_11.out).2.2 0 p234 q234; obtain rfl : ad231 = ad234 := (by injection e234); have qi234 : (0 < t225.length) = True := eq_true (by omega); (try rw [show ((0 : Int)).toNat = 0 from rfl] at hx234_0); (try rw [Addr.add_zero'] at hx234_0); replace p234 := eq_true p234; replace q234 := eq_true q234)))
                                            go_ret
                                            exact ⟨by first | rfl | (simp [errW_none, errW_some] <;> rfl) | (simp only [← hji30]; first | rfl | (simp [errW_none, errW_some] <;> rfl)) | (simp [*, errW_none, errW_some] <;> rfl), by repeat (first | (with_reducible first | exact HB.out | apply below_alloc | apply pw_below_drewN | apply below_drew1) | exact HB.out)⟩
                                          · rw [if_neg c50] at H
                                            have c50b0 : (a0 == 1) = false := beq_eq_false_iff_ne.mpr c50
                                            have c50b1 : (a0 != 1) = true := bne_iff_ne.mpr c50
                                            obtain rfl := Option.some.inj H
                                            have p231 : 0 ≤ ((ji30) : Int) := of_decide_eq_true (by first | (with_reducible assumption) | assumption)
                                            have q231 : (ji30) < (t225.length : Int) := of_decide_eq_true (by first | (with_reducible assumption) | assumption)
                                            obtain ⟨ad231, e231, hx231_0⟩ := Kd.at_int (Kd.R_reads' HO_11.out).2.2 (ji30) p231 q231
                                            cases e231
                                            replace p231 := eq_true p231
                                            replace q231 := eq_true q231
                                            have p232 : 0 ≤ ((ji30) : Int) := of_decide_eq_true (by first | (with_reducible assumption) | assumption)
                                            have q232 : (ji30) < (l1.length : Int) := of_decide_eq_true (by first | (with_reducible assumption) | assumption)
                                            obtain ⟨ad232, e232, hx232_0⟩ := Kd.at_int HR1.out (ji30) p232 q232
                                            cases e232
                                            replace hx232_0 := (HB.out.cell (World.block_lt_of_cell? w _ hx232_0)).trans hx232_0
                                            replace p232 := eq_true p232
                                            replace q232 := eq_true q232
                                            go_wp2_with (first | (go_at_call 23; (with_reducible refine (lines_Long.calls k3 _ _ l1 a3 t233 _ ?side1 ?side2 A34.out).mono ?_); (case side1 => repeat (first | exact (Kd.C_below HR1.out HB.out) | (with_reducible refine Kd.C_alloc ?_ _) | (with_reducible refine Kd.C_drewN ?_ _) | (with_reducible refine Kd.C_drew ?_))); (case side2 => exact HC1.out); rintro e w52 ⟨rfl, hb⟩; have n0_ := Aside0.mk (Kd.R_below (by (with_reducible repeat (first | apply Kd.R_alloc | apply Kd.R_drewN | apply Kd.R_drew)); exact HO_11.out) hb); have n1_ := Aside0.mk (below_step (by repeat (first | (with_reducible first | exact HB.out | apply below_alloc | apply pw_below_drewN | apply below_drew1) | exact HB.out)) hb); clear HO_11; clear HB; have HO_11 := n0_; have HB := n1_; clear n0_ n1_; (try clear hb); (try clear hb2); (try clear hk); (try clear hi); have p234 : 0 ≤ (0 : Int) := (by omega); have q234 : 0 < (t225.length : Int) := of_decide_eq_true (by first | (with_reducible assumption) | assumption); obtain ⟨ad234, e234, hx234_0⟩ := Kd.at_int (Kd.R_reads' HO_11.out).2.2 0 p234 q234; obtain rfl : ad231 = ad234 := (by injection e234); have qi234 : (0 < t225.length) = True := eq_true (by omega); (try rw [show ((0 : Int)).toNat = 0 from rfl] at hx234_0); (try rw [Addr.add_zero'] at hx234_0); replace p234 := eq_true p234; replace q234 := eq_true q234))
                                            repeat (go_quiet (first | (go_at_call 23; (with_reducible refine (lines_Long.calls k3 _ _ l1 a3 t233 _ ?side1 ?side2 A34.out).mono ?_); (case side1 => repeat (first | exact (Kd.C_below HR1.out HB.out) | (with_reducible refine Kd.C_alloc ?_ _) | (with_reducible refine Kd.C_drewN ?_ _) | (with_reducible refine Kd.C_drew ?_))); (case side2 => exact HC1.out); rintro e w52 ⟨rfl, hb⟩; have n0_ := Aside0.mk (Kd.R_below (by (with_reducible repeat (first | apply Kd.R_alloc | apply Kd.R_drewN | apply Kd.R_drew)); exact HO_11.out) hb); have n1_ := Aside0.mk (below_step (by repeat (first | (with_reducible first | exact HB.out | apply below_alloc | apply pw_below_drewN | apply below_drew1) | exact HB.out)) hb); clear HO_11; clear HB; have HO_11 := n0_; have HB := n1_; clear n0_ n1_; (try clear hb); (try clear hb2); (try clear hk); (try clear hi); have p234 : 0 ≤ (0 : Int) := (by omega); have q234 : 0 < (t225.length : Int) := of_decide_eq_true (by first | (with_reducible assumption) | assumption); obtain ⟨ad234, e234, hx234_0⟩ := Kd.at_int (Kd.R_reads' HO_11.out).2.2 0 p234 q234; obtain rfl : ad231 = ad234 := (by injection e234); have qi234 : (0 < t225.length) = True := eq_true (by omega); (try rw [show ((0 : Int)).toNat = 0 from rfl] at hx234_0); (try rw [Addr.add_zero'] at hx234_0); replace p234 := eq_true p234; replace q234 := eq_true q234)); try go_wp2_with (first | (go_at_call 23; (with_reducible refine (lines_Long.calls k3 _ _ l1 a3 t233 _ ?side1 ?side2 A34.out).mono ?_); (case side1 => repeat (first | exact (Kd.C_below HR1.out HB.out) | (with_reducible refine Kd.C_alloc ?_ _) | (with_reducible refine Kd.C_drewN ?_ _) | (with_reducible refine Kd.C_drew ?_))); (case side2 => exact HC1.out); rintro e w52 ⟨rfl, hb⟩; have n0_ := Aside0.mk (Kd.R_below (by (with_reducible repeat (first | apply Kd.R_alloc | apply Kd.R_drewN | apply Kd.R_drew)); exact HO_11.out) hb); have n1_ := Aside0.mk (below_step (by repeat (first | (with_reducible first | exact HB.out | apply below_alloc | apply pw_below_drewN | apply below_drew1) | exact HB.out)) hb); clear HO_11; clear HB; have HO_11 := n0_; have HB := n1_; clear n0_ n1_; (try clear hb); (try clear hb2); (try clear hk); (try clear hi); have p234 : 0 ≤ (0 : Int) := (by omega); have q234 : 0 < (t225.length : Int) := of_decide_eq_true (by first | (with_reducible assumption) | assumption); obtain ⟨ad234, e234, hx234_0⟩ := Kd.at_int (Kd.R_reads' HO_11.out).2.2 0 p234 q234; obtain rfl : ad231 = ad234 := (by injection e234); have qi234 : (0 < t225.length) = True := eq_true (by omega); (try rw [show ((0 : Int)).toNat = 0 from rfl] at hx234_0); (try rw [Addr.add_zero'] at hx234_0); replace p234 := eq_true p234; replace q234 := eq_true q234)))
                                            go_ret
                                            exact ⟨by first | rfl | (simp [errW_none, errW_some] <;> rfl) | (simp only [← hji30]; first | rfl | (simp [errW_none, errW_some] <;> rfl)) | (simp [*, errW_none, errW_some] <;> rfl), by repeat (first | (with_reducible first | exact HB.out | apply below_alloc | apply pw_below_drewN | apply below_drew1) | exact HB.out)⟩
                                      · exact absurd rfl c39
                                · rw [if_neg c36] at H
                                  exact absurd H (by simp)
                              · rw [if_neg c35] at H
                                have c35b0 : decide (t233 ≤ a2) = false := decide_eq_false c35
                                clear c35
                                by_cases c53 : true = true
                                · clear c53
                                  have H1 : (if a0 = 1 then (some ((wrap64 ((rd t225 (ji30)) + (rd l1 (ji30)))) == a2)) else (some true)) = some r := by first | (rw [if_pos rfl] at H; exact H) | (rw [if_pos True.intro] at H; exact H)
                                  clear H
                                  have H := H1
                                  clear H1
                                  by_cases c54 : a0 = 1
                                  · rw [if_pos c54] at H
                                    have c54b0 : (a0 == 1) = true := beq_iff_eq.mpr c54
                                    have c54b1 : (a0 != 1) = false := bne_eq_false_iff_eq.mpr c54
                                    clear c54
                                    obtain rfl := Option.some.inj H
                                    have p231 : 0 ≤ ((ji30) : Int) := of_decide_eq_true (by first | (with_reducible assumption) | assumption)
                                    have q231 : (ji30) < (t225.length : Int) := of_decide_eq_true (by first | (with_reducible assumption) | assumption)
                                    obtain ⟨ad231, e231, hx231_0⟩ := Kd.at_int (Kd.R_reads' HO_11.out).2.2 (ji30) p231 q231
                                    cases e231
                                    replace p231 := eq_true p231
                                    replace q231 := eq_true q231
                                    have p232 : 0 ≤ ((ji30) : Int) := of_decide_eq_true (by first | (with_reducible assumption) | assumption)
                                    have q232 : (ji30) < (l1.length : Int) := of_decide_eq_true (by first | (with_reducible assumption) | assumption)
                                    obtain ⟨ad232, e232, hx232_0⟩ := Kd.at_int HR1.out (ji30) p232 q232
                                    cases e232
                                    replace hx232_0 := (HB.out.cell (World.block_lt_of_cell? w _ hx232_0)).trans hx232_0
                                    replace p232 := eq_true p232
                                    replace q232 := eq_true q232
                                    go_wp2_with (first | (go_at_call 23; (with_reducible refine (lines_Long.calls k3 _ _ l1 a3 t233 _ ?side1 ?side2 A34.out).mono ?_); (case side1 => repeat (first | exact (Kd.C_below HR1.out HB.out) | (with_reducible refine Kd.C_alloc ?_ _) | (with_reducible refine Kd.C_drewN ?_ _) | (with_reducible refine Kd.C_drew ?_))); (case side2 => exact HC1.out); rintro e w55 ⟨rfl, hb⟩; have n0_ := Aside0.mk (Kd.R_below (by (with_reducible repeat (first | apply Kd.R_alloc | apply Kd.R_drewN | apply Kd.R_drew)); exact HO_11.out) hb); have n1_ := Aside0.mk (below_step (by repeat (first | (with_reducible first | exact HB.out | apply below_alloc | apply pw_below_drewN | apply below_drew1) | exact HB.out)) hb); clear HO_11; clear HB; have HO_11 := n0_; have HB := n1_; clear n0_ n1_; (try clear hb); (try clear hb2); (try clear hk); (try clear hi)))
                                    repeat (go_quiet (first | (go_at_call 23; (with_reducible refine (lines_Long.calls k3 _ _ l1 a3 t233 _ ?side1 ?side2 A34.out).mono ?_); (case side1 => repeat (first | exact (Kd.C_below HR1.out HB.out) | (with_reducible refine Kd.C_alloc ?_ _) | (with_reducible refine Kd.C_drewN ?_ _) | (with_reducible refine Kd.C_drew ?_))); (case side2 => exact HC1.out); rintro e w55 ⟨rfl, hb⟩; have n0_ := Aside0.mk (Kd.R_below (by (with_reducible repeat (first | apply Kd.R_alloc | apply Kd.R_drewN | apply Kd.R_drew)); exact HO_11.out) hb); have n1_ := Aside0.mk (below_step (by repeat (first | (with_reducible first | exact HB.out | apply below_alloc | apply pw_below_drewN | apply below_drew1) | exact HB.out)) hb); clear HO_11; clear HB; have HO_11 := n0_; have HB := n1_; clear n0_ n1_; (try clear hb); (try clear hb2); (try clear hk); (try clear hi))); try go_wp2_with (first | (go_at_call 23; (with_reducible refine (lines_Long.calls k3 _ _ l1 a3 t233 _ ?side1 ?side2 A34.out).mono ?_); (case side1 => repeat (first | exact (Kd.C_below HR1.out HB.out) | (with_reducible refine Kd.C_alloc ?_ _) | (with_reducible refine Kd.C_drewN ?_ _) | (with_reducible refine Kd.C_drew ?_))); (case side2 => exact HC1.out); rintro e w55 ⟨rfl, hb⟩; have n0_ := Aside0.mk (Kd.R_below (by (with_reducible repeat (first | apply Kd.R_alloc | apply Kd.R_drewN | apply Kd.R_drew)); exact HO_11.out) hb); have n1_ := Aside0.mk (below_step (by repeat (first | (with_reducible first | exact HB.out | apply below_alloc | apply pw_below_drewN | apply below_drew1) | exact HB.out)) hb); clear HO_11; clear HB; have HO_11 := n0_; have HB := n1_; clear n0_ n1_; (try clear hb); (try clear hb2); (try clear hk); (try clear hi))))
                                    go_ret
                                    exact ⟨by first | rfl | (simp [errW_none, errW_some] <;> rfl) | (simp only [← hji30]; first | rfl | (simp [errW_none, errW_some] <;> rfl)) | (simp [*, errW_none, errW_some] <;> rfl), by repeat (first | (with_reducible first | exact HB.out | apply below_alloc | apply pw_below_drewN | apply below_drew1) | exact HB.out)⟩
                                  · rw [if_neg c54] at H
                                    have c54b0 : (a0 == 1) = false := beq_eq_false_iff_ne.mpr c54
                                    have c54b1 : (a0 != 1) = true := bne_iff_ne.mpr c54
                                    obtain rfl := Option.some.inj H
                                    have p231 : 0 ≤ ((ji30) : Int) := of_decide_eq_true (by first | (with_reducible assumption) | assumption)
                                    have q231 : (ji30) < (t225.length : Int) := of_decide_eq_true (by first | (with_reducible assumption) | assumption)
                                    obtain ⟨ad231, e231, hx231_0⟩ := Kd.at_int (Kd.R_reads' HO_11.out).2.2 (ji30) p231 q231
                                    cases e231
                                    replace p231 := eq_true p231
                                    replace q231 := eq_true q231
                                    have p232 : 0 ≤ ((ji30) : Int) := of_decide_eq_true (by first | (with_reducible assumption) | assumption)
                                    have q232 : (ji30) < (l1.length : Int) := of_decide_eq_true (by first | (with_reducible assumption) | assumption)
                                    obtain ⟨ad232, e232, hx232_0⟩ := Kd.at_int HR1.out (ji30) p232 q232
                                    cases e232
                                    replace hx232_0 := (HB.out.cell (World.block_lt_of_cell? w _ hx232_0)).trans hx232_0
                                    replace p232 := eq_true p232
                                    replace q232 := eq_true q232
                                    go_wp2_with (first | (go_at_call 23; (with_reducible refine (lines_Long.calls k3 _ _ l1 a3 t233 _ ?side1 ?side2 A34.out).mono ?_); (case side1 => repeat (first | exact (Kd.C_below HR1.out HB.out) | (with_reducible refine Kd.C_alloc ?_ _) | (with_reducible refine Kd.C_drewN ?_ _) | (with_reducible refine Kd.C_drew ?_))); (case side2 => exact HC1.out); rintro e w56 ⟨rfl, hb⟩; have n0_ := Aside0.mk (Kd.R_below (by (with_reducible repeat (first | apply Kd.R_alloc | apply Kd.R_drewN | apply Kd.R_drew)); exact HO_11.out) hb); have n1_ := Aside0.mk (below_step (by repeat (first | (with_reducible first | exact HB.out | apply below_alloc | apply pw_below_drewN | apply below_drew1) | exact HB.out)) hb); clear HO_11; clear HB; have HO_11 := n0_; have HB := n1_; clear n0_ n1_; (try clear hb); (try clear hb2); (try clear hk); (try clear hi)))
                                    repeat (go_quiet (first | (go_at_call 23; (with_reducible refine (lines_Long.calls k3 _ _ l1 a3 t233 _ ?side1 ?side2 A34.out).mono ?_); (case side1 => repeat (first | exact (Kd.C_below HR1.out HB.out) | (with_reducible refine Kd.C_alloc ?_ _) | (with_reducible refine Kd.C_drewN ?_ _) | (with_reducible refine Kd.C_drew ?_))); (case side2 => exact HC1.out); rintro e w56 ⟨rfl, hb⟩; have n0_ := Aside0.mk (Kd.R_below (by (with_reducible repeat (first | apply Kd.R_alloc | apply Kd.R_drewN | apply Kd.R_drew)); exact HO_11.out) hb); have n1_ := Aside0.mk (below_step (by repeat (first | (with_reducible first | exact HB.out | apply below_alloc | apply pw_below_drewN | apply below_drew1) | exact HB.out)) hb); clear HO_11; clear HB; have HO_11 := n0_; have HB := n1_; clear n0_ n1_; (try clear hb); (try clear hb2); (try clear hk); (try clear hi))); try go_wp2_with (first | (go_at_call 23; (with_reducible refine (lines_Long.calls k3 _ _ l1 a3 t233 _ ?side1 ?side2 A34.out).mono ?_); (case side1 => repeat (first | exact (Kd.C_below HR1.out HB.out) | (with_reducible refine Kd.C_alloc ?_ _) | (with_reducible refine Kd.C_drewN ?_ _) | (with_reducible refine Kd.C_drew ?_))); (case side2 => exact HC1.out); rintro e w56 ⟨rfl, hb⟩; have n0_ := Aside0.mk (Kd.R_below (by (with_reducible repeat (first | apply Kd.R_alloc | apply Kd.R_drewN | apply Kd.R_drew)); exact HO_11.out) hb); have n1_ := Aside0.mk (below_step (by repeat (first | (with_reducible first | exact HB.out | apply below_alloc | apply pw_below_drewN | apply below_drew1) | exact HB.out)) hb); clear HO_11; clear HB; have HO_11 := n0_; have HB := n1_; clear n0_ n1_; (try clear hb); (try clear hb2); (try clear hk); (try clear hi))))
                                    go_ret
                                    exact ⟨by first | rfl | (simp [errW_none, errW_some] <;> rfl) | (simp only [← hji30]; first | rfl | (simp [errW_none, errW_some] <;> rfl)) | (simp [*, errW_none, errW_some] <;> rfl), by repeat (first | (with_reducible first | exact HB.out | apply below_alloc | apply pw_below_drewN | apply below_drew1) | exact HB.out)⟩
                                · exact absurd rfl c53
                            · rw [if_neg c33] at H
                              exact absurd H (by simp)
                          · rw [if_neg c32] at H
                            exact absurd H (by simp)
                        · rw [if_neg c31] at H
                          exact absurd H (by simp)
                · rw [if_neg c20] at H
                  exact absurd H (by simp)
  · replace c6 := Bool.eq_false_iff.mpr c6
    subst c6
    have H1 : (none) = some r := by rw [if_neg (show ¬ (false = true) by decide)] at H; exact H
    clear H
    have H := H1
    clear H1
    exact absurd H (by simp)

/-- THE ONE PURE STATEMENT of valancelaw09_JustifyApart: yours. -/
def valancelaw09_JustifyApart.Pure : Prop := ∀ (a0 : Int) (l1 : List Int) (a2 : Int) (a3 : Int), (Lit.int .i64 a0).wf = true → l1.length ≤ maxLen → l1.length * 8 ≤ 140737488351232 → (∀ x ∈ l1, (Lit.int .i64 x).wf = true) → (Lit.int .i64 a2).wf = true → (Lit.int .i64 a3).wf = true → ∃ k, valancelaw09_JustifyApart.f k a0 l1 a2 a3 = some true
theorem valancelaw09_JustifyApart.walk (P : valancelaw09_JustifyApart.Pure) (a0 : Int) (a1 : Option Addr) (len1 cap1 : Nat) (z1 : List Int) (a2 : Int) (a3 : Int) (w : World) (w0 : (Lit.int .i64 a0).wf = true) (w1 : (a1 = none ∧ len1 = 0 ∧ cap1 = 0 ∧ z1 = []) ∨ ∃ x, a1 = some x ∧ len1 ≤ cap1 ∧ cap1 ≤ maxLen ∧ z1.length = cap1 ∧ (∀ i, i < z1.length → w.cell? (x.add i) = some (.int .i64 (z1.getD i 0))) ∧ ∀ n ∈ z1, (Lit.int .i64 n).wf = true) (y1 : len1 * 8 ≤ 140737488351232) (w2 : (Lit.int .i64 a2).wf = true) (w3 : (Lit.int .i64 a3).wf = true) :
    Calls Try.prog 4 #[.int .i64 a0, .slice a1 len1 cap1, .int .i64 a2, .int .i64 a3] w fun e w' => e = .returned (.bool true) ∧ Below w.heap.size w w' := by
  obtain ⟨l1, rfl, hr1, hm1, hw1, hc1⟩ := ReadsInt.ofRowC w1
  obtain ⟨k, h⟩ := P a0 l1 a2 a3 w0 hm1 y1 hw1 w2 w3
  refine (valancelaw09_JustifyApart.calls k a0 _ _ l1 a2 a3 true w (Kd.C_of_reads (d := (0 : Int)) (h1 := fun _ => rfl) hr1) hc1 h).mono ?_
  rintro e w' ⟨rfl, hd⟩
  exact ⟨rfl, hd⟩

end Go.Proofs.Ytnmcefpnpfaklad.V
