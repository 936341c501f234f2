/- What the functions of this seat answer, as plain Lean functions, and that the calls come to just that (written by a program of this repo, over the kit's printer; Lean checks it). -/
import Derived.Test.YtnmcefpnpfakladVx0
import Derived.Test.YtnmcefpnpfakladVx4
import Derived.Test.YtnmcefpnpfakladVx11
import Derived.Test.YtnmcefpnpfakladVx14
namespace Go.Proofs.Ytnmcefpnpfaklad.V
open Go.RowKit Go.Proofs.YtnmcefpnpfakladW.PrintWords Go.Proofs.YtnmcefpnpfakladW.PrintLast Go.Proofs.YtnmcefpnpfakladW.PrintMore
attribute [local go_sem] max2_int min2_int max_two min_two max_three min_three max_four min_four   -- for this text's walks alone
set_option linter.unusedVariables false
set_option linter.unusedSimpArgs false

/-! ### valancelaw09_JustifyMore: function 8 -/
mutual
def valancelaw09_JustifyMore.j0 : Nat → Int → List Int → Int → Int → Int → Bool → Bool → Option (Bool)
  | 0, _, _, _, _, _, _, _ => none
  | k + 1, x0, x1, x2, x3, x4, x11, x46 => if x46 = true then (some x11) else (valancelaw09_JustifyMore.l0 k x0 x1 x2 x3 x4 x11 0)
def valancelaw09_JustifyMore.l0 : Nat → Int → List Int → Int → Int → Int → Bool → Int → Option (Bool)
  | 0, _, _, _, _, _, _, _ => none
  | k + 1, x0, x1, x2, x3, x4, x11, x12 => if x12 < (x1.length : Int) then (if 0 ≤ x12 then (if (rd x1 x12) < 0 then (some x11) else (if (rd x1 x12) > 1048576 then (some x11) else (valancelaw09_JustifyMore.l0 k x0 x1 x2 x3 x4 x11 (wrap64 (x12 + 1))))) else (none)) else ((justify_Starts.f k x0 x1 x2 x4).bind fun t297 => ((justify_Starts.f k x0 x1 (wrap64 (x2 + x3)) x4).bind fun t300 => ((lines_Long.f k x1 x4).bind fun t303 => (valancelaw09_JustifyMore.l1 k x0 x3 x11 t297 t300 (decide (t303 ≤ x2)) 0))))
def valancelaw09_JustifyMore.l1 : Nat → Int → Int → Bool → List Int → List Int → Bool → Int → Option (Bool)
  | 0, _, _, _, _, _, _, _ => none
  | k + 1, x0, x3, x11, x13, x14, x15, x16 => if x16 < (x13.length : Int) then (if x15 = true then (if 0 ≤ x16 then (if x16 < (x14.length : Int) then (if (rd x14 x16) < (rd x13 x16) then (none) else (if (rd x14 x16) > (wrap64 ((rd x13 x16) + x3)) then (none) else (if x0 = 0 then (if (rd x13 x16) = (rd x14 x16) then (if x0 = 1 then (if (rd x14 x16) = (wrap64 ((rd x13 x16) + x3)) then (valancelaw09_JustifyMore.l1 k x0 x3 x11 x13 x14 x15 (wrap64 (x16 + 1))) else (none)) else (valancelaw09_JustifyMore.l1 k x0 x3 x11 x13 x14 x15 (wrap64 (x16 + 1)))) else (none)) else (if x0 = 1 then (if (rd x14 x16) = (wrap64 ((rd x13 x16) + x3)) then (valancelaw09_JustifyMore.l1 k x0 x3 x11 x13 x14 x15 (wrap64 (x16 + 1))) else (none)) else (valancelaw09_JustifyMore.l1 k x0 x3 x11 x13 x14 x15 (wrap64 (x16 + 1))))))) else (none)) else (none)) else (if x0 = 0 then (if 0 ≤ x16 then (if x16 < (x14.length : Int) then (if (rd x13 x16) = (rd x14 x16) then (if x0 = 1 then (if (rd x14 x16) = (wrap64 ((rd x13 x16) + x3)) then (valancelaw09_JustifyMore.l1 k x0 x3 x11 x13 x14 x15 (wrap64 (x16 + 1))) else (none)) else (valancelaw09_JustifyMore.l1 k x0 x3 x11 x13 x14 x15 (wrap64 (x16 + 1)))) else (none)) else (none)) else (none)) else (if x0 = 1 then (if 0 ≤ x16 then (if x16 < (x14.length : Int) then (if (rd x14 x16) = (wrap64 ((rd x13 x16) + x3)) then (valancelaw09_JustifyMore.l1 k x0 x3 x11 x13 x14 x15 (wrap64 (x16 + 1))) else (none)) else (none)) else (none)) else (valancelaw09_JustifyMore.l1 k x0 x3 x11 x13 x14 x15 (wrap64 (x16 + 1)))))) else (if x11 = true then (some ((x13.length : Int) == (x14.length : Int))) else (none))
end
def valancelaw09_JustifyMore.f (k : Nat) (a0 : Int) (l1 : List Int) (a2 : Int) (a3 : Int) (a4 : Int) : Option (Bool) := (valancelaw09_works.f k).bind fun t294 => (if t294 = true then (if (l1.length : Int) > 64 then (valancelaw09_JustifyMore.j0 k a0 l1 a2 a3 a4 t294 true) else (if a2 < 0 then (valancelaw09_JustifyMore.j0 k a0 l1 a2 a3 a4 t294 true) else (if a2 > 268435456 then (valancelaw09_JustifyMore.j0 k a0 l1 a2 a3 a4 t294 true) else (if a3 < 0 then (valancelaw09_JustifyMore.j0 k a0 l1 a2 a3 a4 t294 true) else (if a3 > 268435456 then (valancelaw09_JustifyMore.j0 k a0 l1 a2 a3 a4 t294 true) else (if a4 < 0 then (valancelaw09_JustifyMore.j0 k a0 l1 a2 a3 a4 t294 true) else (valancelaw09_JustifyMore.j0 k a0 l1 a2 a3 a4 t294 (decide (a4 > 1048576))))))))) else (none))
theorem valancelaw09_JustifyMore.mono_l : ∀ k, (∀ y0 y1 y2 y3 y4 y5 y6, LeO (valancelaw09_JustifyMore.j0 k y0 y1 y2 y3 y4 y5 y6) (valancelaw09_JustifyMore.j0 (k + 1) y0 y1 y2 y3 y4 y5 y6)) ∧ (∀ y0 y1 y2 y3 y4 y5 y6, LeO (valancelaw09_JustifyMore.l0 k y0 y1 y2 y3 y4 y5 y6) (valancelaw09_JustifyMore.l0 (k + 1) y0 y1 y2 y3 y4 y5 y6)) ∧ (∀ y0 y1 y2 y3 y4 y5 y6, LeO (valancelaw09_JustifyMore.l1 k y0 y1 y2 y3 y4 y5 y6) (valancelaw09_JustifyMore.l1 (k + 1) y0 y1 y2 y3 y4 y5 y6))
  | 0 => ⟨fun _ _ _ _ _ _ _ r h => by simp [valancelaw09_JustifyMore.j0] at h, fun _ _ _ _ _ _ _ r h => by simp [valancelaw09_JustifyMore.l0] at h, fun _ _ _ _ _ _ _ r h => by simp [valancelaw09_JustifyMore.l1] at h⟩
  | k + 1 => by
    obtain ⟨ih0, ih1, ih2⟩ := valancelaw09_JustifyMore.mono_l k
    refine ⟨?_, ?_, ?_⟩
    · intro y0 y1 y2 y3 y4 y5 y6
      unfold valancelaw09_JustifyMore.j0
      repeat' first
      | (with_reducible exact ih0 _ _ _ _ _ _ _)
      | (with_reducible exact ih1 _ _ _ _ _ _ _)
      | (with_reducible exact ih2 _ _ _ _ _ _ _)
      | (with_reducible exact justify_Starts.mono _ _ _ _ _)
      | (with_reducible exact lines_Long.mono _ _ _)
      | (with_reducible exact valancelaw09_works.mono _)
      | (with_reducible exact LeO.refl _)
      | (with_reducible exact LeO.none _)
      | (with_reducible refine LeO.ite ?_ ?_)
      | (with_reducible refine LeO.bind ?_ (fun _ => ?_))
      | exact ih0 _ _ _ _ _ _ _
      | exact ih1 _ _ _ _ _ _ _
      | exact ih2 _ _ _ _ _ _ _
      | exact justify_Starts.mono _ _ _ _ _
      | exact lines_Long.mono _ _ _
      | exact valancelaw09_works.mono _
      | exact LeO.none _
      | refine LeO.ite ?_ ?_
      | refine LeO.bind ?_ (fun _ => ?_)
    · intro y0 y1 y2 y3 y4 y5 y6
      unfold valancelaw09_JustifyMore.l0
      repeat' first
      | (with_reducible exact ih0 _ _ _ _ _ _ _)
      | (with_reducible exact ih1 _ _ _ _ _ _ _)
      | (with_reducible exact ih2 _ _ _ _ _ _ _)
      | (with_reducible exact justify_Starts.mono _ _ _ _ _)
      | (with_reducible exact lines_Long.mono _ _ _)
      | (with_reducible exact valancelaw09_works.mono _)
      | (with_reducible exact LeO.refl _)
      | (with_reducible exact LeO.none _)
      | (with_reducible refine LeO.ite ?_ ?_)
      | (with_reducible refine LeO.bind ?_ (fun _ => ?_))
      | exact ih0 _ _ _ _ _ _ _
      | exact ih1 _ _ _ _ _ _ _
      | exact ih2 _ _ _ _ _ _ _
      | exact justify_Starts.mono _ _ _ _ _
      | exact lines_Long.mono _ _ _
      | exact valancelaw09_works.mono _
      | exact LeO.none _
      | refine LeO.ite ?_ ?_
      | refine LeO.bind ?_ (fun _ => ?_)
    · intro y0 y1 y2 y3 y4 y5 y6
      unfold valancelaw09_JustifyMore.l1
      repeat' first
      | (with_reducible exact ih0 _ _ _ _ _ _ _)
      | (with_reducible exact ih1 _ _ _ _ _ _ _)
      | (with_reducible exact ih2 _ _ _ _ _ _ _)
      | (with_reducible exact justify_Starts.mono _ _ _ _ _)
      | (with_reducible exact lines_Long.mono _ _ _)
      | (with_reducible exact valancelaw09_works.mono _)
      | (with_reducible exact LeO.refl _)
      | (with_reducible exact LeO.none _)
      | (with_reducible refine LeO.ite ?_ ?_)
      | (with_reducible refine LeO.bind ?_ (fun _ => ?_))
      | exact ih0 _ _ _ _ _ _ _
      | exact ih1 _ _ _ _ _ _ _
      | exact ih2 _ _ _ _ _ _ _
      | exact justify_Starts.mono _ _ _ _ _
      | exact lines_Long.mono _ _ _
      | exact valancelaw09_works.mono _
      | exact LeO.none _
      | refine LeO.ite ?_ ?_
      | refine LeO.bind ?_ (fun _ => ?_)
theorem valancelaw09_JustifyMore.mono : ∀ a0 a1 a2 a3 a4 k, LeO (valancelaw09_JustifyMore.f k a0 a1 a2 a3 a4) (valancelaw09_JustifyMore.f (k + 1) a0 a1 a2 a3 a4) := by
  intro a0 a1 a2 a3 a4 k
  obtain ⟨ih0, ih1, ih2⟩ := valancelaw09_JustifyMore.mono_l k
  unfold valancelaw09_JustifyMore.f
  repeat' first
      | (with_reducible exact ih0 _ _ _ _ _ _ _)
      | (with_reducible exact ih1 _ _ _ _ _ _ _)
      | (with_reducible exact ih2 _ _ _ _ _ _ _)
      | (with_reducible exact justify_Starts.mono _ _ _ _ _)
      | (with_reducible exact lines_Long.mono _ _ _)
      | (with_reducible exact valancelaw09_works.mono _)
      | (with_reducible exact LeO.refl _)
      | (with_reducible exact LeO.none _)
      | (with_reducible refine LeO.ite ?_ ?_)
      | (with_reducible refine LeO.bind ?_ (fun _ => ?_))
      | exact ih0 _ _ _ _ _ _ _
      | exact ih1 _ _ _ _ _ _ _
      | exact ih2 _ _ _ _ _ _ _
      | exact justify_Starts.mono _ _ _ _ _
      | exact lines_Long.mono _ _ _
      | exact valancelaw09_works.mono _
      | exact LeO.none _
      | refine LeO.ite ?_ ?_
      | refine LeO.bind ?_ (fun _ => ?_)
set_option maxHeartbeats 8000000 in
set_option maxRecDepth 100000 in
theorem valancelaw09_JustifyMore.calls (k : Nat) (a0 : Int) (A1 : Option Addr) (c1 : Nat) (l1 : List Int) (a2 : Int) (a3 : Int) (a4 : Int) (r : Bool) (w : World) (hr1 : Kd.C (Kd.int .i64) w A1 l1.length l1) (hc1 : l1.length ≤ c1) (h : valancelaw09_JustifyMore.f k a0 l1 a2 a3 a4 = some r) :
    Calls Try.prog 8 #[.int .i64 a0, .slice A1 l1.length c1, .int .i64 a2, .int .i64 a3, .int .i64 a4] w fun e w' => e = .returned (.bool r) ∧ Below w.heap.size w w' := by
  have HR1 := Aside0.mk hr1
  have HC1 := Aside0.mk hc1
  clear hr1 hc1
  have HB := Aside0.mk (Below.refl w.heap.size w)
  have H : ((valancelaw09_works.f k).bind fun t294 => (if t294 = true then (if (l1.length : Int) > 64 then (valancelaw09_JustifyMore.j0 k a0 l1 a2 a3 a4 t294 true) else (if a2 < 0 then (valancelaw09_JustifyMore.j0 k a0 l1 a2 a3 a4 t294 true) else (if a2 > 268435456 then (valancelaw09_JustifyMore.j0 k a0 l1 a2 a3 a4 t294 true) else (if a3 < 0 then (valancelaw09_JustifyMore.j0 k a0 l1 a2 a3 a4 t294 true) else (if a3 > 268435456 then (valancelaw09_JustifyMore.j0 k a0 l1 a2 a3 a4 t294 true) else (if a4 < 0 then (valancelaw09_JustifyMore.j0 k a0 l1 a2 a3 a4 t294 true) else (valancelaw09_JustifyMore.j0 k a0 l1 a2 a3 a4 t294 (decide (a4 > 1048576))))))))) else (none))) = some r := h
  clear h
  replace H := Option.bind_eq_some_iff.mp H
  obtain ⟨t294, A60, H⟩ := H
  replace H : (if t294 = true then (if (l1.length : Int) > 64 then (valancelaw09_JustifyMore.j0 k a0 l1 a2 a3 a4 t294 true) else (if a2 < 0 then (valancelaw09_JustifyMore.j0 k a0 l1 a2 a3 a4 t294 true) else (if a2 > 268435456 then (valancelaw09_JustifyMore.j0 k a0 l1 a2 a3 a4 t294 true) else (if a3 < 0 then (valancelaw09_JustifyMore.j0 k a0 l1 a2 a3 a4 t294 true) else (if a3 > 268435456 then (valancelaw09_JustifyMore.j0 k a0 l1 a2 a3 a4 t294 true) else (if a4 < 0 then (valancelaw09_JustifyMore.j0 k a0 l1 a2 a3 a4 t294 true) else (valancelaw09_JustifyMore.j0 k a0 l1 a2 a3 a4 t294 (decide (a4 > 1048576))))))))) else (none)) = some r := H
  have A6 := Aside0.mk A60
  clear A60
  by_cases c7 : t294 = true
  · subst c7
    have H1 : (if (l1.length : Int) > 64 then (valancelaw09_JustifyMore.j0 k a0 l1 a2 a3 a4 true true) else (if a2 < 0 then (valancelaw09_JustifyMore.j0 k a0 l1 a2 a3 a4 true true) else (if a2 > 268435456 then (valancelaw09_JustifyMore.j0 k a0 l1 a2 a3 a4 true true) else (if a3 < 0 then (valancelaw09_JustifyMore.j0 k a0 l1 a2 a3 a4 true true) else (if a3 > 268435456 then (valancelaw09_JustifyMore.j0 k a0 l1 a2 a3 a4 true true) else (if a4 < 0 then (valancelaw09_JustifyMore.j0 k a0 l1 a2 a3 a4 true true) else (valancelaw09_JustifyMore.j0 k a0 l1 a2 a3 a4 true (decide (a4 > 1048576))))))))) = some r := by rw [if_pos rfl] at H; exact H
    clear H
    have H := H1
    clear H1
    have HC8 := Aside0.mk H
    clear H
    go_enter Try.func8, Try.ntmps8
    go_upto_region 4 with (first | (go_at_call 15; (with_reducible refine (valancelaw09_works.calls k  true _ A6.out).mono ?_); rintro e w9 ⟨rfl, hb⟩; have n0_ := Aside0.mk (below_step (by repeat (first | (with_reducible first | exact HB.out | apply below_alloc | apply pw_below_drewN | apply below_drew1) | exact HB.out)) hb); clear HB; have HB := n0_; clear n0_; (try clear hb); (try clear hb2); (try clear hk); (try clear hi)))
    repeat (go_quiet (first | (go_at_call 15; (with_reducible refine (valancelaw09_works.calls k  true _ A6.out).mono ?_); rintro e w9 ⟨rfl, hb⟩; have n0_ := Aside0.mk (below_step (by repeat (first | (with_reducible first | exact HB.out | apply below_alloc | apply pw_below_drewN | apply below_drew1) | exact HB.out)) hb); clear HB; have HB := n0_; clear n0_; (try clear hb); (try clear hb2); (try clear hk); (try clear hi))); go_upto_region 4 with (first | (go_at_call 15; (with_reducible refine (valancelaw09_works.calls k  true _ A6.out).mono ?_); rintro e w9 ⟨rfl, hb⟩; have n0_ := Aside0.mk (below_step (by repeat (first | (with_reducible first | exact HB.out | apply below_alloc | apply pw_below_drewN | apply below_drew1) | exact HB.out)) hb); clear HB; have HB := n0_; clear n0_; (try clear hb); (try clear hb2); (try clear hk); (try clear hi))))
    (try simp only [Act.put, List.setIfInBounds_toArray, List.set_cons_zero, List.set_cons_succ])
    go_cut [46] (fun v46 wc => ∃ (kq : Nat) (x46_7 : Bool), v46 = .bool x46_7 ∧ Aside0 (valancelaw09_JustifyMore.j0 kq a0 l1 a2 a3 a4 true x46_7 = some r) ∧ Aside0 (kq ≤ k) ∧ Aside0 (Below w.heap.size w wc))
    case first =>
      have H := HC8.out
      clear HC8
      by_cases c10 : (l1.length : Int) > 64
      · rw [if_pos c10] at H
        have c10b0 : decide (64 < (l1.length : Int)) = true := decide_eq_true c10
        have c10b1 : decide (64 < l1.length) = true := decide_eq_true (by omega)
        clear c10
        (first | rw [c10b0] | (simp only [i64_w, i32_w]; rw [c10b0]) | skip)
        have H' := Aside0.mk H
        clear H
        go_wp2
        repeat (go_quiet (fail); try go_wp2)
        go_meet
        case rel => exact ⟨_, (true), (by first | rfl | (simp; done) | (simp [*]; done)), H', ⟨by first | omega | exact Nat.le_refl _⟩, ⟨by repeat (first | (with_reducible first | exact HB.out | apply below_alloc | apply pw_below_drewN | apply below_drew1) | exact HB.out)⟩⟩
      · rw [if_neg c10] at H
        have c10b0 : decide (64 < (l1.length : Int)) = false := decide_eq_false c10
        have c10b1 : decide (64 < l1.length) = false := decide_eq_false (by omega)
        clear c10
        (first | rw [c10b0] | (simp only [i64_w, i32_w]; rw [c10b0]) | skip)
        by_cases c11 : a2 < 0
        · rw [if_pos c11] at H
          have c11b0 : decide (a2 < 0) = true := decide_eq_true c11
          clear c11
          have H' := Aside0.mk H
          clear H
          go_wp2
          repeat (go_quiet (fail); try go_wp2)
          go_meet
          case rel => exact ⟨_, (true), (by first | rfl | (simp; done) | (simp [*]; done)), H', ⟨by first | omega | exact Nat.le_refl _⟩, ⟨by repeat (first | (with_reducible first | exact HB.out | apply below_alloc | apply pw_below_drewN | apply below_drew1) | exact HB.out)⟩⟩
        · rw [if_neg c11] at H
          have c11b0 : decide (a2 < 0) = false := decide_eq_false c11
          clear c11
          by_cases c12 : a2 > 268435456
          · rw [if_pos c12] at H
            have c12b0 : decide (268435456 < a2) = true := decide_eq_true c12
            clear c12
            have H' := Aside0.mk H
            clear H
            go_wp2
            repeat (go_quiet (fail); try go_wp2)
            go_meet
            case rel => exact ⟨_, (true), (by first | rfl | (simp; done) | (simp [*]; done)), H', ⟨by first | omega | exact Nat.le_refl _⟩, ⟨by repeat (first | (with_reducible first | exact HB.out | apply below_alloc | apply pw_below_drewN | apply below_drew1) | exact HB.out)⟩⟩
          · rw [if_neg c12] at H
            have c12b0 : decide (268435456 < a2) = false := decide_eq_false c12
            clear c12
            by_cases c13 : a3 < 0
            · rw [if_pos c13] at H
              have c13b0 : decide (a3 < 0) = true := decide_eq_true c13
              clear c13
              have H' := Aside0.mk H
              clear H
              go_wp2
              repeat (go_quiet (fail); try go_wp2)
              go_meet
              case rel => exact ⟨_, (true), (by first | rfl | (simp; done) | (simp [*]; done)), H', ⟨by first | omega | exact Nat.le_refl _⟩, ⟨by repeat (first | (with_reducible first | exact HB.out | apply below_alloc | apply pw_below_drewN | apply below_drew1) | exact HB.out)⟩⟩
            · rw [if_neg c13] at H
              have c13b0 : decide (a3 < 0) = false := decide_eq_false c13
              clear c13
              by_cases c14 : a3 > 268435456
              · rw [if_pos c14] at H
                have c14b0 : decide (268435456 < a3) = true := decide_eq_true c14
                clear c14
                have H' := Aside0.mk H
                clear H
                go_wp2
                repeat (go_quiet (fail); try go_wp2)
                go_meet
                case rel => exact ⟨_, (true), (by first | rfl | (simp; done) | (simp [*]; done)), H', ⟨by first | omega | exact Nat.le_refl _⟩, ⟨by repeat (first | (with_reducible first | exact HB.out | apply below_alloc | apply pw_below_drewN | apply below_drew1) | exact HB.out)⟩⟩
              · rw [if_neg c14] at H
                have c14b0 : decide (268435456 < a3) = false := decide_eq_false c14
                clear c14
                by_cases c15 : a4 < 0
                · rw [if_pos c15] at H
                  have c15b0 : decide (a4 < 0) = true := decide_eq_true c15
                  clear c15
                  have H' := Aside0.mk H
                  clear H
                  go_wp2
                  repeat (go_quiet (fail); try go_wp2)
                  go_meet
                  case rel => exact ⟨_, (true), (by first | rfl | (simp; done) | (simp [*]; done)), H', ⟨by first | omega | exact Nat.le_refl _⟩, ⟨by repeat (first | (with_reducible first | exact HB.out | apply below_alloc | apply pw_below_drewN | apply below_drew1) | exact HB.out)⟩⟩
                · rw [if_neg c15] at H
                  have c15b0 : decide (a4 < 0) = false := decide_eq_false c15
                  clear c15
                  have H' := Aside0.mk H
                  clear H
                  go_wp2
                  repeat (go_quiet (fail); try go_wp2)
                  go_meet
                  case rel => exact ⟨_, (decide (a4 > 1048576)), (by first | rfl | (simp; done) | (simp [*]; done)), H', ⟨by first | omega | exact Nat.le_refl _⟩, ⟨by repeat (first | (with_reducible first | exact HB.out | apply below_alloc | apply pw_below_drewN | apply below_drew1) | exact HB.out)⟩⟩
    case rest =>
      clear HC8
      try clear c1
      try clear p2
      try clear c7
      try clear c8
      try clear c10
      try clear c10b0
      try clear c10b1
      try clear c11
      try clear c11b0
      try clear c12
      try clear c12b0
      try clear c13
      try clear c13b0
      try clear c14
      try clear c14b0
      try clear c15
      try clear c15b0
      obtain ⟨kq, x46_7, rfl, HA, HJ7, HB⟩ := hcut
      cases kq with
      | zero => exact absurd HA.out (by simp [valancelaw09_JustifyMore.j0])
      | succ kj7 =>
        have H := HA.out
        clear HA
        simp only [valancelaw09_JustifyMore.j0] at H
        by_cases c16 : x46_7 = true
        · subst c16
          have H1 : (some true) = some r := by rw [if_pos rfl] at H; exact H
          clear H
          have H := H1
          clear H1
          obtain rfl := Option.some.inj H
          go_wp2
          repeat (go_quiet (fail); try go_wp2)
          go_ret
          exact ⟨by first | rfl | (simp [errW_none, errW_some] <;> rfl) | (simp [*, errW_none, errW_some] <;> rfl), by repeat (first | (with_reducible first | exact HB.out | apply below_alloc | apply pw_below_drewN | apply below_drew1) | exact HB.out)⟩
        · replace c16 := Bool.eq_false_iff.mpr c16
          subst c16
          have H1 : (valancelaw09_JustifyMore.l0 kj7 a0 l1 a2 a3 a4 true 0) = some r := by rw [if_neg (show ¬ (false = true) by decide)] at H; exact H
          clear H
          have H := H1
          clear H1
          have H' := Aside0.mk H
          clear H
          go_wp2
          repeat (go_quiet (fail); try go_wp2)
          go_loopg [12] kj7 (fun kq v12 w' => ∃ (x12_2 : Int), v12 = .int .i64 x12_2 ∧ Aside0 (valancelaw09_JustifyMore.l0 kq a0 l1 a2 a3 a4 true x12_2 = some r) ∧ Aside0 (kq ≤ kj7) ∧ Aside0 (Below w.heap.size w w'))
          case atStart => exact ⟨(0), (by first | rfl | (simp; done) | (simp [*]; done)), H', ⟨Nat.le_refl _⟩, ⟨by repeat (first | (with_reducible first | exact HB.out | apply below_alloc | apply pw_below_drewN | apply below_drew1) | exact HB.out)⟩⟩
          case round =>
            clear H'
            try clear c1
            try clear p2
            try clear c7
            try clear c8
            try clear c10
            try clear c10b0
            try clear c10b1
            try clear c11
            try clear c11b0
            try clear c12
            try clear c12b0
            try clear c13
            try clear c13b0
            try clear c14
            try clear c14b0
            try clear c15
            try clear c15b0
            try clear c16
            try clear p2
            obtain ⟨x12_2, rfl, HA, HK2, HB⟩ := hrel
            cases gk with
            | zero => exact absurd HA.out (by simp [valancelaw09_JustifyMore.l0])
            | succ k2 =>
              have H := HA.out
              clear HA
              simp only [valancelaw09_JustifyMore.l0] at H
              by_cases c17 : x12_2 < (l1.length : Int)
              · rw [if_pos c17] at H
                have c17b0 : decide (x12_2 < (l1.length : Int)) = true := decide_eq_true c17
                clear c17
                by_cases c18 : 0 ≤ x12_2
                · rw [if_pos c18] at H
                  have c18b0 : decide (0 ≤ x12_2) = true := decide_eq_true c18
                  clear c18
                  by_cases c19 : (rd l1 x12_2) < 0
                  · rw [if_pos c19] at H
                    have c19b0 : decide ((rd l1 x12_2) < 0) = true := decide_eq_true c19
                    clear c19
                    obtain rfl := Option.some.inj H
                    have p295 : 0 ≤ (x12_2 : Int) := of_decide_eq_true (by first | (with_reducible assumption) | assumption)
                    have q295 : x12_2 < (l1.length : Int) := of_decide_eq_true (by first | (with_reducible assumption) | assumption)
                    obtain ⟨ad295, e295, hx295_0⟩ := Kd.at_int HR1.out x12_2 p295 q295
                    cases e295
                    replace hx295_0 := (HB.out.cell (World.block_lt_of_cell? w _ hx295_0)).trans hx295_0
                    replace p295 := eq_true p295
                    replace q295 := eq_true q295
                    go_wp2
                    repeat (go_quiet (fail); try go_wp2)
                    go_ret
                    exact ⟨by first | rfl | (simp [errW_none, errW_some] <;> rfl) | (simp [*, errW_none, errW_some] <;> rfl), by repeat (first | (with_reducible first | exact HB.out | apply below_alloc | apply pw_below_drewN | apply below_drew1) | exact HB.out)⟩
                  · rw [if_neg c19] at H
                    have c19b0 : decide ((rd l1 x12_2) < 0) = false := decide_eq_false c19
                    clear c19
                    by_cases c20 : (rd l1 x12_2) > 1048576
                    · rw [if_pos c20] at H
                      have c20b0 : decide (1048576 < (rd l1 x12_2)) = true := decide_eq_true c20
                      clear c20
                      obtain rfl := Option.some.inj H
                      have p295 : 0 ≤ (x12_2 : Int) := of_decide_eq_true (by first | (with_reducible assumption) | assumption)
                      have q295 : x12_2 < (l1.length : Int) := of_decide_eq_true (by first | (with_reducible assumption) | assumption)
                      obtain ⟨ad295, e295, hx295_0⟩ := Kd.at_int HR1.out x12_2 p295 q295
                      cases e295
                      replace hx295_0 := (HB.out.cell (World.block_lt_of_cell? w _ hx295_0)).trans hx295_0
                      replace p295 := eq_true p295
                      replace q295 := eq_true q295
                      have p296 : 0 ≤ (x12_2 : Int) := of_decide_eq_true (by first | (with_reducible assumption) | assumption)
                      have q296 : x12_2 < (l1.length : Int) := of_decide_eq_true (by first | (with_reducible assumption) | assumption)
                      obtain ⟨ad296, e296, hx296_0⟩ := Kd.at_int HR1.out x12_2 p296 q296
                      obtain rfl : ad295 = ad296 := (by injection e296)
                      replace hx296_0 := (HB.out.cell (World.block_lt_of_cell? w _ hx296_0)).trans hx296_0
                      replace p296 := eq_true p296
                      replace q296 := eq_true q296
                      go_wp2
                      repeat (go_quiet (fail); try go_wp2)
                      go_ret
                      exact ⟨by first | rfl | (simp [errW_none, errW_some] <;> rfl) | (simp [*, errW_none, errW_some] <;> rfl), by repeat (first | (with_reducible first | exact HB.out | apply below_alloc | apply pw_below_drewN | apply below_drew1) | exact HB.out)⟩
                    · rw [if_neg c20] at H
                      have c20b0 : decide (1048576 < (rd l1 x12_2)) = false := decide_eq_false c20
                      clear c20
                      have H' := Aside0.mk H
                      clear H
                      have p295 : 0 ≤ (x12_2 : Int) := of_decide_eq_true (by first | (with_reducible assumption) | assumption)
                      have q295 : x12_2 < (l1.length : Int) := of_decide_eq_true (by first | (with_reducible assumption) | assumption)
                      obtain ⟨ad295, e295, hx295_0⟩ := Kd.at_int HR1.out x12_2 p295 q295
                      cases e295
                      replace hx295_0 := (HB.out.cell (World.block_lt_of_cell? w _ hx295_0)).trans hx295_0
                      replace p295 := eq_true p295
                      replace q295 := eq_true q295
                      have p296 : 0 ≤ (x12_2 : Int) := of_decide_eq_true (by first | (with_reducible assumption) | assumption)
                      have q296 : x12_2 < (l1.length : Int) := of_decide_eq_true (by first | (with_reducible assumption) | assumption)
                      obtain ⟨ad296, e296, hx296_0⟩ := Kd.at_int HR1.out x12_2 p296 q296
                      obtain rfl : ad295 = ad296 := (by injection e296)
                      replace hx296_0 := (HB.out.cell (World.block_lt_of_cell? w _ hx296_0)).trans hx296_0
                      replace p296 := eq_true p296
                      replace q296 := eq_true q296
                      go_wp2
                      repeat (go_quiet (fail); try go_wp2)
                      go_roundg k2
                      case measure => have := HJ7.out; have := HK2.out; omega
                      case rel => exact ⟨(wrap64 (x12_2 + 1)), (by first | rfl | (simp; done) | (simp [*]; done)), H', ⟨by have := HJ7.out; have := HK2.out; omega⟩, ⟨by repeat (first | (with_reducible first | exact HB.out | apply below_alloc | apply pw_below_drewN | apply below_drew1) | exact HB.out)⟩⟩
                · rw [if_neg c18] at H
                  exact absurd H (by simp)
              · rw [if_neg c17] at H
                have c17b0 : decide (x12_2 < (l1.length : Int)) = false := decide_eq_false c17
                clear c17
                replace H := Option.bind_eq_some_iff.mp H
                obtain ⟨t297, A210, H⟩ := H
                replace H : ((justify_Starts.f k2 a0 l1 (wrap64 (a2 + a3)) a4).bind fun t300 => ((lines_Long.f k2 l1 a4).bind fun t303 => (valancelaw09_JustifyMore.l1 k2 a0 a3 true t297 t300 (decide (t303 ≤ a2)) 0))) = some r := H
                have A21 := Aside0.mk A210
                clear A210
                replace H := Option.bind_eq_some_iff.mp H
                obtain ⟨t300, A220, H⟩ := H
                replace H : ((lines_Long.f k2 l1 a4).bind fun t303 => (valancelaw09_JustifyMore.l1 k2 a0 a3 true t297 t300 (decide (t303 ≤ a2)) 0)) = some r := H
                have A22 := Aside0.mk A220
                clear A220
                replace H := Option.bind_eq_some_iff.mp H
                obtain ⟨t303, A230, H⟩ := H
                replace H : (valancelaw09_JustifyMore.l1 k2 a0 a3 true t297 t300 (decide (t303 ≤ a2)) 0) = some r := H
                cases hbx_ : (decide (t303 ≤ a2)) with
                | true =>
                  rw [hbx_] at H
                  have A23 := Aside0.mk A230
                  clear A230
                  have H' := Aside0.mk H
                  clear H
                  go_wp2_with (first | (go_at_call 16; (with_reducible refine (justify_Starts.calls k2 a0 _ _ l1 a2 a4 t297 _ ?side1 ?side2 A21.out).mono ?_); (case side1 => repeat (first | exact (Kd.C_below HR1.out HB.out) | (with_reducible refine Kd.C_alloc ?_ _) | (with_reducible refine Kd.C_drewN ?_ _) | (with_reducible refine Kd.C_drew ?_))); (case side2 => exact HC1.out); rintro e w24 ⟨v298, rfl, ho0, hb⟩; have n0_ := Aside0.mk (Kd.R_lower ho0 (below_size (by repeat (first | (with_reducible first | exact HB.out | apply below_alloc | apply pw_below_drewN | apply below_drew1) | exact HB.out)))); have n1_ := Aside0.mk (below_step (by repeat (first | (with_reducible first | exact HB.out | apply below_alloc | apply pw_below_drewN | apply below_drew1) | exact HB.out)) hb); clear HB; have HO299 := n0_; have HB := n1_; clear n0_ n1_; (try clear hb); (try clear hb2); (try clear hk); (try clear hi); (try clear ho0)) | (go_at_call 16; (with_reducible refine (justify_Starts.calls k2 a0 _ _ l1 (wrap64 (a2 + a3)) a4 t300 _ ?side1 ?side2 A22.out).mono ?_); (case side1 => repeat (first | exact (Kd.C_below HR1.out HB.out) | (with_reducible refine Kd.C_alloc ?_ _) | (with_reducible refine Kd.C_drewN ?_ _) | (with_reducible refine Kd.C_drew ?_))); (case side2 => exact HC1.out); rintro e w25 ⟨v301, rfl, ho0, hb⟩; have n0_ := Aside0.mk (Kd.R_elder' (by (with_reducible repeat (first | apply Kd.R_alloc | apply Kd.R_drewN | apply Kd.R_drew)); exact HO299.out) (Kd.R_base ho0) hb); have n1_ := Aside0.mk (Kd.R_lower (Kd.R_new' ho0 (Kd.R_lt (by (with_reducible repeat (first | apply Kd.R_alloc | apply Kd.R_drewN | apply Kd.R_drew)); exact HO299.out))) (below_size (by repeat (first | (with_reducible first | exact HB.out | apply below_alloc | apply pw_below_drewN | apply below_drew1) | exact HB.out)))); have n2_ := Aside0.mk (below_step (by repeat (first | (with_reducible first | exact HB.out | apply below_alloc | apply pw_below_drewN | apply below_drew1) | exact HB.out)) hb); clear HO299; clear HB; have HO299 := n0_; have HO302 := n1_; have HB := n2_; clear n0_ n1_ n2_; (try clear hb); (try clear hb2); (try clear hk); (try clear hi); (try clear ho0)) | (go_at_call 23; (with_reducible refine (lines_Long.calls k2 _ _ l1 a4 t303 _ ?side1 ?side2 A23.out).mono ?_); (case side1 => repeat (first | exact (Kd.C_below HR1.out HB.out) | (with_reducible refine Kd.C_alloc ?_ _) | (with_reducible refine Kd.C_drewN ?_ _) | (with_reducible refine Kd.C_drew ?_))); (case side2 => exact HC1.out); rintro e w26 ⟨rfl, hb⟩; have n0_ := Aside0.mk (Kd.R_below (by (with_reducible repeat (first | apply Kd.R_alloc | apply Kd.R_drewN | apply Kd.R_drew)); exact HO299.out) hb); have n1_ := Aside0.mk (Kd.R_below (by (with_reducible repeat (first | apply Kd.R_alloc | apply Kd.R_drewN | apply Kd.R_drew)); exact HO302.out) hb); have n2_ := Aside0.mk (below_step (by repeat (first | (with_reducible first | exact HB.out | apply below_alloc | apply pw_below_drewN | apply below_drew1) | exact HB.out)) hb); clear HO299; clear HO302; clear HB; have HO299 := n0_; have HO302 := n1_; have HB := n2_; clear n0_ n1_ n2_; (try clear hb); (try clear hb2); (try clear hk); (try clear hi)))
                  repeat (go_quiet (first | (go_at_call 16; (with_reducible refine (justify_Starts.calls k2 a0 _ _ l1 a2 a4 t297 _ ?side1 ?side2 A21.out).mono ?_); (case side1 => repeat (first | exact (Kd.C_below HR1.out HB.out) | (with_reducible refine Kd.C_alloc ?_ _) | (with_reducible refine Kd.C_drewN ?_ _) | (with_reducible refine Kd.C_drew ?_))); (case side2 => exact HC1.out); rintro e w24 ⟨v298, rfl, ho0, hb⟩; have n0_ := Aside0.mk (Kd.R_lower ho0 (below_size (by repeat (first | (with_reducible first | exact HB.out | apply below_alloc | apply pw_below_drewN | apply below_drew1) | exact HB.out)))); have n1_ := Aside0.mk (below_step (by repeat (first | (with_reducible first | exact HB.out | apply below_alloc | apply pw_below_drewN | apply below_drew1) | exact HB.out)) hb); clear HB; have HO299 := n0_; have HB := n1_; clear n0_ n1_; (try clear hb); (try clear hb2); (try clear hk); (try clear hi); (try clear ho0)) | (go_at_call 16; (with_reducible refine (justify_Starts.calls k2 a0 _ _ l1 (wrap64 (a2 + a3)) a4 t300 _ ?side1 ?side2 A22.out).mono ?_); (case side1 => repeat (first | exact (Kd.C_below HR1.out HB.out) | (with_reducible refine Kd.C_alloc ?_ _) | (with_reducible refine Kd.C_drewN ?_ _) | (with_reducible refine Kd.C_drew ?_))); (case side2 => exact HC1.out); rintro e w25 ⟨v301, rfl, ho0, hb⟩; have n0_ := Aside0.mk (Kd.R_elder' (by (with_reducible repeat (first | apply Kd.R_alloc | apply Kd.R_drewN | apply Kd.R_drew)); exact HO299.out) (Kd.R_base ho0) hb); have n1_ := Aside0.mk (Kd.R_lower (Kd.R_new' ho0 (Kd.R_lt (by (with_reducible repeat (first | apply Kd.R_alloc | apply Kd.R_drewN | apply Kd.R_drew)); exact HO299.out))) (below_size (by repeat (first | (with_reducible first | exact HB.out | apply below_alloc | apply pw_below_drewN | apply below_drew1) | exact HB.out)))); have n2_ := Aside0.mk (below_step (by repeat (first | (with_reducible first | exact HB.out | apply below_alloc | apply pw_below_drewN | apply below_drew1) | exact HB.out)) hb); clear HO299; clear HB; have HO299 := n0_; have HO302 := n1_; have HB := n2_; clear n0_ n1_ n2_; (try clear hb); (try clear hb2); (try clear hk); (try clear hi); (try clear ho0)) | (go_at_call 23; (with_reducible refine (lines_Long.calls k2 _ _ l1 a4 t303 _ ?side1 ?side2 A23.out).mono ?_); (case side1 => repeat (first | exact (Kd.C_below HR1.out HB.out) | (with_reducible refine Kd.C_alloc ?_ _) | (with_reducible refine Kd.C_drewN ?_ _) | (with_reducible refine Kd.C_drew ?_))); (case side2 => exact HC1.out); rintro e w26 ⟨rfl, hb⟩; have n0_ := Aside0.mk (Kd.R_below (by (with_reducible repeat (first | apply Kd.R_alloc | apply Kd.R_drewN | apply Kd.R_drew)); exact HO299.out) hb); have n1_ := Aside0.mk (Kd.R_below (by (with_reducible repeat (first | apply Kd.R_alloc | apply Kd.R_drewN | apply Kd.R_drew)); exact HO302.out) hb); have n2_ := Aside0.mk (below_step (by repeat (first | (with_reducible first | exact HB.out | apply below_alloc | apply pw_below_drewN | apply below_drew1) | exact HB.out)) hb); clear HO299; clear HO302; clear HB; have HO299 := n0_; have HO302 := n1_; have HB := n2_; clear n0_ n1_ n2_; (try clear hb); (try clear hb2); (try clear hk); (try clear hi))); try go_wp2_with (first | (go_at_call 16; (with_reducible refine (justify_Starts.calls k2 a0 _ _ l1 a2 a4 t297 _ ?side1 ?side2 A21.out).mono ?_); (case side1 => repeat (first | exact (Kd.C_below HR1.out HB.out) | (with_reducible refine Kd.C_alloc ?_ _) | (with_reducible refine Kd.C_drewN ?_ _) | (with_reducible refine Kd.C_drew ?_))); (case side2 => exact HC1.out); rintro e w24 ⟨v298, rfl, ho0, hb⟩; have n0_ := Aside0.mk (Kd.R_lower ho0 (below_size (by repeat (first | (with_reducible first | exact HB.out | apply below_alloc | apply pw_below_drewN | apply below_drew1) | exact HB.out)))); have n1_ := Aside0.mk (below_step (by repeat (first | (with_reducible first | exact HB.out | apply below_alloc | apply pw_below_drewN | apply below_drew1) | exact HB.out)) hb); clear HB; have HO299 := n0_; have HB := n1_; clear n0_ n1_; (try clear hb); (try clear hb2); (try clear hk); (try clear hi); (try clear ho0)) | (go_at_call 16; (with_reducible refine (justify_Starts.calls k2 a0 _ _ l1 (wrap64 (a2 + a3)) a4 t300 _ ?side1 ?side2 A22.out).mono ?_); (case side1 => repeat (first | exact (Kd.C_below HR1.out HB.out) | (with_reducible refine Kd.C_alloc ?_ _) | (with_reducible refine Kd.C_drewN ?_ _) | (with_reducible refine Kd.C_drew ?_))); (case side2 => exact HC1.out); rintro e w25 ⟨v301, rfl, ho0, hb⟩; have n0_ := Aside0.mk (Kd.R_elder' (by (with_reducible repeat (first | apply Kd.R_alloc | apply Kd.R_drewN | apply Kd.R_drew)); exact HO299.out) (Kd.R_base ho0) hb); have n1_ := Aside0.mk (Kd.R_lower (Kd.R_new' ho0 (Kd.R_lt (by (with_reducible repeat (first | apply Kd.R_alloc | apply Kd.R_drewN | apply Kd.R_drew)); exact HO299.out))) (below_size (by repeat (first | (with_reducible first | exact HB.out | apply below_alloc | apply pw_below_drewN | apply below_drew1) | exact HB.out)))); have n2_ := Aside0.mk (below_step (by repeat (first | (with_reducible first | exact HB.out | apply below_alloc | apply pw_below_drewN | apply below_drew1) | exact HB.out)) hb); clear HO299; clear HB; have HO299 := n0_; have HO302 := n1_; have HB := n2_; clear n0_ n1_ n2_; (try clear hb); (try clear hb2); (try clear hk); (try clear hi); (try clear ho0)) | (go_at_call 23; (with_reducible refine (lines_Long.calls k2 _ _ l1 a4 t303 _ ?side1 ?side2 A23.out).mono ?_); (case side1 => repeat (first | exact (Kd.C_below HR1.out HB.out) | (with_reducible refine Kd.C_alloc ?_ _) | (with_reducible refine Kd.C_drewN ?_ _) | (with_reducible refine Kd.C_drew ?_))); (case side2 => exact HC1.out); rintro e w26 ⟨rfl, hb⟩; have n0_ := Aside0.mk (Kd.R_below (by (with_reducible repeat (first | apply Kd.R_alloc | apply Kd.R_drewN | apply Kd.R_drew)); exact HO299.out) hb); have n1_ := Aside0.mk (Kd.R_below (by (with_reducible repeat (first | apply Kd.R_alloc | apply Kd.R_drewN | apply Kd.R_drew)); exact HO302.out) hb); have n2_ := Aside0.mk (below_step (by repeat (first | (with_reducible first | exact HB.out | apply below_alloc | apply pw_below_drewN | apply below_drew1) | exact HB.out)) hb); clear HO299; clear HO302; clear HB; have HO299 := n0_; have HO302 := n1_; have HB := n2_; clear n0_ n1_ n2_; (try clear hb); (try clear hb2); (try clear hk); (try clear hi))))
                  go_loopg [16] k2 (fun kq v16 w' => ∃ (x16_3 : Int), v16 = .int .i64 x16_3 ∧ Aside0 (valancelaw09_JustifyMore.l1 kq a0 a3 true t297 t300 true x16_3 = some r) ∧ Aside0 (kq ≤ k2) ∧ Aside0 (Kd.R (Kd.int .i64) 3 w' w.heap.size (fun k_ => some k_ ≠ (v301 : Value).ownBlock) v298 t297) ∧ Aside0 (Kd.R (Kd.int .i64) 3 w' w.heap.size (fun k_ => some k_ ≠ (v298 : Value).ownBlock) v301 t300) ∧ Aside0 (Below w.heap.size w w'))
                  case atStart => exact ⟨(0), (by first | rfl | (simp; done) | (simp [*]; done)), H', ⟨Nat.le_refl _⟩, ⟨by (with_reducible repeat (first | apply Kd.R_alloc | apply Kd.R_drewN | apply Kd.R_drew)); exact Kd.R_mono HO299.out (fun _ hk => hk.2)⟩, ⟨by (with_reducible repeat (first | apply Kd.R_alloc | apply Kd.R_drewN | apply Kd.R_drew)); exact Kd.R_mono HO302.out (fun _ hk => hk.2)⟩, ⟨by repeat (first | (with_reducible first | exact HB.out | apply below_alloc | apply pw_below_drewN | apply below_drew1) | exact HB.out)⟩⟩
                  case round =>
                    clear H'
                    try clear c1
                    try clear c2
                    try clear p2
                    try clear q2
                    try clear hx2
                    try clear p6
                    try clear c7
                    try clear c8
                    try clear c10
                    try clear c10b0
                    try clear c10b1
                    try clear c11
                    try clear c11b0
                    try clear c12
                    try clear c12b0
                    try clear c13
                    try clear c13b0
                    try clear c14
                    try clear c14b0
                    try clear c15
                    try clear c15b0
                    try clear c16
                    try clear c17
                    try clear c17b0
                    try clear c18
                    try clear c18b0
                    try clear c19
                    try clear c19b0
                    try clear c20
                    try clear c20b0
                    try clear hx295_0
                    try clear hx296_0
                    try clear p2
                    try clear p295
                    try clear p296
                    try clear q295
                    try clear q296
                    obtain ⟨x16_3, rfl, HA, HK3, HO_13, HO_14, HB⟩ := hrel
                    cases gk with
                    | zero => exact absurd HA.out (by simp [valancelaw09_JustifyMore.l1])
                    | succ k3 =>
                      have H := HA.out
                      clear HA
                      simp only [valancelaw09_JustifyMore.l1] at H
                      by_cases c27 : x16_3 < (t297.length : Int)
                      · rw [if_pos c27] at H
                        have c27b0 : decide (x16_3 < (t297.length : Int)) = true := decide_eq_true c27
                        clear c27
                        by_cases c28 : true = true
                        · first | rw [if_pos c28] at H | rw [if_pos True.intro] at H
                          have c28b0 : true = true := rfl
                          clear c28
                          by_cases c29 : 0 ≤ x16_3
                          · rw [if_pos c29] at H
                            have c29b0 : decide (0 ≤ x16_3) = true := decide_eq_true c29
                            clear c29
                            by_cases c30 : x16_3 < (t300.length : Int)
                            · rw [if_pos c30] at H
                              have c30b0 : decide (x16_3 < (t300.length : Int)) = true := decide_eq_true c30
                              clear c30
                              by_cases c31 : (rd t300 x16_3) < (rd t297 x16_3)
                              · rw [if_pos c31] at H
                                exact absurd H (by simp)
                              · rw [if_neg c31] at H
                                have c31b0 : decide ((rd t300 x16_3) < (rd t297 x16_3)) = false := decide_eq_false c31
                                clear c31
                                by_cases c32 : (rd t300 x16_3) > (wrap64 ((rd t297 x16_3) + a3))
                                · rw [if_pos c32] at H
                                  exact absurd H (by simp)
                                · rw [if_neg c32] at H
                                  have c32b0 : decide ((wrap64 ((rd t297 x16_3) + a3)) < (rd t300 x16_3)) = false := decide_eq_false c32
                                  clear c32
                                  by_cases c33 : a0 = 0
                                  · rw [if_pos c33] at H
                                    have c33b0 : (a0 == 0) = true := beq_iff_eq.mpr c33
                                    have c33b1 : (a0 != 0) = false := bne_eq_false_iff_eq.mpr c33
                                    clear c33
                                    by_cases c34 : (rd t297 x16_3) = (rd t300 x16_3)
                                    · rw [if_pos c34] at H
                                      have c34b0 : ((rd t297 x16_3) == (rd t300 x16_3)) = true := beq_iff_eq.mpr c34
                                      have c34b1 : ((rd t297 x16_3) != (rd t300 x16_3)) = false := bne_eq_false_iff_eq.mpr c34
                                      clear c34
                                      by_cases c35 : a0 = 1
                                      · rw [if_pos c35] at H
                                        have c35b0 : (a0 == 1) = true := beq_iff_eq.mpr c35
                                        have c35b1 : (a0 != 1) = false := bne_eq_false_iff_eq.mpr c35
                                        clear c35
                                        by_cases c36 : (rd t300 x16_3) = (wrap64 ((rd t297 x16_3) + a3))
                                        · rw [if_pos c36] at H
                                          have c36b0 : ((rd t300 x16_3) == (wrap64 ((rd t297 x16_3) + a3))) = true := beq_iff_eq.mpr c36
                                          have c36b1 : ((rd t300 x16_3) != (wrap64 ((rd t297 x16_3) + a3))) = false := bne_eq_false_iff_eq.mpr c36
                                          clear c36
                                          have H' := Aside0.mk H
                                          clear H
                                          obtain ⟨Ao37, co37, eo37⟩ := Kd.R_slice HO_13.out
                                          subst eo37
                                          obtain ⟨Ao38, co38, eo38⟩ := Kd.R_slice HO_14.out
                                          subst eo38
                                          have p304 : 0 ≤ (x16_3 : Int) := of_decide_eq_true (by first | (with_reducible assumption) | assumption)
                                          have q304 : x16_3 < (t300.length : Int) := of_decide_eq_true (by first | (with_reducible assumption) | assumption)
                                          obtain ⟨ad304, e304, hx304_0⟩ := Kd.at_int (Kd.R_reads' HO_14.out).2.2 x16_3 p304 q304
                                          cases e304
                                          replace p304 := eq_true p304
                                          replace q304 := eq_true q304
                                          have p305 : 0 ≤ (x16_3 : Int) := of_decide_eq_true (by first | (with_reducible assumption) | assumption)
                                          have q305 : x16_3 < (t297.length : Int) := of_decide_eq_true (by first | (with_reducible assumption) | assumption)
                                          obtain ⟨ad305, e305, hx305_0⟩ := Kd.at_int (Kd.R_reads' HO_13.out).2.2 x16_3 p305 q305
                                          cases e305
                                          replace p305 := eq_true p305
                                          replace q305 := eq_true q305
                                          have p306 : 0 ≤ (x16_3 : Int) := of_decide_eq_true (by first | (with_reducible assumption) | assumption)
                                          have q306 : x16_3 < (t300.length : Int) := of_decide_eq_true (by first | (with_reducible assumption) | assumption)
                                          obtain ⟨ad306, e306, hx306_0⟩ := Kd.at_int (Kd.R_reads' HO_14.out).2.2 x16_3 p306 q306
                                          obtain rfl : ad304 = ad306 := (by injection e306)
                                          replace p306 := eq_true p306
                                          replace q306 := eq_true q306
                                          have p307 : 0 ≤ (x16_3 : Int) := of_decide_eq_true (by first | (with_reducible assumption) | assumption)
                                          have q307 : x16_3 < (t297.length : Int) := of_decide_eq_true (by first | (with_reducible assumption) | assumption)
                                          obtain ⟨ad307, e307, hx307_0⟩ := Kd.at_int (Kd.R_reads' HO_13.out).2.2 x16_3 p307 q307
                                          obtain rfl : ad305 = ad307 := (by injection e307)
                                          replace p307 := eq_true p307
                                          replace q307 := eq_true q307
                                          have p308 : 0 ≤ (x16_3 : Int) := of_decide_eq_true (by first | (with_reducible assumption) | assumption)
                                          have q308 : x16_3 < (t297.length : Int) := of_decide_eq_true (by first | (with_reducible assumption) | assumption)
                                          obtain ⟨ad308, e308, hx308_0⟩ := Kd.at_int (Kd.R_reads' HO_13.out).2.2 x16_3 p308 q308
                                          obtain rfl : ad305 = ad308 := (by injection e308)
                                          replace p308 := eq_true p308
                                          replace q308 := eq_true q308
                                          have p309 : 0 ≤ (x16_3 : Int) := of_decide_eq_true (by first | (with_reducible assumption) | assumption)
                                          have q309 : x16_3 < (t300.length : Int) := of_decide_eq_true (by first | (with_reducible assumption) | assumption)
                                          obtain ⟨ad309, e309, hx309_0⟩ := Kd.at_int (Kd.R_reads' HO_14.out).2.2 x16_3 p309 q309
                                          obtain rfl : ad304 = ad309 := (by injection e309)
                                          replace p309 := eq_true p309
                                          replace q309 := eq_true q309
                                          have p310 : 0 ≤ (x16_3 : Int) := of_decide_eq_true (by first | (with_reducible assumption) | assumption)
                                          have q310 : x16_3 < (t300.length : Int) := of_decide_eq_true (by first | (with_reducible assumption) | assumption)
                                          obtain ⟨ad310, e310, hx310_0⟩ := Kd.at_int (Kd.R_reads' HO_14.out).2.2 x16_3 p310 q310
                                          obtain rfl : ad304 = ad310 := (by injection e310)
                                          replace p310 := eq_true p310
                                          replace q310 := eq_true q310
                                          have p311 : 0 ≤ (x16_3 : Int) := of_decide_eq_true (by first | (with_reducible assumption) | assumption)
                                          have q311 : x16_3 < (t297.length : Int) := of_decide_eq_true (by first | (with_reducible assumption) | assumption)
                                          obtain ⟨ad311, e311, hx311_0⟩ := Kd.at_int (Kd.R_reads' HO_13.out).2.2 x16_3 p311 q311
                                          obtain rfl : ad305 = ad311 := (by injection e311)
                                          replace p311 := eq_true p311
                                          replace q311 := eq_true q311
                                          go_wp2
                                          repeat (go_quiet (fail); try go_wp2)
                                          go_roundg k3
                                          case measure => have := HJ7.out; have := HK2.out; have := HK3.out; omega
                                          case rel => exact ⟨(wrap64 (x16_3 + 1)), (by first | rfl | (simp; done) | (simp [*]; done)), H', ⟨by have := HJ7.out; have := HK2.out; have := HK3.out; omega⟩, ⟨by (with_reducible repeat (first | apply Kd.R_alloc | apply Kd.R_drewN | apply Kd.R_drew)); exact HO_13.out⟩, ⟨by (with_reducible repeat (first | apply Kd.R_alloc | apply Kd.R_drewN | apply Kd.R_drew)); exact HO_14.out⟩, ⟨by repeat (first | (with_reducible first | exact HB.out | apply below_alloc | apply pw_below_drewN | apply below_drew1) | exact HB.out)⟩⟩
                                        · rw [if_neg c36] at H
                                          exact absurd H (by simp)
                                      · rw [if_neg c35] at H
                                        have c35b0 : (a0 == 1) = false := beq_eq_false_iff_ne.mpr c35
                                        have c35b1 : (a0 != 1) = true := bne_iff_ne.mpr c35
                                        have H' := Aside0.mk H
                                        clear H
                                        obtain ⟨Ao39, co39, eo39⟩ := Kd.R_slice HO_13.out
                                        subst eo39
                                        obtain ⟨Ao40, co40, eo40⟩ := Kd.R_slice HO_14.out
                                        subst eo40
                                        have p304 : 0 ≤ (x16_3 : Int) := of_decide_eq_true (by first | (with_reducible assumption) | assumption)
                                        have q304 : x16_3 < (t300.length : Int) := of_decide_eq_true (by first | (with_reducible assumption) | assumption)
                                        obtain ⟨ad304, e304, hx304_0⟩ := Kd.at_int (Kd.R_reads' HO_14.out).2.2 x16_3 p304 q304
                                        cases e304
                                        replace p304 := eq_true p304
                                        replace q304 := eq_true q304
                                        have p305 : 0 ≤ (x16_3 : Int) := of_decide_eq_true (by first | (with_reducible assumption) | assumption)
                                        have q305 : x16_3 < (t297.length : Int) := of_decide_eq_true (by first | (with_reducible assumption) | assumption)
                                        obtain ⟨ad305, e305, hx305_0⟩ := Kd.at_int (Kd.R_reads' HO_13.out).2.2 x16_3 p305 q305
                                        cases e305
                                        replace p305 := eq_true p305
                                        replace q305 := eq_true q305
                                        have p306 : 0 ≤ (x16_3 : Int) := of_decide_eq_true (by first | (with_reducible assumption) | assumption)
                                        have q306 : x16_3 < (t300.length : Int) := of_decide_eq_true (by first | (with_reducible assumption) | assumption)
                                        obtain ⟨ad306, e306, hx306_0⟩ := Kd.at_int (Kd.R_reads' HO_14.out).2.2 x16_3 p306 q306
                                        obtain rfl : ad304 = ad306 := (by injection e306)
                                        replace p306 := eq_true p306
                                        replace q306 := eq_true q306
                                        have p307 : 0 ≤ (x16_3 : Int) := of_decide_eq_true (by first | (with_reducible assumption) | assumption)
                                        have q307 : x16_3 < (t297.length : Int) := of_decide_eq_true (by first | (with_reducible assumption) | assumption)
                                        obtain ⟨ad307, e307, hx307_0⟩ := Kd.at_int (Kd.R_reads' HO_13.out).2.2 x16_3 p307 q307
                                        obtain rfl : ad305 = ad307 := (by injection e307)
                                        replace p307 := eq_true p307
                                        replace q307 := eq_true q307
                                        have p308 : 0 ≤ (x16_3 : Int) := of_decide_eq_true (by first | (with_reducible assumption) | assumption)
                                        have q308 : x16_3 < (t297.length : Int) := of_decide_eq_true (by first | (with_reducible assumption) | assumption)
                                        obtain ⟨ad308, e308, hx308_0⟩ := Kd.at_int (Kd.R_reads' HO_13.out).2.2 x16_3 p308 q308
                                        obtain rfl : ad305 = ad308 := (by injection e308)
                                        replace p308 := eq_true p308
                                        replace q308 := eq_true q308
                                        have p309 : 0 ≤ (x16_3 : Int) := of_decide_eq_true (by first | (with_reducible assumption) | assumption)
                                        have q309 : x16_3 < (t300.length : Int) := of_decide_eq_true (by first | (with_reducible assumption) | assumption)
                                        obtain ⟨ad309, e309, hx309_0⟩ := Kd.at_int (Kd.R_reads' HO_14.out).2.2 x16_3 p309 q309
                                        obtain rfl : ad304 = ad309 := (by injection e309)
                                        replace p309 := eq_true p309
                                        replace q309 := eq_true q309
                                        go_wp2
                                        repeat (go_quiet (fail); try go_wp2)
                                        go_roundg k3
                                        case measure => have := HJ7.out; have := HK2.out; have := HK3.out; omega
                                        case rel => exact ⟨(wrap64 (x16_3 + 1)), (by first | rfl | (simp; done) | (simp [*]; done)), H', ⟨by have := HJ7.out; have := HK2.out; have := HK3.out; omega⟩, ⟨by (with_reducible repeat (first | apply Kd.R_alloc | apply Kd.R_drewN | apply Kd.R_drew)); exact HO_13.out⟩, ⟨by (with_reducible repeat (first | apply Kd.R_alloc | apply Kd.R_drewN | apply Kd.R_drew)); exact HO_14.out⟩, ⟨by repeat (first | (with_reducible first | exact HB.out | apply below_alloc | apply pw_below_drewN | apply below_drew1) | exact HB.out)⟩⟩
                                    · rw [if_neg c34] at H
                                      exact absurd H (by simp)
                                  · rw [if_neg c33] at H
                                    have c33b0 : (a0 == 0) = false := beq_eq_false_iff_ne.mpr c33
                                    have c33b1 : (a0 != 0) = true := bne_iff_ne.mpr c33
                                    by_cases c41 : a0 = 1
                                    · rw [if_pos c41] at H
                                      have c41b0 : (a0 == 1) = true := beq_iff_eq.mpr c41
                                      have c41b1 : (a0 != 1) = false := bne_eq_false_iff_eq.mpr c41
                                      clear c41
                                      by_cases c42 : (rd t300 x16_3) = (wrap64 ((rd t297 x16_3) + a3))
                                      · rw [if_pos c42] at H
                                        have c42b0 : ((rd t300 x16_3) == (wrap64 ((rd t297 x16_3) + a3))) = true := beq_iff_eq.mpr c42
                                        have c42b1 : ((rd t300 x16_3) != (wrap64 ((rd t297 x16_3) + a3))) = false := bne_eq_false_iff_eq.mpr c42
                                        clear c42
                                        have H' := Aside0.mk H
                                        clear H
                                        obtain ⟨Ao43, co43, eo43⟩ := Kd.R_slice HO_13.out
                                        subst eo43
                                        obtain ⟨Ao44, co44, eo44⟩ := Kd.R_slice HO_14.out
                                        subst eo44
                                        have p304 : 0 ≤ (x16_3 : Int) := of_decide_eq_true (by first | (with_reducible assumption) | assumption)
                                        have q304 : x16_3 < (t300.length : Int) := of_decide_eq_true (by first | (with_reducible assumption) | assumption)
                                        obtain ⟨ad304, e304, hx304_0⟩ := Kd.at_int (Kd.R_reads' HO_14.out).2.2 x16_3 p304 q304
                                        cases e304
                                        replace p304 := eq_true p304
                                        replace q304 := eq_true q304
                                        have p305 : 0 ≤ (x16_3 : Int) := of_decide_eq_true (by first | (with_reducible assumption) | assumption)
                                        have q305 : x16_3 < (t297.length : Int) := of_decide_eq_true (by first | (with_reducible assumption) | assumption)
                                        obtain ⟨ad305, e305, hx305_0⟩ := Kd.at_int (Kd.R_reads' HO_13.out).2.2 x16_3 p305 q305
                                        cases e305
                                        replace p305 := eq_true p305
                                        replace q305 := eq_true q305
                                        have p306 : 0 ≤ (x16_3 : Int) := of_decide_eq_true (by first | (with_reducible assumption) | assumption)
                                        have q306 : x16_3 < (t300.length : Int) := of_decide_eq_true (by first | (with_reducible assumption) | assumption)
                                        obtain ⟨ad306, e306, hx306_0⟩ := Kd.at_int (Kd.R_reads' HO_14.out).2.2 x16_3 p306 q306
                                        obtain rfl : ad304 = ad306 := (by injection e306)
                                        replace p306 := eq_true p306
                                        replace q306 := eq_true q306
                                        have p307 : 0 ≤ (x16_3 : Int) := of_decide_eq_true (by first | (with_reducible assumption) | assumption)
                                        have q307 : x16_3 < (t297.length : Int) := of_decide_eq_true (by first | (with_reducible assumption) | assumption)
                                        obtain ⟨ad307, e307, hx307_0⟩ := Kd.at_int (Kd.R_reads' HO_13.out).2.2 x16_3 p307 q307
                                        obtain rfl : ad305 = ad307 := (by injection e307)
                                        replace p307 := eq_true p307
                                        replace q307 := eq_true q307
                                        have p312 : 0 ≤ (x16_3 : Int) := of_decide_eq_true (by first | (with_reducible assumption) | assumption)
                                        have q312 : x16_3 < (t300.length : Int) := of_decide_eq_true (by first | (with_reducible assumption) | assumption)
                                        obtain ⟨ad312, e312, hx312_0⟩ := Kd.at_int (Kd.R_reads' HO_14.out).2.2 x16_3 p312 q312
                                        obtain rfl : ad304 = ad312 := (by injection e312)
                                        replace p312 := eq_true p312
                                        replace q312 := eq_true q312
                                        have p313 : 0 ≤ (x16_3 : Int) := of_decide_eq_true (by first | (with_reducible assumption) | assumption)
                                        have q313 : x16_3 < (t297.length : Int) := of_decide_eq_true (by first | (with_reducible assumption) | assumption)
                                        obtain ⟨ad313, e313, hx313_0⟩ := Kd.at_int (Kd.R_reads' HO_13.out).2.2 x16_3 p313 q313
                                        obtain rfl : ad305 = ad313 := (by injection e313)
                                        replace p313 := eq_true p313
                                        replace q313 := eq_true q313
                                        go_wp2
                                        repeat (go_quiet (fail); try go_wp2)
                                        go_roundg k3
                                        case measure => have := HJ7.out; have := HK2.out; have := HK3.out; omega
                                        case rel => exact ⟨(wrap64 (x16_3 + 1)), (by first | rfl | (simp; done) | (simp [*]; done)), H', ⟨by have := HJ7.out; have := HK2.out; have := HK3.out; omega⟩, ⟨by (with_reducible repeat (first | apply Kd.R_alloc | apply Kd.R_drewN | apply Kd.R_drew)); exact HO_13.out⟩, ⟨by (with_reducible repeat (first | apply Kd.R_alloc | apply Kd.R_drewN | apply Kd.R_drew)); exact HO_14.out⟩, ⟨by repeat (first | (with_reducible first | exact HB.out | apply below_alloc | apply pw_below_drewN | apply below_drew1) | exact HB.out)⟩⟩
                                      · rw [if_neg c42] at H
                                        exact absurd H (by simp)
                                    · rw [if_neg c41] at H
                                      have c41b0 : (a0 == 1) = false := beq_eq_false_iff_ne.mpr c41
                                      have c41b1 : (a0 != 1) = true := bne_iff_ne.mpr c41
                                      have H' := Aside0.mk H
                                      clear H
                                      obtain ⟨Ao45, co45, eo45⟩ := Kd.R_slice HO_13.out
                                      subst eo45
                                      obtain ⟨Ao46, co46, eo46⟩ := Kd.R_slice HO_14.out
                                      subst eo46
                                      have p304 : 0 ≤ (x16_3 : Int) := of_decide_eq_true (by first | (with_reducible assumption) | assumption)
                                      have q304 : x16_3 < (t300.length : Int) := of_decide_eq_true (by first | (with_reducible assumption) | assumption)
                                      obtain ⟨ad304, e304, hx304_0⟩ := Kd.at_int (Kd.R_reads' HO_14.out).2.2 x16_3 p304 q304
                                      cases e304
                                      replace p304 := eq_true p304
                                      replace q304 := eq_true q304
                                      have p305 : 0 ≤ (x16_3 : Int) := of_decide_eq_true (by first | (with_reducible assumption) | assumption)
                                      have q305 : x16_3 < (t297.length : Int) := of_decide_eq_true (by first | (with_reducible assumption) | assumption)
                                      obtain ⟨ad305, e305, hx305_0⟩ := Kd.at_int (Kd.R_reads' HO_13.out).2.2 x16_3 p305 q305
                                      cases e305
                                      replace p305 := eq_true p305
                                      replace q305 := eq_true q305
                                      have p306 : 0 ≤ (x16_3 : Int) := of_decide_eq_true (by first | (with_reducible assumption) | assumption)
                                      have q306 : x16_3 < (t300.length : Int) := of_decide_eq_true (by first | (with_reducible assumption) | assumption)
                                      obtain ⟨ad306, e306, hx306_0⟩ := Kd.at_int (Kd.R_reads' HO_14.out).2.2 x16_3 p306 q306
                                      obtain rfl : ad304 = ad306 := (by injection e306)
                                      replace p306 := eq_true p306
                                      replace q306 := eq_true q306
                                      have p307 : 0 ≤ (x16_3 : Int) := of_decide_eq_true (by first | (with_reducible assumption) | assumption)
                                      have q307 : x16_3 < (t297.length : Int) := of_decide_eq_true (by first | (with_reducible assumption) | assumption)
                                      obtain ⟨ad307, e307, hx307_0⟩ := Kd.at_int (Kd.R_reads' HO_13.out).2.2 x16_3 p307 q307
                                      obtain rfl : ad305 = ad307 := (by injection e307)
                                      replace p307 := eq_true p307
                                      replace q307 := eq_true q307
                                      go_wp2
                                      repeat (go_quiet (fail); try go_wp2)
                                      go_roundg k3
                                      case measure => have := HJ7.out; have := HK2.out; have := HK3.out; omega
                                      case rel => exact ⟨(wrap64 (x16_3 + 1)), (by first | rfl | (simp; done) | (simp [*]; done)), H', ⟨by have := HJ7.out; have := HK2.out; have := HK3.out; omega⟩, ⟨by (with_reducible repeat (first | apply Kd.R_alloc | apply Kd.R_drewN | apply Kd.R_drew)); exact HO_13.out⟩, ⟨by (with_reducible repeat (first | apply Kd.R_alloc | apply Kd.R_drewN | apply Kd.R_drew)); exact HO_14.out⟩, ⟨by repeat (first | (with_reducible first | exact HB.out | apply below_alloc | apply pw_below_drewN | apply below_drew1) | exact HB.out)⟩⟩
                            · rw [if_neg c30] at H
                              exact absurd H (by simp)
                          · rw [if_neg c29] at H
                            exact absurd H (by simp)
                        · exact absurd rfl c28
                      · rw [if_neg c27] at H
                        have c27b0 : decide (x16_3 < (t297.length : Int)) = false := decide_eq_false c27
                        clear c27
                        by_cases c64 : true = true
                        · clear c64
                          have H1 : (some ((t297.length : Int) == (t300.length : Int))) = some r := by first | (rw [if_pos rfl] at H; exact H) | (rw [if_pos True.intro] at H; exact H)
                          clear H
                          have H := H1
                          clear H1
                          obtain rfl := Option.some.inj H
                          obtain ⟨Ao65, co65, eo65⟩ := Kd.R_slice HO_13.out
                          subst eo65
                          obtain ⟨Ao66, co66, eo66⟩ := Kd.R_slice HO_14.out
                          subst eo66
                          go_wp2
                          repeat (go_quiet (fail); try go_wp2)
                          go_ret
                          exact ⟨by first | rfl | (simp [errW_none, errW_some] <;> rfl) | (simp [*, errW_none, errW_some] <;> rfl), by repeat (first | (with_reducible first | exact HB.out | apply below_alloc | apply pw_below_drewN | apply below_drew1) | exact HB.out)⟩
                        · exact absurd rfl c64
                | false =>
                  rw [hbx_] at H
                  have A23 := Aside0.mk A230
                  clear A230
                  have H' := Aside0.mk H
                  clear H
                  go_wp2_with (first | (go_at_call 16; (with_reducible refine (justify_Starts.calls k2 a0 _ _ l1 a2 a4 t297 _ ?side1 ?side2 A21.out).mono ?_); (case side1 => repeat (first | exact (Kd.C_below HR1.out HB.out) | (with_reducible refine Kd.C_alloc ?_ _) | (with_reducible refine Kd.C_drewN ?_ _) | (with_reducible refine Kd.C_drew ?_))); (case side2 => exact HC1.out); rintro e w24 ⟨v298, rfl, ho0, hb⟩; have n0_ := Aside0.mk (Kd.R_lower ho0 (below_size (by repeat (first | (with_reducible first | exact HB.out | apply below_alloc | apply pw_below_drewN | apply below_drew1) | exact HB.out)))); have n1_ := Aside0.mk (below_step (by repeat (first | (with_reducible first | exact HB.out | apply below_alloc | apply pw_below_drewN | apply below_drew1) | exact HB.out)) hb); clear HB; have HO299 := n0_; have HB := n1_; clear n0_ n1_; (try clear hb); (try clear hb2); (try clear hk); (try clear hi); (try clear ho0)) | (go_at_call 16; (with_reducible refine (justify_Starts.calls k2 a0 _ _ l1 (wrap64 (a2 + a3)) a4 t300 _ ?side1 ?side2 A22.out).mono ?_); (case side1 => repeat (first | exact (Kd.C_below HR1.out HB.out) | (with_reducible refine Kd.C_alloc ?_ _) | (with_reducible refine Kd.C_drewN ?_ _) | (with_reducible refine Kd.C_drew ?_))); (case side2 => exact HC1.out); rintro e w25 ⟨v301, rfl, ho0, hb⟩; have n0_ := Aside0.mk (Kd.R_elder' (by (with_reducible repeat (first | apply Kd.R_alloc | apply Kd.R_drewN | apply Kd.R_drew)); exact HO299.out) (Kd.R_base ho0) hb); have n1_ := Aside0.mk (Kd.R_lower (Kd.R_new' ho0 (Kd.R_lt (by (with_reducible repeat (first | apply Kd.R_alloc | apply Kd.R_drewN | apply Kd.R_drew)); exact HO299.out))) (below_size (by repeat (first | (with_reducible first | exact HB.out | apply below_alloc | apply pw_below_drewN | apply below_drew1) | exact HB.out)))); have n2_ := Aside0.mk (below_step (by repeat (first | (with_reducible first | exact HB.out | apply below_alloc | apply pw_below_drewN | apply below_drew1) | exact HB.out)) hb); clear HO299; clear HB; have HO299 := n0_; have HO302 := n1_; have HB := n2_; clear n0_ n1_ n2_; (try clear hb); (try clear hb2); (try clear hk); (try clear hi); (try clear ho0)) | (go_at_call 23; (with_reducible refine (lines_Long.calls k2 _ _ l1 a4 t303 _ ?side1 ?side2 A23.out).mono ?_); (case side1 => repeat (first | exact (Kd.C_below HR1.out HB.out) | (with_reducible refine Kd.C_alloc ?_ _) | (with_reducible refine Kd.C_drewN ?_ _) | (with_reducible refine Kd.C_drew ?_))); (case side2 => exact HC1.out); rintro e w26 ⟨rfl, hb⟩; have n0_ := Aside0.mk (Kd.R_below (by (with_reducible repeat (first | apply Kd.R_alloc | apply Kd.R_drewN | apply Kd.R_drew)); exact HO299.out) hb); have n1_ := Aside0.mk (Kd.R_below (by (with_reducible repeat (first | apply Kd.R_alloc | apply Kd.R_drewN | apply Kd.R_drew)); exact HO302.out) hb); have n2_ := Aside0.mk (below_step (by repeat (first | (with_reducible first | exact HB.out | apply below_alloc | apply pw_below_drewN | apply below_drew1) | exact HB.out)) hb); clear HO299; clear HO302; clear HB; have HO299 := n0_; have HO302 := n1_; have HB := n2_; clear n0_ n1_ n2_; (try clear hb); (try clear hb2); (try clear hk); (try clear hi)))
                  repeat (go_quiet (first | (go_at_call 16; (with_reducible refine (justify_Starts.calls k2 a0 _ _ l1 a2 a4 t297 _ ?side1 ?side2 A21.out).mono ?_); (case side1 => repeat (first | exact (Kd.C_below HR1.out HB.out) | (with_reducible refine Kd.C_alloc ?_ _) | (with_reducible refine Kd.C_drewN ?_ _) | (with_reducible refine Kd.C_drew ?_))); (case side2 => exact HC1.out); rintro e w24 ⟨v298, rfl, ho0, hb⟩; have n0_ := Aside0.mk (Kd.R_lower ho0 (below_size (by repeat (first | (with_reducible first | exact HB.out | apply below_alloc | apply pw_below_drewN | apply below_drew1) | exact HB.out)))); have n1_ := Aside0.mk (below_step (by repeat (first | (with_reducible first | exact HB.out | apply below_alloc | apply pw_below_drewN | apply below_drew1) | exact HB.out)) hb); clear HB; have HO299 := n0_; have HB := n1_; clear n0_ n1_; (try clear hb); (try clear hb2); (try clear hk); (try clear hi); (try clear ho0)) | (go_at_call 16; (with_reducible refine (justify_Starts.calls k2 a0 _ _ l1 (wrap64 (a2 + a3)) a4 t300 _ ?side1 ?side2 A22.out).mono ?_); (case side1 => repeat (first | exact (Kd.C_below HR1.out HB.out) | (with_reducible refine Kd.C_alloc ?_ _) | (with_reducible refine Kd.C_drewN ?_ _) | (with_reducible refine Kd.C_drew ?_))); (case side2 => exact HC1.out); rintro e w25 ⟨v301, rfl, ho0, hb⟩; have n0_ := Aside0.mk (Kd.R_elder' (by (with_reducible repeat (first | apply Kd.R_alloc | apply Kd.R_drewN | apply Kd.R_drew)); exact HO299.out) (Kd.R_base ho0) hb); have n1_ := Aside0.mk (Kd.R_lower (Kd.R_new' ho0 (Kd.R_lt (by (with_reducible repeat (first | apply Kd.R_alloc | apply Kd.R_drewN | apply Kd.R_drew)); exact HO299.out))) (below_size (by repeat (first | (with_reducible first | exact HB.out | apply below_alloc | apply pw_below_drewN | apply below_drew1) | exact HB.out)))); have n2_ := Aside0.mk (below_step (by repeat (first | (with_reducible first | exact HB.out | apply below_alloc | apply pw_below_drewN | apply below_drew1) | exact HB.out)) hb); clear HO299; clear HB; have HO299 := n0_; have HO302 := n1_; have HB := n2_; clear n0_ n1_ n2_; (try clear hb); (try clear hb2); (try clear hk); (try clear hi); (try clear ho0)) | (go_at_call 23; (with_reducible refine (lines_Long.calls k2 _ _ l1 a4 t303 _ ?side1 ?side2 A23.out).mono ?_); (case side1 => repeat (first | exact (Kd.C_below HR1.out HB.out) | (with_reducible refine Kd.C_alloc ?_ _) | (with_reducible refine Kd.C_drewN ?_ _) | (with_reducible refine Kd.C_drew ?_))); (case side2 => exact HC1.out); rintro e w26 ⟨rfl, hb⟩; have n0_ := Aside0.mk (Kd.R_below (by (with_reducible repeat (first | apply Kd.R_alloc | apply Kd.R_drewN | apply Kd.R_drew)); exact HO299.out) hb); have n1_ := Aside0.mk (Kd.R_below (by (with_reducible repeat (first | apply Kd.R_alloc | apply Kd.R_drewN | apply Kd.R_drew)); exact HO302.out) hb); have n2_ := Aside0.mk (below_step (by repeat (first | (with_reducible first | exact HB.out | apply below_alloc | apply pw_below_drewN | apply below_drew1) | exact HB.out)) hb); clear HO299; clear HO302; clear HB; have HO299 := n0_; have HO302 := n1_; have HB := n2_; clear n0_ n1_ n2_; (try clear hb); (try clear hb2); (try clear hk); (try clear hi))); try go_wp2_with (first | (go_at_call 16; (with_reducible refine (justify_Starts.calls k2 a0 _ _ l1 a2 a4 t297 _ ?side1 ?side2 A21.out).mono ?_); (case side1 => repeat (first | exact (Kd.C_below HR1.out HB.out) | (with_reducible refine Kd.C_alloc ?_ _) | (with_reducible refine Kd.C_drewN ?_ _) | (with_reducible refine Kd.C_drew ?_))); (case side2 => exact HC1.out); rintro e w24 ⟨v298, rfl, ho0, hb⟩; have n0_ := Aside0.mk (Kd.R_lower ho0 (below_size (by repeat (first | (with_reducible first | exact HB.out | apply below_alloc | apply pw_below_drewN | apply below_drew1) | exact HB.out)))); have n1_ := Aside0.mk (below_step (by repeat (first | (with_reducible first | exact HB.out | apply below_alloc | apply pw_below_drewN | apply below_drew1) | exact HB.out)) hb); clear HB; have HO299 := n0_; have HB := n1_; clear n0_ n1_; (try clear hb); (try clear hb2); (try clear hk); (try clear hi); (try clear ho0)) | (go_at_call 16; (with_reducible refine (justify_Starts.calls k2 a0 _ _ l1 (wrap64 (a2 + a3)) a4 t300 _ ?side1 ?side2 A22.out).mono ?_); (case side1 => repeat (first | exact (Kd.C_below HR1.out HB.out) | (with_reducible refine Kd.C_alloc ?_ _) | (with_reducible refine Kd.C_drewN ?_ _) | (with_reducible refine Kd.C_drew ?_))); (case side2 => exact HC1.out); rintro e w25 ⟨v301, rfl, ho0, hb⟩; have n0_ := Aside0.mk (Kd.R_elder' (by (with_reducible repeat (first | apply Kd.R_alloc | apply Kd.R_drewN | apply Kd.R_drew)); exact HO299.out) (Kd.R_base ho0) hb); have n1_ := Aside0.mk (Kd.R_lower (Kd.R_new' ho0 (Kd.R_lt (by (with_reducible repeat (first | apply Kd.R_alloc | apply Kd.R_drewN | apply Kd.R_drew)); exact HO299.out))) (below_size (by repeat (first | (with_reducible first | exact HB.out | apply below_alloc | apply pw_below_drewN | apply below_drew1) | exact HB.out)))); have n2_ := Aside0.mk (below_step (by repeat (first | (with_reducible first | exact HB.out | apply below_alloc | apply pw_below_drewN | apply below_drew1) | exact HB.out)) hb); clear HO299; clear HB; have HO299 := n0_; have HO302 := n1_; have HB := n2_; clear n0_ n1_ n2_; (try clear hb); (try clear hb2); (try clear hk); (try clear hi); (try clear ho0)) | (go_at_call 23; (with_reducible refine (lines_Long.calls k2 _ _ l1 a4 t303 _ ?side1 ?side2 A23.out).mono ?_); (case side1 => repeat (first | exact (Kd.C_below HR1.out HB.out) | (with_reducible refine Kd.C_alloc ?_ _) | (with_reducible refine Kd.C_drewN ?_ _) | (with_reducible refine Kd.C_drew ?_))); (case side2 => exact HC1.out); rintro e w26 ⟨rfl, hb⟩; have n0_ := Aside0.mk (Kd.R_below (by (with_reducible repeat (first | apply Kd.R_alloc | apply Kd.R_drewN | apply Kd.R_drew)); exact HO299.out) hb); have n1_ := Aside0.mk (Kd.R_below (by (with_reducible repeat (first | apply Kd.R_alloc | apply Kd.R_drewN | apply Kd.R_drew)); exact HO302.out) hb); have n2_ := Aside0.mk (below_step (by repeat (first | (with_reducible first | exact HB.out | apply below_alloc | apply pw_below_drewN | apply below_drew1) | exact HB.out)) hb); clear HO299; clear HO302; clear HB; have HO299 := n0_; have HO302 := n1_; have HB := n2_; clear n0_ n1_ n2_; (try clear hb); (try clear hb2); (try clear hk); (try clear hi))))
                  go_loopg [16] k2 (fun kq v16 w' => ∃ (x16_3 : Int), v16 = .int .i64 x16_3 ∧ Aside0 (valancelaw09_JustifyMore.l1 kq a0 a3 true t297 t300 false x16_3 = some r) ∧ Aside0 (kq ≤ k2) ∧ Aside0 (Kd.R (Kd.int .i64) 3 w' w.heap.size (fun k_ => some k_ ≠ (v301 : Value).ownBlock) v298 t297) ∧ Aside0 (Kd.R (Kd.int .i64) 3 w' w.heap.size (fun k_ => some k_ ≠ (v298 : Value).ownBlock) v301 t300) ∧ Aside0 (Below w.heap.size w w'))
                  case atStart => exact ⟨(0), (by first | rfl | (simp; done) | (simp [*]; done)), H', ⟨Nat.le_refl _⟩, ⟨by (with_reducible repeat (first | apply Kd.R_alloc | apply Kd.R_drewN | apply Kd.R_drew)); exact Kd.R_mono HO299.out (fun _ hk => hk.2)⟩, ⟨by (with_reducible repeat (first | apply Kd.R_alloc | apply Kd.R_drewN | apply Kd.R_drew)); exact Kd.R_mono HO302.out (fun _ hk => hk.2)⟩, ⟨by repeat (first | (with_reducible first | exact HB.out | apply below_alloc | apply pw_below_drewN | apply below_drew1) | exact HB.out)⟩⟩
                  case round =>
                    clear H'
                    try clear c1
                    try clear c2
                    try clear p2
                    try clear q2
                    try clear hx2
                    try clear p6
                    try clear c7
                    try clear c8
                    try clear c10
                    try clear c10b0
                    try clear c10b1
                    try clear c11
                    try clear c11b0
                    try clear c12
                    try clear c12b0
                    try clear c13
                    try clear c13b0
                    try clear c14
                    try clear c14b0
                    try clear c15
                    try clear c15b0
                    try clear c16
                    try clear c17
                    try clear c17b0
                    try clear c18
                    try clear c18b0
                    try clear c19
                    try clear c19b0
                    try clear c20
                    try clear c20b0
                    try clear hx295_0
                    try clear hx296_0
                    try clear p2
                    try clear p295
                    try clear p296
                    try clear q295
                    try clear q296
                    obtain ⟨x16_3, rfl, HA, HK3, HO_13, HO_14, HB⟩ := hrel
                    cases gk with
                    | zero => exact absurd HA.out (by simp [valancelaw09_JustifyMore.l1])
                    | succ k3 =>
                      have H := HA.out
                      clear HA
                      simp only [valancelaw09_JustifyMore.l1] at H
                      by_cases c27 : x16_3 < (t297.length : Int)
                      · rw [if_pos c27] at H
                        have c27b0 : decide (x16_3 < (t297.length : Int)) = true := decide_eq_true c27
                        clear c27
                        by_cases c28 : false = true
                        · exact absurd c28 (by decide)
                        · first | rw [if_neg c28] at H | rw [if_neg (fun h => h)] at H
                          have c28b0 : false = false := rfl
                          clear c28
                          by_cases c47 : a0 = 0
                          · rw [if_pos c47] at H
                            have c47b0 : (a0 == 0) = true := beq_iff_eq.mpr c47
                            have c47b1 : (a0 != 0) = false := bne_eq_false_iff_eq.mpr c47
                            clear c47
                            by_cases c48 : 0 ≤ x16_3
                            · rw [if_pos c48] at H
                              have c48b0 : decide (0 ≤ x16_3) = true := decide_eq_true c48
                              clear c48
                              by_cases c49 : x16_3 < (t300.length : Int)
                              · rw [if_pos c49] at H
                                have c49b0 : decide (x16_3 < (t300.length : Int)) = true := decide_eq_true c49
                                clear c49
                                by_cases c50 : (rd t297 x16_3) = (rd t300 x16_3)
                                · rw [if_pos c50] at H
                                  have c50b0 : ((rd t297 x16_3) == (rd t300 x16_3)) = true := beq_iff_eq.mpr c50
                                  have c50b1 : ((rd t297 x16_3) != (rd t300 x16_3)) = false := bne_eq_false_iff_eq.mpr c50
                                  clear c50
                                  by_cases c51 : a0 = 1
                                  · rw [if_pos c51] at H
                                    have c51b0 : (a0 == 1) = true := beq_iff_eq.mpr c51
                                    have c51b1 : (a0 != 1) = false := bne_eq_false_iff_eq.mpr c51
                                    clear c51
                                    by_cases c52 : (rd t300 x16_3) = (wrap64 ((rd t297 x16_3) + a3))
                                    · rw [if_pos c52] at H
                                      have c52b0 : ((rd t300 x16_3) == (wrap64 ((rd t297 x16_3) + a3))) = true := beq_iff_eq.mpr c52
                                      have c52b1 : ((rd t300 x16_3) != (wrap64 ((rd t297 x16_3) + a3))) = false := bne_eq_false_iff_eq.mpr c52
                                      clear c52
                                      have H' := Aside0.mk H
                                      clear H
                                      obtain ⟨Ao53, co53, eo53⟩ := Kd.R_slice HO_13.out
                                      subst eo53
                                      have p314 : 0 ≤ (x16_3 : Int) := of_decide_eq_true (by first | (with_reducible assumption) | assumption)
                                      have q314 : x16_3 < (t297.length : Int) := of_decide_eq_true (by first | (with_reducible assumption) | assumption)
                                      obtain ⟨ad314, e314, hx314_0⟩ := Kd.at_int (Kd.R_reads' HO_13.out).2.2 x16_3 p314 q314
                                      cases e314
                                      replace p314 := eq_true p314
                                      replace q314 := eq_true q314
                                      obtain ⟨Ao54, co54, eo54⟩ := Kd.R_slice HO_14.out
                                      subst eo54
                                      have p315 : 0 ≤ (x16_3 : Int) := of_decide_eq_true (by first | (with_reducible assumption) | assumption)
                                      have q315 : x16_3 < (t300.length : Int) := of_decide_eq_true (by first | (with_reducible assumption) | assumption)
                                      obtain ⟨ad315, e315, hx315_0⟩ := Kd.at_int (Kd.R_reads' HO_14.out).2.2 x16_3 p315 q315
                                      cases e315
                                      replace p315 := eq_true p315
                                      replace q315 := eq_true q315
                                      have p316 : 0 ≤ (x16_3 : Int) := of_decide_eq_true (by first | (with_reducible assumption) | assumption)
                                      have q316 : x16_3 < (t300.length : Int) := of_decide_eq_true (by first | (with_reducible assumption) | assumption)
                                      obtain ⟨ad316, e316, hx316_0⟩ := Kd.at_int (Kd.R_reads' HO_14.out).2.2 x16_3 p316 q316
                                      obtain rfl : ad315 = ad316 := (by injection e316)
                                      replace p316 := eq_true p316
                                      replace q316 := eq_true q316
                                      have p317 : 0 ≤ (x16_3 : Int) := of_decide_eq_true (by first | (with_reducible assumption) | assumption)
                                      have q317 : x16_3 < (t297.length : Int) := of_decide_eq_true (by first | (with_reducible assumption) | assumption)
                                      obtain ⟨ad317, e317, hx317_0⟩ := Kd.at_int (Kd.R_reads' HO_13.out).2.2 x16_3 p317 q317
                                      obtain rfl : ad314 = ad317 := (by injection e317)
                                      replace p317 := eq_true p317
                                      replace q317 := eq_true q317
                                      go_wp2
                                      repeat (go_quiet (fail); try go_wp2)
                                      go_roundg k3
                                      case measure => have := HJ7.out; have := HK2.out; have := HK3.out; omega
                                      case rel => exact ⟨(wrap64 (x16_3 + 1)), (by first | rfl | (simp; done) | (simp [*]; done)), H', ⟨by have := HJ7.out; have := HK2.out; have := HK3.out; omega⟩, ⟨by (with_reducible repeat (first | apply Kd.R_alloc | apply Kd.R_drewN | apply Kd.R_drew)); exact HO_13.out⟩, ⟨by (with_reducible repeat (first | apply Kd.R_alloc | apply Kd.R_drewN | apply Kd.R_drew)); exact HO_14.out⟩, ⟨by repeat (first | (with_reducible first | exact HB.out | apply below_alloc | apply pw_below_drewN | apply below_drew1) | exact HB.out)⟩⟩
                                    · rw [if_neg c52] at H
                                      exact absurd H (by simp)
                                  · rw [if_neg c51] at H
                                    have c51b0 : (a0 == 1) = false := beq_eq_false_iff_ne.mpr c51
                                    have c51b1 : (a0 != 1) = true := bne_iff_ne.mpr c51
                                    have H' := Aside0.mk H
                                    clear H
                                    obtain ⟨Ao55, co55, eo55⟩ := Kd.R_slice HO_13.out
                                    subst eo55
                                    have p314 : 0 ≤ (x16_3 : Int) := of_decide_eq_true (by first | (with_reducible assumption) | assumption)
                                    have q314 : x16_3 < (t297.length : Int) := of_decide_eq_true (by first | (with_reducible assumption) | assumption)
                                    obtain ⟨ad314, e314, hx314_0⟩ := Kd.at_int (Kd.R_reads' HO_13.out).2.2 x16_3 p314 q314
                                    cases e314
                                    replace p314 := eq_true p314
                                    replace q314 := eq_true q314
                                    obtain ⟨Ao56, co56, eo56⟩ := Kd.R_slice HO_14.out
                                    subst eo56
                                    have p315 : 0 ≤ (x16_3 : Int) := of_decide_eq_true (by first | (with_reducible assumption) | assumption)
                                    have q315 : x16_3 < (t300.length : Int) := of_decide_eq_true (by first | (with_reducible assumption) | assumption)
                                    obtain ⟨ad315, e315, hx315_0⟩ := Kd.at_int (Kd.R_reads' HO_14.out).2.2 x16_3 p315 q315
                                    cases e315
                                    replace p315 := eq_true p315
                                    replace q315 := eq_true q315
                                    go_wp2
                                    repeat (go_quiet (fail); try go_wp2)
                                    go_roundg k3
                                    case measure => have := HJ7.out; have := HK2.out; have := HK3.out; omega
                                    case rel => exact ⟨(wrap64 (x16_3 + 1)), (by first | rfl | (simp; done) | (simp [*]; done)), H', ⟨by have := HJ7.out; have := HK2.out; have := HK3.out; omega⟩, ⟨by (with_reducible repeat (first | apply Kd.R_alloc | apply Kd.R_drewN | apply Kd.R_drew)); exact HO_13.out⟩, ⟨by (with_reducible repeat (first | apply Kd.R_alloc | apply Kd.R_drewN | apply Kd.R_drew)); exact HO_14.out⟩, ⟨by repeat (first | (with_reducible first | exact HB.out | apply below_alloc | apply pw_below_drewN | apply below_drew1) | exact HB.out)⟩⟩
                                · rw [if_neg c50] at H
                                  exact absurd H (by simp)
                              · rw [if_neg c49] at H
                                exact absurd H (by simp)
                            · rw [if_neg c48] at H
                              exact absurd H (by simp)
                          · rw [if_neg c47] at H
                            have c47b0 : (a0 == 0) = false := beq_eq_false_iff_ne.mpr c47
                            have c47b1 : (a0 != 0) = true := bne_iff_ne.mpr c47
                            by_cases c57 : a0 = 1
                            · rw [if_pos c57] at H
                              have c57b0 : (a0 == 1) = true := beq_iff_eq.mpr c57
                              have c57b1 : (a0 != 1) = false := bne_eq_false_iff_eq.mpr c57
                              clear c57
                              by_cases c58 : 0 ≤ x16_3
                              · rw [if_pos c58] at H
                                have c58b0 : decide (0 ≤ x16_3) = true := decide_eq_true c58
                                clear c58
                                by_cases c59 : x16_3 < (t300.length : Int)
                                · rw [if_pos c59] at H
                                  have c59b0 : decide (x16_3 < (t300.length : Int)) = true := decide_eq_true c59
                                  clear c59
                                  by_cases c60 : (rd t300 x16_3) = (wrap64 ((rd t297 x16_3) + a3))
                                  · rw [if_pos c60] at H
                                    have c60b0 : ((rd t300 x16_3) == (wrap64 ((rd t297 x16_3) + a3))) = true := beq_iff_eq.mpr c60
                                    have c60b1 : ((rd t300 x16_3) != (wrap64 ((rd t297 x16_3) + a3))) = false := bne_eq_false_iff_eq.mpr c60
                                    clear c60
                                    have H' := Aside0.mk H
                                    clear H
                                    obtain ⟨Ao61, co61, eo61⟩ := Kd.R_slice HO_13.out
                                    subst eo61
                                    obtain ⟨Ao62, co62, eo62⟩ := Kd.R_slice HO_14.out
                                    subst eo62
                                    have p318 : 0 ≤ (x16_3 : Int) := of_decide_eq_true (by first | (with_reducible assumption) | assumption)
                                    have q318 : x16_3 < (t300.length : Int) := of_decide_eq_true (by first | (with_reducible assumption) | assumption)
                                    obtain ⟨ad318, e318, hx318_0⟩ := Kd.at_int (Kd.R_reads' HO_14.out).2.2 x16_3 p318 q318
                                    cases e318
                                    replace p318 := eq_true p318
                                    replace q318 := eq_true q318
                                    have p319 : 0 ≤ (x16_3 : Int) := of_decide_eq_true (by first | (with_reducible assumption) | assumption)
                                    have q319 : x16_3 < (t297.length : Int) := of_decide_eq_true (by first | (with_reducible assumption) | assumption)
                                    obtain ⟨ad319, e319, hx319_0⟩ := Kd.at_int (Kd.R_reads' HO_13.out).2.2 x16_3 p319 q319
                                    cases e319
                                    replace p319 := eq_true p319
                                    replace q319 := eq_true q319
                                    go_wp2
                                    repeat (go_quiet (fail); try go_wp2)
                                    go_roundg k3
                                    case measure => have := HJ7.out; have := HK2.out; have := HK3.out; omega
                                    case rel => exact ⟨(wrap64 (x16_3 + 1)), (by first | rfl | (simp; done) | (simp [*]; done)), H', ⟨by have := HJ7.out; have := HK2.out; have := HK3.out; omega⟩, ⟨by (with_reducible repeat (first | apply Kd.R_alloc | apply Kd.R_drewN | apply Kd.R_drew)); exact HO_13.out⟩, ⟨by (with_reducible repeat (first | apply Kd.R_alloc | apply Kd.R_drewN | apply Kd.R_drew)); exact HO_14.out⟩, ⟨by repeat (first | (with_reducible first | exact HB.out | apply below_alloc | apply pw_below_drewN | apply below_drew1) | exact HB.out)⟩⟩
                                  · rw [if_neg c60] at H
                                    exact absurd H (by simp)
                                · rw [if_neg c59] at H
                                  exact absurd H (by simp)
                              · rw [if_neg c58] at H
                                exact absurd H (by simp)
                            · rw [if_neg c57] at H
                              have c57b0 : (a0 == 1) = false := beq_eq_false_iff_ne.mpr c57
                              have c57b1 : (a0 != 1) = true := bne_iff_ne.mpr c57
                              have H' := Aside0.mk H
                              clear H
                              obtain ⟨Ao63, co63, eo63⟩ := Kd.R_slice HO_13.out
                              subst eo63
                              go_wp2
                              repeat (go_quiet (fail); try go_wp2)
                              go_roundg k3
                              case measure => have := HJ7.out; have := HK2.out; have := HK3.out; omega
                              case rel => exact ⟨(wrap64 (x16_3 + 1)), (by first | rfl | (simp; done) | (simp [*]; done)), H', ⟨by have := HJ7.out; have := HK2.out; have := HK3.out; omega⟩, ⟨by (with_reducible repeat (first | apply Kd.R_alloc | apply Kd.R_drewN | apply Kd.R_drew)); exact HO_13.out⟩, ⟨by (with_reducible repeat (first | apply Kd.R_alloc | apply Kd.R_drewN | apply Kd.R_drew)); exact HO_14.out⟩, ⟨by repeat (first | (with_reducible first | exact HB.out | apply below_alloc | apply pw_below_drewN | apply below_drew1) | exact HB.out)⟩⟩
                      · rw [if_neg c27] at H
                        have c27b0 : decide (x16_3 < (t297.length : Int)) = false := decide_eq_false c27
                        clear c27
                        by_cases c64 : true = true
                        · clear c64
                          have H1 : (some ((t297.length : Int) == (t300.length : Int))) = some r := by first | (rw [if_pos rfl] at H; exact H) | (rw [if_pos True.intro] at H; exact H)
                          clear H
                          have H := H1
                          clear H1
                          obtain rfl := Option.some.inj H
                          obtain ⟨Ao65, co65, eo65⟩ := Kd.R_slice HO_13.out
                          subst eo65
                          obtain ⟨Ao66, co66, eo66⟩ := Kd.R_slice HO_14.out
                          subst eo66
                          go_wp2
                          repeat (go_quiet (fail); try go_wp2)
                          go_ret
                          exact ⟨by first | rfl | (simp [errW_none, errW_some] <;> rfl) | (simp [*, errW_none, errW_some] <;> rfl), by repeat (first | (with_reducible first | exact HB.out | apply below_alloc | apply pw_below_drewN | apply below_drew1) | exact HB.out)⟩
                        · exact absurd rfl c64
  · replace c7 := Bool.eq_false_iff.mpr c7
    subst c7
    have H1 : (none) = some r := by rw [if_neg (show ¬ (false = true) by decide)] at H; exact H
    clear H
    have H := H1
    clear H1
    exact absurd H (by simp)

/-- THE ONE PURE STATEMENT of valancelaw09_JustifyMore: yours. -/
def valancelaw09_JustifyMore.Pure : Prop := ∀ (a0 : Int) (l1 : List Int) (a2 : Int) (a3 : Int) (a4 : Int), (Lit.int .i64 a0).wf = true → l1.length ≤ maxLen → l1.length * 8 ≤ 140737488351232 → (∀ x ∈ l1, (Lit.int .i64 x).wf = true) → (Lit.int .i64 a2).wf = true → (Lit.int .i64 a3).wf = true → (Lit.int .i64 a4).wf = true → ∃ k, valancelaw09_JustifyMore.f k a0 l1 a2 a3 a4 = some true
theorem valancelaw09_JustifyMore.walk (P : valancelaw09_JustifyMore.Pure) (a0 : Int) (a1 : Option Addr) (len1 cap1 : Nat) (z1 : List Int) (a2 : Int) (a3 : Int) (a4 : Int) (w : World) (w0 : (Lit.int .i64 a0).wf = true) (w1 : (a1 = none ∧ len1 = 0 ∧ cap1 = 0 ∧ z1 = []) ∨ ∃ x, a1 = some x ∧ len1 ≤ cap1 ∧ cap1 ≤ maxLen ∧ z1.length = cap1 ∧ (∀ i, i < z1.length → w.cell? (x.add i) = some (.int .i64 (z1.getD i 0))) ∧ ∀ n ∈ z1, (Lit.int .i64 n).wf = true) (y1 : len1 * 8 ≤ 140737488351232) (w2 : (Lit.int .i64 a2).wf = true) (w3 : (Lit.int .i64 a3).wf = true) (w4 : (Lit.int .i64 a4).wf = true) :
    Calls Try.prog 8 #[.int .i64 a0, .slice a1 len1 cap1, .int .i64 a2, .int .i64 a3, .int .i64 a4] w fun e w' => e = .returned (.bool true) ∧ Below w.heap.size w w' := by
  obtain ⟨l1, rfl, hr1, hm1, hw1, hc1⟩ := ReadsInt.ofRowC w1
  obtain ⟨k, h⟩ := P a0 l1 a2 a3 a4 w0 hm1 y1 hw1 w2 w3 w4
  refine (valancelaw09_JustifyMore.calls k a0 _ _ l1 a2 a3 a4 true w (Kd.C_of_reads (d := (0 : Int)) (h1 := fun _ => rfl) hr1) hc1 h).mono ?_
  rintro e w' ⟨rfl, hd⟩
  exact ⟨rfl, hd⟩

end Go.Proofs.Ytnmcefpnpfaklad.V
