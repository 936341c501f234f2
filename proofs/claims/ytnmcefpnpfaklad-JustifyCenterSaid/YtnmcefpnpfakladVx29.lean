/- What the functions of this seat answer, as plain Lean functions, and that the calls come to just that (written by a program of this repo, over the kit's printer; Lean checks it). -/
import Derived.Test.YtnmcefpnpfakladVx0
import Derived.Test.YtnmcefpnpfakladVx11
import Derived.Test.YtnmcefpnpfakladVx13
import Derived.Test.YtnmcefpnpfakladVx14
namespace Go.Proofs.Ytnmcefpnpfaklad.V
open Go.RowKit Go.Proofs.YtnmcefpnpfakladW.PrintWords Go.Proofs.YtnmcefpnpfakladW.PrintLast Go.Proofs.YtnmcefpnpfakladW.PrintMore
attribute [local go_sem] max2_int min2_int max_two min_two max_three min_three max_four min_four   -- for this text's walks alone
set_option linter.unusedVariables false
set_option linter.unusedSimpArgs false

/-! ### valancelaw09_JustifyCenter: function 6 -/
mutual
def valancelaw09_JustifyCenter.j0 : Nat → List Int → Int → Int → Int → Bool → Bool → Option (Bool)
  | 0, _, _, _, _, _, _ => none
  | k + 1, x0, x1, x2, x3, x9, x50 => if x50 = true then (some x9) else (valancelaw09_JustifyCenter.l0 k x0 x1 x2 x3 x9 0)
def valancelaw09_JustifyCenter.l0 : Nat → List Int → Int → Int → Int → Bool → Int → Option (Bool)
  | 0, _, _, _, _, _, _ => none
  | k + 1, x0, x1, x2, x3, x9, x10 => if x10 < (x0.length : Int) then (if 0 ≤ x10 then (if (rd x0 x10) < 0 then (some x9) else (if (rd x0 x10) > 1048576 then (some x9) else (valancelaw09_JustifyCenter.l0 k x0 x1 x2 x3 x9 (wrap64 (x10 + 1))))) else (none)) else ((justify_Starts.f k 2 x0 x1 x2).bind fun t267 => (if 0 < (t267.length : Int) then (if 0 ≤ (wrap64 ((t267.length : Int) - 1)) then (if (wrap64 ((t267.length : Int) - 1)) < (t267.length : Int) then (if 0 ≤ (wrap64 ((x0.length : Int) - 1)) then (if (wrap64 ((x0.length : Int) - 1)) < (x0.length : Int) then ((justify_Across.f 2 x3 x1).bind fun t273 => (if x9 = true then (if (wrap64 ((wrap64 ((wrap64 (x1 - (rd t267 (wrap64 ((t267.length : Int) - 1))))) - (rd x0 (wrap64 ((x0.length : Int) - 1))))) - (rd t267 0))) ≥ 0 then (if (wrap64 ((wrap64 ((wrap64 (x1 - (rd t267 (wrap64 ((t267.length : Int) - 1))))) - (rd x0 (wrap64 ((x0.length : Int) - 1))))) - (rd t267 0))) ≤ 1 then (if (wrap64 ((wrap64 ((wrap64 (x1 - x3)) - t273)) - t273)) ≥ 0 then (if (wrap64 ((wrap64 ((wrap64 (x1 - x3)) - t273)) - t273)) ≤ 1 then ((justify_Across.f 1 x3 x1).bind fun t274 => (if t274 = 0 then ((justify_Across.f 3 x3 x1).bind fun t275 => (some (t275 == (wrap64 (x1 - x3))))) else (none))) else (none)) else (none)) else (none)) else (none)) else (none))) else (none)) else (none)) else (none)) else (none)) else (none)))
end
def valancelaw09_JustifyCenter.f (k : Nat) (l0 : List Int) (a1 : Int) (a2 : Int) (a3 : Int) : Option (Bool) := (valancelaw09_works.f k).bind fun t264 => (if t264 = true then (if (l0.length : Int) < 1 then (valancelaw09_JustifyCenter.j0 k l0 a1 a2 a3 t264 true) else (if (l0.length : Int) > 64 then (valancelaw09_JustifyCenter.j0 k l0 a1 a2 a3 t264 true) else (if a1 < 0 then (valancelaw09_JustifyCenter.j0 k l0 a1 a2 a3 t264 true) else (if a1 > 1073741824 then (valancelaw09_JustifyCenter.j0 k l0 a1 a2 a3 t264 true) else (if a2 < 0 then (valancelaw09_JustifyCenter.j0 k l0 a1 a2 a3 t264 true) else (if a2 > 1048576 then (valancelaw09_JustifyCenter.j0 k l0 a1 a2 a3 t264 true) else (if a3 < 0 then (valancelaw09_JustifyCenter.j0 k l0 a1 a2 a3 t264 true) else (valancelaw09_JustifyCenter.j0 k l0 a1 a2 a3 t264 (decide (a3 > 1048576)))))))))) else (none))
theorem valancelaw09_JustifyCenter.mono_l : ∀ k, (∀ y0 y1 y2 y3 y4 y5, LeO (valancelaw09_JustifyCenter.j0 k y0 y1 y2 y3 y4 y5) (valancelaw09_JustifyCenter.j0 (k + 1) y0 y1 y2 y3 y4 y5)) ∧ (∀ y0 y1 y2 y3 y4 y5, LeO (valancelaw09_JustifyCenter.l0 k y0 y1 y2 y3 y4 y5) (valancelaw09_JustifyCenter.l0 (k + 1) y0 y1 y2 y3 y4 y5))
  | 0 => ⟨fun _ _ _ _ _ _ r h => by simp [valancelaw09_JustifyCenter.j0] at h, fun _ _ _ _ _ _ r h => by simp [valancelaw09_JustifyCenter.l0] at h⟩
  | k + 1 => by
    obtain ⟨ih0, ih1⟩ := valancelaw09_JustifyCenter.mono_l k
    refine ⟨?_, ?_⟩
    · intro y0 y1 y2 y3 y4 y5
      unfold valancelaw09_JustifyCenter.j0
      repeat' first
      | (with_reducible exact ih0 _ _ _ _ _ _)
      | (with_reducible exact ih1 _ _ _ _ _ _)
      | (with_reducible exact justify_Starts.mono _ _ _ _ _)
      | (with_reducible exact valancelaw09_works.mono _)
      | (with_reducible exact LeO.refl _)
      | (with_reducible exact LeO.none _)
      | (with_reducible refine LeO.ite ?_ ?_)
      | (with_reducible refine LeO.bind ?_ (fun _ => ?_))
      | exact ih0 _ _ _ _ _ _
      | exact ih1 _ _ _ _ _ _
      | exact justify_Starts.mono _ _ _ _ _
      | exact valancelaw09_works.mono _
      | exact LeO.none _
      | refine LeO.ite ?_ ?_
      | refine LeO.bind ?_ (fun _ => ?_)
    · intro y0 y1 y2 y3 y4 y5
      unfold valancelaw09_JustifyCenter.l0
      repeat' first
      | (with_reducible exact ih0 _ _ _ _ _ _)
      | (with_reducible exact ih1 _ _ _ _ _ _)
      | (with_reducible exact justify_Starts.mono _ _ _ _ _)
      | (with_reducible exact valancelaw09_works.mono _)
      | (with_reducible exact LeO.refl _)
      | (with_reducible exact LeO.none _)
      | (with_reducible refine LeO.ite ?_ ?_)
      | (with_reducible refine LeO.bind ?_ (fun _ => ?_))
      | exact ih0 _ _ _ _ _ _
      | exact ih1 _ _ _ _ _ _
      | exact justify_Starts.mono _ _ _ _ _
      | exact valancelaw09_works.mono _
      | exact LeO.none _
      | refine LeO.ite ?_ ?_
      | refine LeO.bind ?_ (fun _ => ?_)
theorem valancelaw09_JustifyCenter.mono : ∀ a0 a1 a2 a3 k, LeO (valancelaw09_JustifyCenter.f k a0 a1 a2 a3) (valancelaw09_JustifyCenter.f (k + 1) a0 a1 a2 a3) := by
  intro a0 a1 a2 a3 k
  obtain ⟨ih0, ih1⟩ := valancelaw09_JustifyCenter.mono_l k
  unfold valancelaw09_JustifyCenter.f
  repeat' first
      | (with_reducible exact ih0 _ _ _ _ _ _)
      | (with_reducible exact ih1 _ _ _ _ _ _)
      | (with_reducible exact justify_Starts.mono _ _ _ _ _)
      | (with_reducible exact valancelaw09_works.mono _)
      | (with_reducible exact LeO.refl _)
      | (with_reducible exact LeO.none _)
      | (with_reducible refine LeO.ite ?_ ?_)
      | (with_reducible refine LeO.bind ?_ (fun _ => ?_))
      | exact ih0 _ _ _ _ _ _
      | exact ih1 _ _ _ _ _ _
      | exact justify_Starts.mono _ _ _ _ _
      | exact valancelaw09_works.mono _
      | exact LeO.none _
      | refine LeO.ite ?_ ?_
      | refine LeO.bind ?_ (fun _ => ?_)
set_option maxHeartbeats 8000000 in
set_option maxRecDepth 100000 in
theorem valancelaw09_JustifyCenter.calls (k : Nat) (A0 : Option Addr) (c0 : Nat) (l0 : List Int) (a1 : Int) (a2 : Int) (a3 : Int) (r : Bool) (w : World) (hr0 : Kd.C (Kd.int .i64) w A0 l0.length l0) (hc0 : l0.length ≤ c0) (h : valancelaw09_JustifyCenter.f k l0 a1 a2 a3 = some r) :
    Calls Try.prog 6 #[.slice A0 l0.length c0, .int .i64 a1, .int .i64 a2, .int .i64 a3] w fun e w' => e = .returned (.bool r) ∧ Below w.heap.size w w' := by
  have HR0 := Aside0.mk hr0
  have HC0 := Aside0.mk hc0
  clear hr0 hc0
  have HB := Aside0.mk (Below.refl w.heap.size w)
  have H : ((valancelaw09_works.f k).bind fun t264 => (if t264 = true then (if (l0.length : Int) < 1 then (valancelaw09_JustifyCenter.j0 k l0 a1 a2 a3 t264 true) else (if (l0.length : Int) > 64 then (valancelaw09_JustifyCenter.j0 k l0 a1 a2 a3 t264 true) else (if a1 < 0 then (valancelaw09_JustifyCenter.j0 k l0 a1 a2 a3 t264 true) else (if a1 > 1073741824 then (valancelaw09_JustifyCenter.j0 k l0 a1 a2 a3 t264 true) else (if a2 < 0 then (valancelaw09_JustifyCenter.j0 k l0 a1 a2 a3 t264 true) else (if a2 > 1048576 then (valancelaw09_JustifyCenter.j0 k l0 a1 a2 a3 t264 true) else (if a3 < 0 then (valancelaw09_JustifyCenter.j0 k l0 a1 a2 a3 t264 true) else (valancelaw09_JustifyCenter.j0 k l0 a1 a2 a3 t264 (decide (a3 > 1048576)))))))))) else (none))) = some r := h
  clear h
  replace H := Option.bind_eq_some_iff.mp H
  obtain ⟨t264, A50, H⟩ := H
  replace H : (if t264 = true then (if (l0.length : Int) < 1 then (valancelaw09_JustifyCenter.j0 k l0 a1 a2 a3 t264 true) else (if (l0.length : Int) > 64 then (valancelaw09_JustifyCenter.j0 k l0 a1 a2 a3 t264 true) else (if a1 < 0 then (valancelaw09_JustifyCenter.j0 k l0 a1 a2 a3 t264 true) else (if a1 > 1073741824 then (valancelaw09_JustifyCenter.j0 k l0 a1 a2 a3 t264 true) else (if a2 < 0 then (valancelaw09_JustifyCenter.j0 k l0 a1 a2 a3 t264 true) else (if a2 > 1048576 then (valancelaw09_JustifyCenter.j0 k l0 a1 a2 a3 t264 true) else (if a3 < 0 then (valancelaw09_JustifyCenter.j0 k l0 a1 a2 a3 t264 true) else (valancelaw09_JustifyCenter.j0 k l0 a1 a2 a3 t264 (decide (a3 > 1048576)))))))))) else (none)) = some r := H
  have A5 := Aside0.mk A50
  clear A50
  by_cases c6 : t264 = true
  · subst c6
    have H1 : (if (l0.length : Int) < 1 then (valancelaw09_JustifyCenter.j0 k l0 a1 a2 a3 true true) else (if (l0.length : Int) > 64 then (valancelaw09_JustifyCenter.j0 k l0 a1 a2 a3 true true) else (if a1 < 0 then (valancelaw09_JustifyCenter.j0 k l0 a1 a2 a3 true true) else (if a1 > 1073741824 then (valancelaw09_JustifyCenter.j0 k l0 a1 a2 a3 true true) else (if a2 < 0 then (valancelaw09_JustifyCenter.j0 k l0 a1 a2 a3 true true) else (if a2 > 1048576 then (valancelaw09_JustifyCenter.j0 k l0 a1 a2 a3 true true) else (if a3 < 0 then (valancelaw09_JustifyCenter.j0 k l0 a1 a2 a3 true true) else (valancelaw09_JustifyCenter.j0 k l0 a1 a2 a3 true (decide (a3 > 1048576)))))))))) = some r := by rw [if_pos rfl] at H; exact H
    clear H
    have H := H1
    clear H1
    have HC7 := Aside0.mk H
    clear H
    go_enter Try.func6, Try.ntmps6
    go_upto_region 4 with (first | (go_at_call 15; (with_reducible refine (valancelaw09_works.calls k  true _ A5.out).mono ?_); rintro e w8 ⟨rfl, hb⟩; have n0_ := Aside0.mk (below_step (by repeat (first | (with_reducible first | exact HB.out | apply below_alloc | apply pw_below_drewN | apply below_drew1) | exact HB.out)) hb); clear HB; have HB := n0_; clear n0_; (try clear hb); (try clear hb2); (try clear hk); (try clear hi)))
    repeat (go_quiet (first | (go_at_call 15; (with_reducible refine (valancelaw09_works.calls k  true _ A5.out).mono ?_); rintro e w8 ⟨rfl, hb⟩; have n0_ := Aside0.mk (below_step (by repeat (first | (with_reducible first | exact HB.out | apply below_alloc | apply pw_below_drewN | apply below_drew1) | exact HB.out)) hb); clear HB; have HB := n0_; clear n0_; (try clear hb); (try clear hb2); (try clear hk); (try clear hi))); go_upto_region 4 with (first | (go_at_call 15; (with_reducible refine (valancelaw09_works.calls k  true _ A5.out).mono ?_); rintro e w8 ⟨rfl, hb⟩; have n0_ := Aside0.mk (below_step (by repeat (first | (with_reducible first | exact HB.out | apply below_alloc | apply pw_below_drewN | apply below_drew1) | exact HB.out)) hb); clear HB; have HB := n0_; clear n0_; (try clear hb); (try clear hb2); (try clear hk); (try clear hi))))
    (try simp only [Act.put, List.setIfInBounds_toArray, List.set_cons_zero, List.set_cons_succ])
    go_cut [50] (fun v50 wc => ∃ (kq : Nat) (x50_6 : Bool), v50 = .bool x50_6 ∧ Aside0 (valancelaw09_JustifyCenter.j0 kq l0 a1 a2 a3 true x50_6 = some r) ∧ Aside0 (kq ≤ k) ∧ Aside0 (Below w.heap.size w wc))
    case first =>
      have H := HC7.out
      clear HC7
      by_cases c9 : (l0.length : Int) < 1
      · rw [if_pos c9] at H
        have c9b0 : decide ((l0.length : Int) < 1) = true := decide_eq_true c9
        have c9b1 : decide (l0.length < 1) = true := decide_eq_true (by omega)
        clear c9
        (first | rw [c9b0] | (simp only [i64_w, i32_w]; rw [c9b0]) | skip)
        have H' := Aside0.mk H
        clear H
        go_wp2
        repeat (go_quiet (fail); try go_wp2)
        go_meet
        case rel => exact ⟨_, (true), (by first | rfl | (simp; done) | (simp [*]; done)), H', ⟨by first | omega | exact Nat.le_refl _⟩, ⟨by repeat (first | (with_reducible first | exact HB.out | apply below_alloc | apply pw_below_drewN | apply below_drew1) | exact HB.out)⟩⟩
      · rw [if_neg c9] at H
        have c9b0 : decide ((l0.length : Int) < 1) = false := decide_eq_false c9
        have c9b1 : decide (l0.length < 1) = false := decide_eq_false (by omega)
        clear c9
        (first | rw [c9b0] | (simp only [i64_w, i32_w]; rw [c9b0]) | skip)
        by_cases c10 : (l0.length : Int) > 64
        · rw [if_pos c10] at H
          have c10b0 : decide (64 < (l0.length : Int)) = true := decide_eq_true c10
          have c10b1 : decide (64 < l0.length) = true := decide_eq_true (by omega)
          clear c10
          have H' := Aside0.mk H
          clear H
          go_wp2
          repeat (go_quiet (fail); try go_wp2)
          go_meet
          case rel => exact ⟨_, (true), (by first | rfl | (simp; done) | (simp [*]; done)), H', ⟨by first | omega | exact Nat.le_refl _⟩, ⟨by repeat (first | (with_reducible first | exact HB.out | apply below_alloc | apply pw_below_drewN | apply below_drew1) | exact HB.out)⟩⟩
        · rw [if_neg c10] at H
          have c10b0 : decide (64 < (l0.length : Int)) = false := decide_eq_false c10
          have c10b1 : decide (64 < l0.length) = false := decide_eq_false (by omega)
          clear c10
          by_cases c11 : a1 < 0
          · rw [if_pos c11] at H
            have c11b0 : decide (a1 < 0) = true := decide_eq_true c11
            clear c11
            have H' := Aside0.mk H
            clear H
            go_wp2
            repeat (go_quiet (fail); try go_wp2)
            go_meet
            case rel => exact ⟨_, (true), (by first | rfl | (simp; done) | (simp [*]; done)), H', ⟨by first | omega | exact Nat.le_refl _⟩, ⟨by repeat (first | (with_reducible first | exact HB.out | apply below_alloc | apply pw_below_drewN | apply below_drew1) | exact HB.out)⟩⟩
          · rw [if_neg c11] at H
            have c11b0 : decide (a1 < 0) = false := decide_eq_false c11
            clear c11
            by_cases c12 : a1 > 1073741824
            · rw [if_pos c12] at H
              have c12b0 : decide (1073741824 < a1) = true := decide_eq_true c12
              clear c12
              have H' := Aside0.mk H
              clear H
              go_wp2
              repeat (go_quiet (fail); try go_wp2)
              go_meet
              case rel => exact ⟨_, (true), (by first | rfl | (simp; done) | (simp [*]; done)), H', ⟨by first | omega | exact Nat.le_refl _⟩, ⟨by repeat (first | (with_reducible first | exact HB.out | apply below_alloc | apply pw_below_drewN | apply below_drew1) | exact HB.out)⟩⟩
            · rw [if_neg c12] at H
              have c12b0 : decide (1073741824 < a1) = false := decide_eq_false c12
              clear c12
              by_cases c13 : a2 < 0
              · rw [if_pos c13] at H
                have c13b0 : decide (a2 < 0) = true := decide_eq_true c13
                clear c13
                have H' := Aside0.mk H
                clear H
                go_wp2
                repeat (go_quiet (fail); try go_wp2)
                go_meet
                case rel => exact ⟨_, (true), (by first | rfl | (simp; done) | (simp [*]; done)), H', ⟨by first | omega | exact Nat.le_refl _⟩, ⟨by repeat (first | (with_reducible first | exact HB.out | apply below_alloc | apply pw_below_drewN | apply below_drew1) | exact HB.out)⟩⟩
              · rw [if_neg c13] at H
                have c13b0 : decide (a2 < 0) = false := decide_eq_false c13
                clear c13
                by_cases c14 : a2 > 1048576
                · rw [if_pos c14] at H
                  have c14b0 : decide (1048576 < a2) = true := decide_eq_true c14
                  clear c14
                  have H' := Aside0.mk H
                  clear H
                  go_wp2
                  repeat (go_quiet (fail); try go_wp2)
                  go_meet
                  case rel => exact ⟨_, (true), (by first | rfl | (simp; done) | (simp [*]; done)), H', ⟨by first | omega | exact Nat.le_refl _⟩, ⟨by repeat (first | (with_reducible first | exact HB.out | apply below_alloc | apply pw_below_drewN | apply below_drew1) | exact HB.out)⟩⟩
                · rw [if_neg c14] at H
                  have c14b0 : decide (1048576 < a2) = false := decide_eq_false c14
                  clear c14
                  by_cases c15 : a3 < 0
                  · rw [if_pos c15] at H
                    have c15b0 : decide (a3 < 0) = true := decide_eq_true c15
                    clear c15
                    have H' := Aside0.mk H
                    clear H
                    go_wp2
                    repeat (go_quiet (fail); try go_wp2)
                    go_meet
                    case rel => exact ⟨_, (true), (by first | rfl | (simp; done) | (simp [*]; done)), H', ⟨by first | omega | exact Nat.le_refl _⟩, ⟨by repeat (first | (with_reducible first | exact HB.out | apply below_alloc | apply pw_below_drewN | apply below_drew1) | exact HB.out)⟩⟩
                  · rw [if_neg c15] at H
                    have c15b0 : decide (a3 < 0) = false := decide_eq_false c15
                    clear c15
                    have H' := Aside0.mk H
                    clear H
                    go_wp2
                    repeat (go_quiet (fail); try go_wp2)
                    go_meet
                    case rel => exact ⟨_, (decide (a3 > 1048576)), (by first | rfl | (simp; done) | (simp [*]; done)), H', ⟨by first | omega | exact Nat.le_refl _⟩, ⟨by repeat (first | (with_reducible first | exact HB.out | apply below_alloc | apply pw_below_drewN | apply below_drew1) | exact HB.out)⟩⟩
    case rest =>
      clear HC7
      try clear c1
      try clear p2
      try clear c6
      try clear c9
      try clear c9b0
      try clear c9b1
      try clear c10
      try clear c10b0
      try clear c10b1
      try clear c11
      try clear c11b0
      try clear c12
      try clear c12b0
      try clear c13
      try clear c13b0
      try clear c14
      try clear c14b0
      try clear c15
      try clear c15b0
      obtain ⟨kq, x50_6, rfl, HA, HJ6, HB⟩ := hcut
      cases kq with
      | zero => exact absurd HA.out (by simp [valancelaw09_JustifyCenter.j0])
      | succ kj6 =>
        have H := HA.out
        clear HA
        simp only [valancelaw09_JustifyCenter.j0] at H
        by_cases c16 : x50_6 = true
        · subst c16
          have H1 : (some true) = some r := by rw [if_pos rfl] at H; exact H
          clear H
          have H := H1
          clear H1
          obtain rfl := Option.some.inj H
          go_wp2
          repeat (go_quiet (fail); try go_wp2)
          go_ret
          exact ⟨by first | rfl | (simp [errW_none, errW_some] <;> rfl) | (simp [*, errW_none, errW_some] <;> rfl), by repeat (first | (with_reducible first | exact HB.out | apply below_alloc | apply pw_below_drewN | apply below_drew1) | exact HB.out)⟩
        · replace c16 := Bool.eq_false_iff.mpr c16
          subst c16
          have H1 : (valancelaw09_JustifyCenter.l0 kj6 l0 a1 a2 a3 true 0) = some r := by rw [if_neg (show ¬ (false = true) by decide)] at H; exact H
          clear H
          have H := H1
          clear H1
          have H' := Aside0.mk H
          clear H
          go_wp2
          repeat (go_quiet (fail); try go_wp2)
          go_loopg [10] kj6 (fun kq v10 w' => ∃ (x10_2 : Int), v10 = .int .i64 x10_2 ∧ Aside0 (valancelaw09_JustifyCenter.l0 kq l0 a1 a2 a3 true x10_2 = some r) ∧ Aside0 (kq ≤ kj6) ∧ Aside0 (Below w.heap.size w w'))
          case atStart => exact ⟨(0), (by first | rfl | (simp; done) | (simp [*]; done)), H', ⟨Nat.le_refl _⟩, ⟨by repeat (first | (with_reducible first | exact HB.out | apply below_alloc | apply pw_below_drewN | apply below_drew1) | exact HB.out)⟩⟩
          case round =>
            clear H'
            try clear c1
            try clear p2
            try clear c6
            try clear c9
            try clear c9b0
            try clear c9b1
            try clear c10
            try clear c10b0
            try clear c10b1
            try clear c11
            try clear c11b0
            try clear c12
            try clear c12b0
            try clear c13
            try clear c13b0
            try clear c14
            try clear c14b0
            try clear c15
            try clear c15b0
            try clear c16
            try clear p2
            obtain ⟨x10_2, rfl, HA, HK2, HB⟩ := hrel
            cases gk with
            | zero => exact absurd HA.out (by simp [valancelaw09_JustifyCenter.l0])
            | succ k2 =>
              have H := HA.out
              clear HA
              simp only [valancelaw09_JustifyCenter.l0] at H
              by_cases c17 : x10_2 < (l0.length : Int)
              · rw [if_pos c17] at H
                have c17b0 : decide (x10_2 < (l0.length : Int)) = true := decide_eq_true c17
                clear c17
                by_cases c18 : 0 ≤ x10_2
                · rw [if_pos c18] at H
                  have c18b0 : decide (0 ≤ x10_2) = true := decide_eq_true c18
                  clear c18
                  by_cases c19 : (rd l0 x10_2) < 0
                  · rw [if_pos c19] at H
                    have c19b0 : decide ((rd l0 x10_2) < 0) = true := decide_eq_true c19
                    clear c19
                    obtain rfl := Option.some.inj H
                    have p265 : 0 ≤ (x10_2 : Int) := of_decide_eq_true (by first | (with_reducible assumption) | assumption)
                    have q265 : x10_2 < (l0.length : Int) := of_decide_eq_true (by first | (with_reducible assumption) | assumption)
                    obtain ⟨ad265, e265, hx265_0⟩ := Kd.at_int HR0.out x10_2 p265 q265
                    cases e265
                    replace hx265_0 := (HB.out.cell (World.block_lt_of_cell? w _ hx265_0)).trans hx265_0
                    replace p265 := eq_true p265
                    replace q265 := eq_true q265
                    go_wp2
                    repeat (go_quiet (fail); try go_wp2)
                    go_ret
                    exact ⟨by first | rfl | (simp [errW_none, errW_some] <;> rfl) | (simp [*, errW_none, errW_some] <;> rfl), by repeat (first | (with_reducible first | exact HB.out | apply below_alloc | apply pw_below_drewN | apply below_drew1) | exact HB.out)⟩
                  · rw [if_neg c19] at H
                    have c19b0 : decide ((rd l0 x10_2) < 0) = false := decide_eq_false c19
                    clear c19
                    by_cases c20 : (rd l0 x10_2) > 1048576
                    · rw [if_pos c20] at H
                      have c20b0 : decide (1048576 < (rd l0 x10_2)) = true := decide_eq_true c20
                      clear c20
                      obtain rfl := Option.some.inj H
                      have p265 : 0 ≤ (x10_2 : Int) := of_decide_eq_true (by first | (with_reducible assumption) | assumption)
                      have q265 : x10_2 < (l0.length : Int) := of_decide_eq_true (by first | (with_reducible assumption) | assumption)
                      obtain ⟨ad265, e265, hx265_0⟩ := Kd.at_int HR0.out x10_2 p265 q265
                      cases e265
                      replace hx265_0 := (HB.out.cell (World.block_lt_of_cell? w _ hx265_0)).trans hx265_0
                      replace p265 := eq_true p265
                      replace q265 := eq_true q265
                      have p266 : 0 ≤ (x10_2 : Int) := of_decide_eq_true (by first | (with_reducible assumption) | assumption)
                      have q266 : x10_2 < (l0.length : Int) := of_decide_eq_true (by first | (with_reducible assumption) | assumption)
                      obtain ⟨ad266, e266, hx266_0⟩ := Kd.at_int HR0.out x10_2 p266 q266
                      obtain rfl : ad265 = ad266 := (by injection e266)
                      replace hx266_0 := (HB.out.cell (World.block_lt_of_cell? w _ hx266_0)).trans hx266_0
                      replace p266 := eq_true p266
                      replace q266 := eq_true q266
                      go_wp2
                      repeat (go_quiet (fail); try go_wp2)
                      go_ret
                      exact ⟨by first | rfl | (simp [errW_none, errW_some] <;> rfl) | (simp [*, errW_none, errW_some] <;> rfl), by repeat (first | (with_reducible first | exact HB.out | apply below_alloc | apply pw_below_drewN | apply below_drew1) | exact HB.out)⟩
                    · rw [if_neg c20] at H
                      have c20b0 : decide (1048576 < (rd l0 x10_2)) = false := decide_eq_false c20
                      clear c20
                      have H' := Aside0.mk H
                      clear H
                      have p265 : 0 ≤ (x10_2 : Int) := of_decide_eq_true (by first | (with_reducible assumption) | assumption)
                      have q265 : x10_2 < (l0.length : Int) := of_decide_eq_true (by first | (with_reducible assumption) | assumption)
                      obtain ⟨ad265, e265, hx265_0⟩ := Kd.at_int HR0.out x10_2 p265 q265
                      cases e265
                      replace hx265_0 := (HB.out.cell (World.block_lt_of_cell? w _ hx265_0)).trans hx265_0
                      replace p265 := eq_true p265
                      replace q265 := eq_true q265
                      have p266 : 0 ≤ (x10_2 : Int) := of_decide_eq_true (by first | (with_reducible assumption) | assumption)
                      have q266 : x10_2 < (l0.length : Int) := of_decide_eq_true (by first | (with_reducible assumption) | assumption)
                      obtain ⟨ad266, e266, hx266_0⟩ := Kd.at_int HR0.out x10_2 p266 q266
                      obtain rfl : ad265 = ad266 := (by injection e266)
                      replace hx266_0 := (HB.out.cell (World.block_lt_of_cell? w _ hx266_0)).trans hx266_0
                      replace p266 := eq_true p266
                      replace q266 := eq_true q266
                      go_wp2
                      repeat (go_quiet (fail); try go_wp2)
                      go_roundg k2
                      case measure => have := HJ6.out; have := HK2.out; omega
                      case rel => exact ⟨(wrap64 (x10_2 + 1)), (by first | rfl | (simp; done) | (simp [*]; done)), H', ⟨by have := HJ6.out; have := HK2.out; omega⟩, ⟨by repeat (first | (with_reducible first | exact HB.out | apply below_alloc | apply pw_below_drewN | apply below_drew1) | exact HB.out)⟩⟩
                · rw [if_neg c18] at H
                  exact absurd H (by simp)
              · rw [if_neg c17] at H
                have c17b0 : decide (x10_2 < (l0.length : Int)) = false := decide_eq_false c17
                clear c17
                replace H := Option.bind_eq_some_iff.mp H
                obtain ⟨t267, A210, H⟩ := H
                replace H : (if 0 < (t267.length : Int) then (if 0 ≤ (wrap64 ((t267.length : Int) - 1)) then (if (wrap64 ((t267.length : Int) - 1)) < (t267.length : Int) then (if 0 ≤ (wrap64 ((l0.length : Int) - 1)) then (if (wrap64 ((l0.length : Int) - 1)) < (l0.length : Int) then ((justify_Across.f 2 a3 a1).bind fun t273 => (if true = true then (if (wrap64 ((wrap64 ((wrap64 (a1 - (rd t267 (wrap64 ((t267.length : Int) - 1))))) - (rd l0 (wrap64 ((l0.length : Int) - 1))))) - (rd t267 0))) ≥ 0 then (if (wrap64 ((wrap64 ((wrap64 (a1 - (rd t267 (wrap64 ((t267.length : Int) - 1))))) - (rd l0 (wrap64 ((l0.length : Int) - 1))))) - (rd t267 0))) ≤ 1 then (if (wrap64 ((wrap64 ((wrap64 (a1 - a3)) - t273)) - t273)) ≥ 0 then (if (wrap64 ((wrap64 ((wrap64 (a1 - a3)) - t273)) - t273)) ≤ 1 then ((justify_Across.f 1 a3 a1).bind fun t274 => (if t274 = 0 then ((justify_Across.f 3 a3 a1).bind fun t275 => (some (t275 == (wrap64 (a1 - a3))))) else (none))) else (none)) else (none)) else (none)) else (none)) else (none))) else (none)) else (none)) else (none)) else (none)) else (none)) = some r := H
                have A21 := Aside0.mk A210
                clear A210
                by_cases c22 : 0 < (t267.length : Int)
                · rw [if_pos c22] at H
                  have c22b0 : decide (0 < (t267.length : Int)) = true := decide_eq_true c22
                  have c22b1 : decide (0 < t267.length) = true := decide_eq_true (by omega)
                  clear c22
                  obtain ⟨ji23, hji23⟩ : ∃ j_ : Int, (wrap64 ((t267.length : Int) - 1)) = j_ := ⟨_, rfl⟩
                  replace H : (if 0 ≤ (ji23) then (if (ji23) < (t267.length : Int) then (if 0 ≤ (wrap64 ((l0.length : Int) - 1)) then (if (wrap64 ((l0.length : Int) - 1)) < (l0.length : Int) then ((justify_Across.f 2 a3 a1).bind fun t273 => (if true = true then (if (wrap64 ((wrap64 ((wrap64 (a1 - (rd t267 (ji23)))) - (rd l0 (wrap64 ((l0.length : Int) - 1))))) - (rd t267 0))) ≥ 0 then (if (wrap64 ((wrap64 ((wrap64 (a1 - (rd t267 (ji23)))) - (rd l0 (wrap64 ((l0.length : Int) - 1))))) - (rd t267 0))) ≤ 1 then (if (wrap64 ((wrap64 ((wrap64 (a1 - a3)) - t273)) - t273)) ≥ 0 then (if (wrap64 ((wrap64 ((wrap64 (a1 - a3)) - t273)) - t273)) ≤ 1 then ((justify_Across.f 1 a3 a1).bind fun t274 => (if t274 = 0 then ((justify_Across.f 3 a3 a1).bind fun t275 => (some (t275 == (wrap64 (a1 - a3))))) else (none))) else (none)) else (none)) else (none)) else (none)) else (none))) else (none)) else (none)) else (none)) else (none)) = some r := by first | (rw [hji23] at H; exact H) | (simp only [hji23] at H ⊢; exact H)
                  (try rw [hji23] at A21)
                  have hji23w : (IntKind.i64.wrap ((t267.length : Int) - 1)) = ji23 := (i64_w _).trans hji23
                  by_cases c24 : 0 ≤ (ji23)
                  · rw [if_pos c24] at H
                    have c24b0 : decide (0 ≤ (ji23)) = true := decide_eq_true c24
                    clear c24
                    by_cases c25 : (ji23) < (t267.length : Int)
                    · rw [if_pos c25] at H
                      have c25b0 : decide ((ji23) < (t267.length : Int)) = true := decide_eq_true c25
                      clear c25
                      obtain ⟨ji26, hji26⟩ : ∃ j_ : Int, (wrap64 ((l0.length : Int) - 1)) = j_ := ⟨_, rfl⟩
                      replace H : (if 0 ≤ (ji26) then (if (ji26) < (l0.length : Int) then ((justify_Across.f 2 a3 a1).bind fun t273 => (if true = true then (if (wrap64 ((wrap64 ((wrap64 (a1 - (rd t267 (ji23)))) - (rd l0 (ji26)))) - (rd t267 0))) ≥ 0 then (if (wrap64 ((wrap64 ((wrap64 (a1 - (rd t267 (ji23)))) - (rd l0 (ji26)))) - (rd t267 0))) ≤ 1 then (if (wrap64 ((wrap64 ((wrap64 (a1 - a3)) - t273)) - t273)) ≥ 0 then (if (wrap64 ((wrap64 ((wrap64 (a1 - a3)) - t273)) - t273)) ≤ 1 then ((justify_Across.f 1 a3 a1).bind fun t274 => (if t274 = 0 then ((justify_Across.f 3 a3 a1).bind fun t275 => (some (t275 == (wrap64 (a1 - a3))))) else (none))) else (none)) else (none)) else (none)) else (none)) else (none))) else (none)) else (none)) = some r := by first | (rw [hji26] at H; exact H) | (simp only [hji26] at H ⊢; exact H)
                      (try rw [hji26] at A21)
                      have hji26w : (IntKind.i64.wrap ((l0.length : Int) - 1)) = ji26 := (i64_w _).trans hji26
                      by_cases c27 : 0 ≤ (ji26)
                      · rw [if_pos c27] at H
                        have c27b0 : decide (0 ≤ (ji26)) = true := decide_eq_true c27
                        clear c27
                        by_cases c28 : (ji26) < (l0.length : Int)
                        · rw [if_pos c28] at H
                          have c28b0 : decide ((ji26) < (l0.length : Int)) = true := decide_eq_true c28
                          clear c28
                          replace H := Option.bind_eq_some_iff.mp H
                          obtain ⟨t273, A290, H⟩ := H
                          replace H : (if true = true then (if (wrap64 ((wrap64 ((wrap64 (a1 - (rd t267 (ji23)))) - (rd l0 (ji26)))) - (rd t267 0))) ≥ 0 then (if (wrap64 ((wrap64 ((wrap64 (a1 - (rd t267 (ji23)))) - (rd l0 (ji26)))) - (rd t267 0))) ≤ 1 then (if (wrap64 ((wrap64 ((wrap64 (a1 - a3)) - t273)) - t273)) ≥ 0 then (if (wrap64 ((wrap64 ((wrap64 (a1 - a3)) - t273)) - t273)) ≤ 1 then ((justify_Across.f 1 a3 a1).bind fun t274 => (if t274 = 0 then ((justify_Across.f 3 a3 a1).bind fun t275 => (some (t275 == (wrap64 (a1 - a3))))) else (none))) else (none)) else (none)) else (none)) else (none)) else (none)) = some r := H
                          have A29 := Aside0.mk A290
                          clear A290
                          by_cases c30 : true = true
                          · clear c30
                            have H1 : (if (wrap64 ((wrap64 ((wrap64 (a1 - (rd t267 (ji23)))) - (rd l0 (ji26)))) - (rd t267 0))) ≥ 0 then (if (wrap64 ((wrap64 ((wrap64 (a1 - (rd t267 (ji23)))) - (rd l0 (ji26)))) - (rd t267 0))) ≤ 1 then (if (wrap64 ((wrap64 ((wrap64 (a1 - a3)) - t273)) - t273)) ≥ 0 then (if (wrap64 ((wrap64 ((wrap64 (a1 - a3)) - t273)) - t273)) ≤ 1 then ((justify_Across.f 1 a3 a1).bind fun t274 => (if t274 = 0 then ((justify_Across.f 3 a3 a1).bind fun t275 => (some (t275 == (wrap64 (a1 - a3))))) else (none))) else (none)) else (none)) else (none)) else (none)) = some r := by first | (rw [if_pos rfl] at H; exact H) | (rw [if_pos True.intro] at H; exact H)
                            clear H
                            have H := H1
                            clear H1
                            by_cases c31 : (wrap64 ((wrap64 ((wrap64 (a1 - (rd t267 (ji23)))) - (rd l0 (ji26)))) - (rd t267 0))) ≥ 0
                            · rw [if_pos c31] at H
                              have c31b0 : decide (0 ≤ (wrap64 ((wrap64 ((wrap64 (a1 - (rd t267 (ji23)))) - (rd l0 (ji26)))) - (rd t267 0)))) = true := decide_eq_true c31
                              clear c31
                              by_cases c32 : (wrap64 ((wrap64 ((wrap64 (a1 - (rd t267 (ji23)))) - (rd l0 (ji26)))) - (rd t267 0))) ≤ 1
                              · rw [if_pos c32] at H
                                have c32b0 : decide ((wrap64 ((wrap64 ((wrap64 (a1 - (rd t267 (ji23)))) - (rd l0 (ji26)))) - (rd t267 0))) ≤ 1) = true := decide_eq_true c32
                                clear c32
                                by_cases c33 : (wrap64 ((wrap64 ((wrap64 (a1 - a3)) - t273)) - t273)) ≥ 0
                                · rw [if_pos c33] at H
                                  have c33b0 : decide (0 ≤ (wrap64 ((wrap64 ((wrap64 (a1 - a3)) - t273)) - t273))) = true := decide_eq_true c33
                                  clear c33
                                  by_cases c34 : (wrap64 ((wrap64 ((wrap64 (a1 - a3)) - t273)) - t273)) ≤ 1
                                  · rw [if_pos c34] at H
                                    have c34b0 : decide ((wrap64 ((wrap64 ((wrap64 (a1 - a3)) - t273)) - t273)) ≤ 1) = true := decide_eq_true c34
                                    clear c34
                                    replace H := Option.bind_eq_some_iff.mp H
                                    obtain ⟨t274, A350, H⟩ := H
                                    replace H : (if t274 = 0 then ((justify_Across.f 3 a3 a1).bind fun t275 => (some (t275 == (wrap64 (a1 - a3))))) else (none)) = some r := H
                                    have A35 := Aside0.mk A350
                                    clear A350
                                    by_cases c36 : t274 = 0
                                    · rw [if_pos c36] at H
                                      have c36b0 : (t274 == 0) = true := beq_iff_eq.mpr c36
                                      have c36b1 : (t274 != 0) = false := bne_eq_false_iff_eq.mpr c36
                                      clear c36
                                      replace H := Option.bind_eq_some_iff.mp H
                                      obtain ⟨t275, A370, H⟩ := H
                                      replace H : (some (t275 == (wrap64 (a1 - a3)))) = some r := H
                                      have A37 := Aside0.mk A370
                                      clear A370
                                      obtain rfl := Option.some.inj H
                                      go_wp2_with (first | (go_at_call 16; (with_reducible refine (justify_Starts.calls k2 2 _ _ l0 a1 a2 t267 _ ?side1 ?side2 A21.out).mono ?_); (case side1 => repeat (first | exact (Kd.C_below HR0.out HB.out) | (with_reducible refine Kd.C_alloc ?_ _) | (with_reducible refine Kd.C_drewN ?_ _) | (with_reducible refine Kd.C_drew ?_))); (case side2 => exact HC0.out); rintro e w38 ⟨v268, rfl, ho0, hb⟩; have n0_ := Aside0.mk (Kd.R_lower ho0 (below_size (by repeat (first | (with_reducible first | exact HB.out | apply below_alloc | apply pw_below_drewN | apply below_drew1) | exact HB.out)))); have n1_ := Aside0.mk (below_step (by repeat (first | (with_reducible first | exact HB.out | apply below_alloc | apply pw_below_drewN | apply below_drew1) | exact HB.out)) hb); clear HB; have HO269 := n0_; have HB := n1_; clear n0_ n1_; (try clear hb); (try clear hb2); (try clear hk); (try clear hi); (try clear ho0); obtain ⟨Ao39, co39, eo39⟩ := Kd.R_slice HO269.out; subst eo39; have p270 : 0 ≤ (0 : Int) := (by omega); have q270 : 0 < (t267.length : Int) := of_decide_eq_true (by first | (with_reducible assumption) | assumption); obtain ⟨ad270, e270, hx270_0⟩ := Kd.at_int (Kd.R_reads' HO269.out).2.2 0 p270 q270; cases e270; have qi270 : (0 < t267.length) = True := eq_true (by omega); (try rw [show ((0 : Int)).toNat = 0 from rfl] at hx270_0); (try rw [Addr.add_zero'] at hx270_0); replace p270 := eq_true p270; replace q270 := eq_true q270; have p271 : 0 ≤ ((ji23) : Int) := of_decide_eq_true (by first | (with_reducible assumption) | assumption); have q271 : (ji23) < (t267.length : Int) := of_decide_eq_true (by first | (with_reducible assumption) | assumption); obtain ⟨ad271, e271, hx271_0⟩ := Kd.at_int (Kd.R_reads' HO269.out).2.2 (ji23) p271 q271; obtain rfl : ad270 = ad271 := (by injection e271); replace p271 := eq_true p271; replace q271 := eq_true q271; have p272 : 0 ≤ ((ji26) : Int) := of_decide_eq_true (by first | (with_reducible assumption) | assumption); have q272 : (ji26) < (l0.length : Int) := of_decide_eq_true (by first | (with_reducible assumption) | assumption); obtain ⟨ad272, e272, hx272_0⟩ := Kd.at_int HR0.out (ji26) p272 q272; cases e272; replace hx272_0 := (HB.out.cell (World.block_lt_of_cell? w _ hx272_0)).trans hx272_0; replace p272 := eq_true p272; replace q272 := eq_true q272) | (go_at_call 21; (with_reducible refine (justify_Across.calls 2 a3 a1 t273 _ A29.out).mono ?_); rintro e w40 ⟨rfl, hb⟩; have n0_ := Aside0.mk (Kd.R_below (by (with_reducible repeat (first | apply Kd.R_alloc | apply Kd.R_drewN | apply Kd.R_drew)); exact HO269.out) hb); have n1_ := Aside0.mk (below_step (by repeat (first | (with_reducible first | exact HB.out | apply below_alloc | apply pw_below_drewN | apply below_drew1) | exact HB.out)) hb); clear HO269; clear HB; have HO269 := n0_; have HB := n1_; clear n0_ n1_; (try clear hb); (try clear hb2); (try clear hk); (try clear hi)) | (go_at_call 21; (with_reducible refine (justify_Across.calls 1 a3 a1 t274 _ A35.out).mono ?_); rintro e w41 ⟨rfl, hb⟩; have n0_ := Aside0.mk (Kd.R_below (by (with_reducible repeat (first | apply Kd.R_alloc | apply Kd.R_drewN | apply Kd.R_drew)); exact HO269.out) hb); have n1_ := Aside0.mk (below_step (by repeat (first | (with_reducible first | exact HB.out | apply below_alloc | apply pw_below_drewN | apply below_drew1) | exact HB.out)) hb); clear HO269; clear HB; have HO269 := n0_; have HB := n1_; clear n0_ n1_; (try clear hb); (try clear hb2); (try clear hk); (try clear hi)) | (go_at_call 21; (with_reducible refine (justify_Across.calls 3 a3 a1 t275 _ A37.out).mono ?_); rintro e w42 ⟨rfl, hb⟩; have n0_ := Aside0.mk (Kd.R_below (by (with_reducible repeat (first | apply Kd.R_alloc | apply Kd.R_drewN | apply Kd.R_drew)); exact HO269.out) hb); have n1_ := Aside0.mk (below_step (by repeat (first | (with_reducible first | exact HB.out | apply below_alloc | apply pw_below_drewN | apply below_drew1) | exact HB.out)) hb); clear HO269; clear HB; have HO269 := n0_; have HB := n1_; clear n0_ n1_; (try clear hb); (try clear hb2); (try clear hk); (try clear hi)))
                                      repeat (go_quiet (first | (go_at_call 16; (with_reducible refine (justify_Starts.calls k2 2 _ _ l0 a1 a2 t267 _ ?side1 ?side2 A21.out).mono ?_); (case side1 => repeat (first | exact (Kd.C_below HR0.out HB.out) | (with_reducible refine Kd.C_alloc ?_ _) | (with_reducible refine Kd.C_drewN ?_ _) | (with_reducible refine Kd.C_drew ?_))); (case side2 => exact HC0.out); rintro e w38 ⟨v268, rfl, ho0, hb⟩; have n0_ := Aside0.mk (Kd.R_lower ho0 (below_size (by repeat (first | (with_reducible first | exact HB.out | apply below_alloc | apply pw_below_drewN | apply below_drew1) | exact HB.out)))); have n1_ := Aside0.mk (below_step (by repeat (first | (with_reducible first | exact HB.out | apply below_alloc | apply pw_below_drewN | apply below_drew1) | exact HB.out)) hb); clear HB; have HO269 := n0_; have HB := n1_; clear n0_ n1_; (try clear hb); (try clear hb2); (try clear hk); (try clear hi); (try clear ho0); obtain ⟨Ao39, co39, eo39⟩ := Kd.R_slice HO269.out; subst eo39; have p270 : 0 ≤ (0 : Int) := (by omega); have q270 : 0 < (t267.length : Int) := of_decide_eq_true (by first | (with_reducible assumption) | assumption); obtain ⟨ad270, e270, hx270_0⟩ := Kd.at_int (Kd.R_reads' HO269.out).2.2 0 p270 q270; cases e270; have qi270 : (0 < t267.length) = True := eq_true (by omega); (try rw [show ((0 : Int)).toNat = 0 from rfl] at hx270_0); (try rw [Addr.add_zero'] at hx270_0); replace p270 := eq_true p270; replace q270 := eq_true q270; have p271 : 0 ≤ ((ji23) : Int) := of_decide_eq_true (by first | (with_reducible assumption) | assumption); have q271 : (ji23) < (t267.length : Int) := of_decide_eq_true (by first | (with_reducible assumption) | assumption); obtain ⟨ad271, e271, hx271_0⟩ := Kd.at_int (Kd.R_reads' HO269.out).2.2 (ji23) p271 q271; obtain rfl : ad270 = ad271 := (by injection e271); replace p271 := eq_true p271; replace q271 := eq_true q271; have p272 : 0 ≤ ((ji26) : Int) := of_decide_eq_true (by first | (with_reducible assumption) | assumption); have q272 : (ji26) < (l0.length : Int) := of_decide_eq_true (by first | (with_reducible assumption) | assumption); obtain ⟨ad272, e272, hx272_0⟩ := Kd.at_int HR0.out (ji26) p272 q272; cases e272; replace hx272_0 := (HB.out.cell (World.block_lt_of_cell? w _ hx272_0)).trans hx272_0; replace p272 := eq_true p272; replace q272 := eq_true q272) | (go_at_call 21; (with_reducible refine (justify_Across.calls 2 a3 a1 t273 _ A29.out).mono ?_); rintro e w40 ⟨rfl, hb⟩; have n0_ := Aside0.mk (Kd.R_below (by (with_reducible repeat (first | apply Kd.R_alloc | apply Kd.R_drewN | apply Kd.R_drew)); exact HO269.out) hb); have n1_ := Aside0.mk (below_step (by repeat (first | (with_reducible first | exact HB.out | apply below_alloc | apply pw_below_drewN | apply below_drew1) | exact HB.out)) hb); clear HO269; clear HB; have HO269 := n0_; have HB := n1_; clear n0_ n1_; (try clear hb); (try clear hb2); (try clear hk); (try clear hi)) | (go_at_call 21; (with_reducible refine (justify_Across.calls 1 a3 a1 t274 _ A35.out).mono ?_); rintro e w41 ⟨rfl, hb⟩; have n0_ := Aside0.mk (Kd.R_below (by (with_reducible repeat (first | apply Kd.R_alloc | apply Kd.R_drewN | apply Kd.R_drew)); exact HO269.out) hb); have n1_ := Aside0.mk (below_step (by repeat (first | (with_reducible first | exact HB.out | apply below_alloc | apply pw_below_drewN | apply below_drew1) | exact HB.out)) hb); clear HO269; clear HB; have HO269 := n0_; have HB := n1_; clear n0_ n1_; (try clear hb); (try clear hb2); (try clear hk); (try clear hi)) | (go_at_call 21; (with_reducible refine (justify_Across.calls 3 a3 a1 t275 _ A37.out).mono ?_); rintro e w42 ⟨rfl, hb⟩; have n0_ := Aside0.mk (Kd.R_below (by (with_reducible repeat (first | apply Kd.R_alloc | apply Kd.R_drewN | apply Kd.R_drew)); exact HO269.out) hb); have n1_ := Aside0.mk (below_step (by repeat (first | (with_reducible first | exact HB.out | apply below_alloc | apply pw_below_drewN | apply below_drew1) | exact HB.out)) hb); clear HO269; clear HB; have HO269 := n0_; have HB := n1_; clear n0_ n1_; (try clear hb); (try clear hb2); (try clear hk); (try clear hi))); try go_wp2_with (first | (go_at_call 16; (with_reducible refine (justify_Starts.calls k2 2 _ _ l0 a1 a2 t267 _ ?side1 ?side2 A21.out).mono ?_); (case side1 => repeat (first | exact (Kd.C_below HR0.out HB.out) | (with_reducible refine Kd.C_alloc ?_ _) | (with_reducible refine Kd.C_drewN ?_ _) | (with_reducible refine Kd.C_drew ?_))); (case side2 => exact HC0.out); rintro e w38 ⟨v268, rfl, ho0, hb⟩; have n0_ := Aside0.mk (Kd.R_lower ho0 (below_size (by repeat (first | (with_reducible first | exact HB.out | apply below_alloc | apply pw_below_drewN | apply below_drew1) | exact HB.out)))); have n1_ := Aside0.mk (below_step (by repeat (first | (with_reducible first | exact HB.out | apply below_alloc | apply pw_below_drewN | apply below_drew1) | exact HB.out)) hb); clear HB; have HO269 := n0_; have HB := n1_; clear n0_ n1_; (try clear hb); (try clear hb2); (try clear hk); (try clear hi); (try clear ho0); obtain ⟨Ao39, co39, eo39⟩ := Kd.R_slice HO269.out; subst eo39; have p270 : 0 ≤ (0 : Int) := (by omega); have q270 : 0 < (t267.length : Int) := of_decide_eq_true (by first | (with_reducible assumption) | assumption); obtain ⟨ad270, e270, hx270_0⟩ := Kd.at_int (Kd.R_reads' HO269.out).2.2 0 p270 q270; cases e270; have qi270 : (0 < t267.length) = True := eq_true (by omega); (try rw [show ((0 : Int)).toNat = 0 from rfl] at hx270_0); (try rw [Addr.add_zero'] at hx270_0); replace p270 := eq_true p270; replace q270 := eq_true q270; have p271 : 0 ≤ ((ji23) : Int) := of_decide_eq_true (by first | (with_reducible assumption) | assumption); have q271 : (ji23) < (t267.length : Int) := of_decide_eq_true (by first | (with_reducible assumption) | assumption); obtain ⟨ad271, e271, hx271_0⟩ := Kd.at_int (Kd.R_reads' HO269.out).2.2 (ji23) p271 q271; obtain rfl : ad270 = ad271 := (by injection e271); replace p271 := eq_true p271; replace q271 := eq_true q271; have p272 : 0 ≤ ((ji26) : Int) := of_decide_eq_true (by first | (with_reducible assumption) | assumption); have q272 : (ji26) < (l0.length : Int) := of_decide_eq_true (by first | (with_reducible assumption) | assumption); obtain ⟨ad272, e272, hx272_0⟩ := Kd.at_int HR0.out (ji26) p272 q272; cases e272; replace hx272_0 := (HB.out.cell (World.block_lt_of_cell? w _ hx272_0)).trans hx272_0; replace p272 := eq_true p272; replace q272 := eq_true q272) | (go_at_call 21; (with_reducible refine (justify_Across.calls 2 a3 a1 t273 _ A29.out).mono ?_); rintro e w40 ⟨rfl, hb⟩; have n0_ := Aside0.mk (Kd.R_below (by (with_reducible repeat (first | apply Kd.R_alloc | apply Kd.R_drewN | apply Kd.R_drew)); exact HO269.out) hb); have n1_ := Aside0.mk (below_step (by repeat (first | (with_reducible first | exact HB.out | apply below_alloc | apply pw_below_drewN | apply below_drew1) | exact HB.out)) hb); clear HO269; clear HB; have HO269 := n0_; have HB := n1_; clear n0_ n1_; (try clear hb); (try clear hb2); (try clear hk); (try clear hi)) | (go_at_call 21; (with_reducible refine (justify_Across.calls 1 a3 a1 t274 _ A35.out).mono ?_); rintro e w41 ⟨rfl, hb⟩; have n0_ := Aside0.mk (Kd.R_below (by (with_reducible repeat (first | apply Kd.R_alloc | apply Kd.R_drewN | apply Kd.R_drew)); exact HO269.out) hb); have n1_ := Aside0.mk (below_step (by repeat (first | (with_reducible first | exact HB.out | apply below_alloc | apply pw_below_drewN | apply below_drew1) | exact HB.out)) hb); clear HO269; clear HB; have HO269 := n0_; have HB := n1_; clear n0_ n1_; (try clear hb); (try clear hb2); (try clear hk); (try clear hi)) | (go_at_call 21; (with_reducible refine (justify_Across.calls 3 a3 a1 t275 _ A37.out).mono ?_); rintro e w42 ⟨rfl, hb⟩; have n0_ := Aside0.mk (Kd.R_below (by (with_reducible repeat (first | apply Kd.R_alloc | apply Kd.R_drewN | apply Kd.R_drew)); exact HO269.out) hb); have n1_ := Aside0.mk (below_step (by repeat (first | (with_reducible first | exact HB.out | apply below_alloc | apply pw_below_drewN | apply below_drew1) | exact HB.out)) hb); clear HO269; clear HB; have HO269 := n0_; have HB := n1_; clear n0_ n1_; (try clear hb); (try clear hb2); (try clear hk); (try clear hi))))
                                      go_ret
                                      exact ⟨by first | rfl | (simp [errW_none, errW_some] <;> rfl) | (simp only [← hji23, ← hji26]; first | rfl | (simp [errW_none, errW_some] <;> rfl)) | (simp [*, errW_none, errW_some] <;> rfl), by repeat (first | (with_reducible first | exact HB.out | apply below_alloc | apply pw_below_drewN | apply below_drew1) | exact HB.out)⟩
                                    · rw [if_neg c36] at H
                                      exact absurd H (by simp)
                                  · rw [if_neg c34] at H
                                    exact absurd H (by simp)
                                · rw [if_neg c33] at H
                                  exact absurd H (by simp)
                              · rw [if_neg c32] at H
                                exact absurd H (by simp)
                            · rw [if_neg c31] at H
                              exact absurd H (by simp)
                          · exact absurd rfl c30
                        · rw [if_neg c28] at H
                          exact absurd H (by simp)
                      · rw [if_neg c27] at H
                        exact absurd H (by simp)
                    · rw [if_neg c25] at H
                      exact absurd H (by simp)
                  · rw [if_neg c24] at H
                    exact absurd H (by simp)
                · rw [if_neg c22] at H
                  exact absurd H (by simp)
  · replace c6 := Bool.eq_false_iff.mpr c6
    subst c6
    have H1 : (none) = some r := by rw [if_neg (show ¬ (false = true) by decide)] at H; exact H
    clear H
    have H := H1
    clear H1
    exact absurd H (by simp)

/-- THE ONE PURE STATEMENT of valancelaw09_JustifyCenter: yours. -/
def valancelaw09_JustifyCenter.Pure : Prop := ∀ (l0 : List Int) (a1 : Int) (a2 : Int) (a3 : Int), l0.length ≤ maxLen → l0.length * 8 ≤ 140737488351232 → (∀ x ∈ l0, (Lit.int .i64 x).wf = true) → (Lit.int .i64 a1).wf = true → (Lit.int .i64 a2).wf = true → (Lit.int .i64 a3).wf = true → ∃ k, valancelaw09_JustifyCenter.f k l0 a1 a2 a3 = some true
theorem valancelaw09_JustifyCenter.walk (P : valancelaw09_JustifyCenter.Pure) (a0 : Option Addr) (len0 cap0 : Nat) (z0 : List Int) (a1 : Int) (a2 : Int) (a3 : Int) (w : World) (w0 : (a0 = none ∧ len0 = 0 ∧ cap0 = 0 ∧ z0 = []) ∨ ∃ x, a0 = some x ∧ len0 ≤ cap0 ∧ cap0 ≤ maxLen ∧ z0.length = cap0 ∧ (∀ i, i < z0.length → w.cell? (x.add i) = some (.int .i64 (z0.getD i 0))) ∧ ∀ n ∈ z0, (Lit.int .i64 n).wf = true) (y0 : len0 * 8 ≤ 140737488351232) (w1 : (Lit.int .i64 a1).wf = true) (w2 : (Lit.int .i64 a2).wf = true) (w3 : (Lit.int .i64 a3).wf = true) :
    Calls Try.prog 6 #[.slice a0 len0 cap0, .int .i64 a1, .int .i64 a2, .int .i64 a3] w fun e w' => e = .returned (.bool true) ∧ Below w.heap.size w w' := by
  obtain ⟨l0, rfl, hr0, hm0, hw0, hc0⟩ := ReadsInt.ofRowC w0
  obtain ⟨k, h⟩ := P l0 a1 a2 a3 hm0 y0 hw0 w1 w2 w3
  refine (valancelaw09_JustifyCenter.calls k _ _ l0 a1 a2 a3 true w (Kd.C_of_reads (d := (0 : Int)) (h1 := fun _ => rfl) hr0) hc0 h).mono ?_
  rintro e w' ⟨rfl, hd⟩
  exact ⟨rfl, hd⟩

end Go.Proofs.Ytnmcefpnpfaklad.V
