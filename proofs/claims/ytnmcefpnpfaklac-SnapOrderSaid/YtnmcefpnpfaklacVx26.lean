/- What the functions of this seat answer, as plain Lean functions, and that the calls come to just that (written by a program of this repo, over the kit's printer; Lean checks it). -/
import Derived.Test.YtnmcefpnpfaklacVx0
import Derived.Test.YtnmcefpnpfaklacVx5
import Derived.Test.YtnmcefpnpfaklacVx9
import Derived.Test.YtnmcefpnpfaklacVx10
namespace Go.Proofs.Ytnmcefpnpfaklac.V
open Go.RowKit Go.Proofs.YtnmcefpnpfaklacW.PrintWords Go.Proofs.YtnmcefpnpfaklacW.PrintLast Go.Proofs.YtnmcefpnpfaklacW.PrintMore
attribute [local go_sem] max2_int min2_int max_two min_two max_three min_three max_four min_four   -- for this text's walks alone
set_option linter.unusedVariables false
set_option linter.unusedSimpArgs false

/-! ### valancelaw11_SnapOrder: function 6 -/
def valancelaw11_SnapOrder.j0 : Nat → List (S33) → Int → Int → Int → Int → Bool → Bool → Int → Int → Int → Option (Bool)
  | 0, _, _, _, _, _, _, _, _, _, _ => none
  | k + 1, x0, x2, x3, x4, x5, x13, x56, x232000, x232001, x232002 => if x56 = true then (some x13) else ((snap_Rest.f 1 x0 x2 x3 x4).bind fun t236 => ((snap_Rest.f 1 x0 x2 x3 (wrap64 (x4 + x5))).bind fun t237 => (if ([] : List (S33)).length + x0.length < 5864062014805 then ((some (([] : List (S33)) ++ x0 : List (S33))).bind fun y238 => (if y238.length < 5864062014805 then ((snap_Rest.f 1 (y238 ++ [(⟨(⟨x232000, x232001⟩ : S30), x232002⟩ : S33)]) x2 x3 x4).bind fun t244 => (if x13 = true then (if t236 ≤ t237 then (some (decide ((mx (wrap64 (t244 - x4)) (wrap64 (x4 - t244))) ≤ (mx (wrap64 (t236 - x4)) (wrap64 (x4 - t236)))))) else (none)) else (none))) else (none))) else (none))))
def valancelaw11_SnapOrder.f (k : Nat) (l0 : List (S33)) (a1_0 : Int) (a1_1 : Int) (a1_2 : Int) (a2 : Int) (a3 : Int) (a4 : Int) (a5 : Int) : Option (Bool) := (valancelaw11_works.f).bind fun t232 => (if t232 = true then (if (l0.length : Int) > 300 then (valancelaw11_SnapOrder.j0 k l0 a2 a3 a4 a5 t232 true a1_0 a1_1 a1_2) else (if a3 < 0 then (valancelaw11_SnapOrder.j0 k l0 a2 a3 a4 a5 t232 true a1_0 a1_1 a1_2) else (if a3 > 1073741824 then (valancelaw11_SnapOrder.j0 k l0 a2 a3 a4 a5 t232 true a1_0 a1_1 a1_2) else (if a4 < 0 then (valancelaw11_SnapOrder.j0 k l0 a2 a3 a4 a5 t232 true a1_0 a1_1 a1_2) else (if a4 > a3 then (valancelaw11_SnapOrder.j0 k l0 a2 a3 a4 a5 t232 true a1_0 a1_1 a1_2) else (if a5 < 0 then (valancelaw11_SnapOrder.j0 k l0 a2 a3 a4 a5 t232 true a1_0 a1_1 a1_2) else (if a5 > 1073741824 then (valancelaw11_SnapOrder.j0 k l0 a2 a3 a4 a5 t232 true a1_0 a1_1 a1_2) else ((snap_Stops.f l0 a2 a3).bind fun t233 => (valancelaw11_SnapOrder.j0 k l0 a2 a3 a4 a5 t232 ((t233.length : Int) == 0) a1_0 a1_1 a1_2))))))))) else (none))
theorem valancelaw11_SnapOrder.mono_l : ∀ k, (∀ y0 y1 y2 y3 y4 y5 y6 y7 y8 y9, LeO (valancelaw11_SnapOrder.j0 k y0 y1 y2 y3 y4 y5 y6 y7 y8 y9) (valancelaw11_SnapOrder.j0 (k + 1) y0 y1 y2 y3 y4 y5 y6 y7 y8 y9))
  | 0 => fun _ _ _ _ _ _ _ _ _ _ r h => by simp [valancelaw11_SnapOrder.j0] at h
  | k + 1 => by
    have ih0 := valancelaw11_SnapOrder.mono_l k
    · intro y0 y1 y2 y3 y4 y5 y6 y7 y8 y9
      unfold valancelaw11_SnapOrder.j0
      repeat' first
      | (with_reducible exact ih0 _ _ _ _ _ _ _ _ _ _)
      | (with_reducible exact LeO.refl _)
      | (with_reducible exact LeO.none _)
      | (with_reducible refine LeO.ite ?_ ?_)
      | (with_reducible refine LeO.bind ?_ (fun _ => ?_))
      | exact ih0 _ _ _ _ _ _ _ _ _ _
      | exact LeO.none _
      | refine LeO.ite ?_ ?_
      | refine LeO.bind ?_ (fun _ => ?_)
theorem valancelaw11_SnapOrder.mono : ∀ a0 a1 a2 a3 a4 a5 a6 a7 k, LeO (valancelaw11_SnapOrder.f k a0 a1 a2 a3 a4 a5 a6 a7) (valancelaw11_SnapOrder.f (k + 1) a0 a1 a2 a3 a4 a5 a6 a7) := by
  intro a0 a1 a2 a3 a4 a5 a6 a7 k
  have ih0 := valancelaw11_SnapOrder.mono_l k
  unfold valancelaw11_SnapOrder.f
  repeat' first
      | (with_reducible exact ih0 _ _ _ _ _ _ _ _ _ _)
      | (with_reducible exact LeO.refl _)
      | (with_reducible exact LeO.none _)
      | (with_reducible refine LeO.ite ?_ ?_)
      | (with_reducible refine LeO.bind ?_ (fun _ => ?_))
      | exact ih0 _ _ _ _ _ _ _ _ _ _
      | exact LeO.none _
      | refine LeO.ite ?_ ?_
      | refine LeO.bind ?_ (fun _ => ?_)
set_option maxHeartbeats 8000000 in
set_option maxRecDepth 100000 in
theorem valancelaw11_SnapOrder.calls (k : Nat) (A0 : Option Addr) (c0 : Nat) (l0 : List (S33)) (a1_0 : Int) (a1_1 : Int) (a1_2 : Int) (a2 : Int) (a3 : Int) (a4 : Int) (a5 : Int) (r : Bool) (w : World) (hr0 : Kd.C k33 w A0 l0.length l0) (hc0 : l0.length ≤ c0) (h : valancelaw11_SnapOrder.f k l0 a1_0 a1_1 a1_2 a2 a3 a4 a5 = some r) :
    Calls Try.prog 6 #[.slice A0 l0.length c0, .agg #[.int .i64 a1_0, .int .i64 a1_1, .int .i64 a1_2], .int .i64 a2, .int .i64 a3, .int .i64 a4, .int .i64 a5] w fun e w' => e = .returned (.bool r) ∧ Below w.heap.size w w' := by
  have hu33 := Try.underlying33
  have HR0 := Aside0.mk hr0
  have HC0 := Aside0.mk hc0
  clear hr0 hc0
  have HB := Aside0.mk (Below.refl w.heap.size w)
  have H : ((valancelaw11_works.f).bind fun t232 => (if t232 = true then (if (l0.length : Int) > 300 then (valancelaw11_SnapOrder.j0 k l0 a2 a3 a4 a5 t232 true a1_0 a1_1 a1_2) else (if a3 < 0 then (valancelaw11_SnapOrder.j0 k l0 a2 a3 a4 a5 t232 true a1_0 a1_1 a1_2) else (if a3 > 1073741824 then (valancelaw11_SnapOrder.j0 k l0 a2 a3 a4 a5 t232 true a1_0 a1_1 a1_2) else (if a4 < 0 then (valancelaw11_SnapOrder.j0 k l0 a2 a3 a4 a5 t232 true a1_0 a1_1 a1_2) else (if a4 > a3 then (valancelaw11_SnapOrder.j0 k l0 a2 a3 a4 a5 t232 true a1_0 a1_1 a1_2) else (if a5 < 0 then (valancelaw11_SnapOrder.j0 k l0 a2 a3 a4 a5 t232 true a1_0 a1_1 a1_2) else (if a5 > 1073741824 then (valancelaw11_SnapOrder.j0 k l0 a2 a3 a4 a5 t232 true a1_0 a1_1 a1_2) else ((snap_Stops.f l0 a2 a3).bind fun t233 => (valancelaw11_SnapOrder.j0 k l0 a2 a3 a4 a5 t232 ((t233.length : Int) == 0) a1_0 a1_1 a1_2))))))))) else (none))) = some r := h
  clear h
  replace H := Option.bind_eq_some_iff.mp H
  obtain ⟨t232, A70, H⟩ := H
  replace H : (if t232 = true then (if (l0.length : Int) > 300 then (valancelaw11_SnapOrder.j0 k l0 a2 a3 a4 a5 t232 true a1_0 a1_1 a1_2) else (if a3 < 0 then (valancelaw11_SnapOrder.j0 k l0 a2 a3 a4 a5 t232 true a1_0 a1_1 a1_2) else (if a3 > 1073741824 then (valancelaw11_SnapOrder.j0 k l0 a2 a3 a4 a5 t232 true a1_0 a1_1 a1_2) else (if a4 < 0 then (valancelaw11_SnapOrder.j0 k l0 a2 a3 a4 a5 t232 true a1_0 a1_1 a1_2) else (if a4 > a3 then (valancelaw11_SnapOrder.j0 k l0 a2 a3 a4 a5 t232 true a1_0 a1_1 a1_2) else (if a5 < 0 then (valancelaw11_SnapOrder.j0 k l0 a2 a3 a4 a5 t232 true a1_0 a1_1 a1_2) else (if a5 > 1073741824 then (valancelaw11_SnapOrder.j0 k l0 a2 a3 a4 a5 t232 true a1_0 a1_1 a1_2) else ((snap_Stops.f l0 a2 a3).bind fun t233 => (valancelaw11_SnapOrder.j0 k l0 a2 a3 a4 a5 t232 ((t233.length : Int) == 0) a1_0 a1_1 a1_2))))))))) else (none)) = some r := H
  have A7 := Aside0.mk A70
  clear A70
  by_cases c8 : t232 = true
  · subst c8
    have H1 : (if (l0.length : Int) > 300 then (valancelaw11_SnapOrder.j0 k l0 a2 a3 a4 a5 true true a1_0 a1_1 a1_2) else (if a3 < 0 then (valancelaw11_SnapOrder.j0 k l0 a2 a3 a4 a5 true true a1_0 a1_1 a1_2) else (if a3 > 1073741824 then (valancelaw11_SnapOrder.j0 k l0 a2 a3 a4 a5 true true a1_0 a1_1 a1_2) else (if a4 < 0 then (valancelaw11_SnapOrder.j0 k l0 a2 a3 a4 a5 true true a1_0 a1_1 a1_2) else (if a4 > a3 then (valancelaw11_SnapOrder.j0 k l0 a2 a3 a4 a5 true true a1_0 a1_1 a1_2) else (if a5 < 0 then (valancelaw11_SnapOrder.j0 k l0 a2 a3 a4 a5 true true a1_0 a1_1 a1_2) else (if a5 > 1073741824 then (valancelaw11_SnapOrder.j0 k l0 a2 a3 a4 a5 true true a1_0 a1_1 a1_2) else ((snap_Stops.f l0 a2 a3).bind fun t233 => (valancelaw11_SnapOrder.j0 k l0 a2 a3 a4 a5 true ((t233.length : Int) == 0) a1_0 a1_1 a1_2))))))))) = some r := by rw [if_pos rfl] at H; exact H
    clear H
    have H := H1
    clear H1
    have HC9 := Aside0.mk H
    clear H
    go_enter Try.func6, Try.ntmps6
    go_upto_region 4 with (first | ((with_reducible refine gate_dst (N := 7) rfl ?_); (try (refine gate_guard (by rfl) ?_; dsimp only)); refine box_event ?hg (N := 7) ?hd (cs := #[.int .i64 a1_0, .int .i64 a1_1, .int .i64 a1_2]) (t := 33) ?hr ?_; (case hd => rfl); (case hg => rfl); (case hr => first | (go_simp; done) | (go_simp; rfl)); intro gb231 hg w10 hbox hb; have n0_ := Aside0.mk (below_step (by repeat (first | (with_reducible first | exact HB.out | apply below_alloc | apply pw_below_drewN | apply below_drew1) | exact HB.out)) hb); have n1_ := Aside0.mk (hbox); have n2_ := Aside0.mk ((by rw [hg]; exact (below_size (by repeat (first | (with_reducible first | exact HB.out | apply below_alloc | apply pw_below_drewN | apply below_drew1) | exact HB.out))) : w.heap.size ≤ gb231)); have n3_ := Aside0.mk ((by rw [hg]; exact (below_size (by repeat (first | (with_reducible first | exact HB.out | apply below_alloc | apply pw_below_drewN | apply below_drew1) | exact HB.out))) : w.heap.size ≤ gb231)); clear HB; have HB := n0_; have BK231 := n1_; have GW231 := n2_; have GE231 := n3_; clear n0_ n1_ n2_ n3_; clear hb hbox hg) | ((with_reducible refine gate_callee (f := 15) rfl ?_); refine goesL_ (some 18) rfl rfl Try.func15 (by kernel_rfl) rfl #[] rfl (by (try simp only [List.map_toArray, List.map_cons, List.map_nil]); first | done | rfl | (simp only [List.length_drop, List.length_take]; rfl)) ?_; (with_reducible refine (valancelaw11_works.calls  true _ A7.out).mono ?_); rintro e w11 ⟨rfl, hb⟩; refine ⟨_, rfl, ?_⟩; have n0_ := Aside0.mk (blk_below (g := gb231) (o := .cells #[.int .i64 a1_0, .int .i64 a1_1, .int .i64 a1_2] 33 (0, 0)) (by (with_reducible repeat (first | refine blk_drewN ?_ _ | refine blk_drew ?_ | refine blk_alloc ?_ _)); exact BK231.out) hb); have n1_ := Aside0.mk (below_step (by repeat (first | (with_reducible first | exact HB.out | apply below_alloc | apply pw_below_drewN | apply below_drew1 | refine below_set ?_ GE231.out) | exact HB.out)) hb); clear BK231; clear HB; have BK231 := n0_; have HB := n1_; clear n0_ n1_; (try clear hb); (try clear hb2); (try clear hk); (try clear hi)))
    (try simp only [Act.put, List.setIfInBounds_toArray, List.set_cons_zero, List.set_cons_succ])
    go_cut [56] (fun v56 wc => ∃ (kq : Nat) (x56_8 : Bool), v56 = .bool x56_8 ∧ Aside0 (valancelaw11_SnapOrder.j0 kq l0 a2 a3 a4 a5 true x56_8 a1_0 a1_1 a1_2 = some r) ∧ Aside0 (kq ≤ k) ∧ Aside0 (wc.heap[gb231]? = some (.cells #[.int .i64 a1_0, .int .i64 a1_1, .int .i64 a1_2] 33 (0, 0))) ∧ Aside0 (Below w.heap.size w wc))
    case first =>
      have H := HC9.out
      clear HC9
      by_cases c12 : (l0.length : Int) > 300
      · rw [if_pos c12] at H
        have c12b0 : decide (300 < (l0.length : Int)) = true := decide_eq_true c12
        have c12b1 : decide (300 < l0.length) = true := decide_eq_true (by omega)
        clear c12
        (first | rw [c12b0] | (simp only [i64_w, i32_w]; rw [c12b0]) | skip)
        have H' := Aside0.mk H
        clear H
        go_wp2
        go_meet
        case rel => exact ⟨_, (true), (by first | rfl | (simp; done) | (simp [*]; done)), H', ⟨by first | omega | exact Nat.le_refl _⟩, ⟨by (with_reducible repeat (first | refine blk_drewN ?_ _ | refine blk_drew ?_ | refine blk_alloc ?_ _)); exact BK231.out⟩, ⟨by repeat (first | (with_reducible first | exact HB.out | apply below_alloc | apply pw_below_drewN | apply below_drew1 | refine below_set ?_ GE231.out) | exact HB.out)⟩⟩
      · rw [if_neg c12] at H
        have c12b0 : decide (300 < (l0.length : Int)) = false := decide_eq_false c12
        have c12b1 : decide (300 < l0.length) = false := decide_eq_false (by omega)
        clear c12
        (first | rw [c12b0] | (simp only [i64_w, i32_w]; rw [c12b0]) | skip)
        by_cases c13 : a3 < 0
        · rw [if_pos c13] at H
          have c13b0 : decide (a3 < 0) = true := decide_eq_true c13
          clear c13
          have H' := Aside0.mk H
          clear H
          go_wp2
          go_meet
          case rel => exact ⟨_, (true), (by first | rfl | (simp; done) | (simp [*]; done)), H', ⟨by first | omega | exact Nat.le_refl _⟩, ⟨by (with_reducible repeat (first | refine blk_drewN ?_ _ | refine blk_drew ?_ | refine blk_alloc ?_ _)); exact BK231.out⟩, ⟨by repeat (first | (with_reducible first | exact HB.out | apply below_alloc | apply pw_below_drewN | apply below_drew1 | refine below_set ?_ GE231.out) | exact HB.out)⟩⟩
        · rw [if_neg c13] at H
          have c13b0 : decide (a3 < 0) = false := decide_eq_false c13
          clear c13
          by_cases c14 : a3 > 1073741824
          · rw [if_pos c14] at H
            have c14b0 : decide (1073741824 < a3) = true := decide_eq_true c14
            clear c14
            have H' := Aside0.mk H
            clear H
            go_wp2
            go_meet
            case rel => exact ⟨_, (true), (by first | rfl | (simp; done) | (simp [*]; done)), H', ⟨by first | omega | exact Nat.le_refl _⟩, ⟨by (with_reducible repeat (first | refine blk_drewN ?_ _ | refine blk_drew ?_ | refine blk_alloc ?_ _)); exact BK231.out⟩, ⟨by repeat (first | (with_reducible first | exact HB.out | apply below_alloc | apply pw_below_drewN | apply below_drew1 | refine below_set ?_ GE231.out) | exact HB.out)⟩⟩
          · rw [if_neg c14] at H
            have c14b0 : decide (1073741824 < a3) = false := decide_eq_false c14
            clear c14
            by_cases c15 : a4 < 0
            · rw [if_pos c15] at H
              have c15b0 : decide (a4 < 0) = true := decide_eq_true c15
              clear c15
              have H' := Aside0.mk H
              clear H
              go_wp2
              go_meet
              case rel => exact ⟨_, (true), (by first | rfl | (simp; done) | (simp [*]; done)), H', ⟨by first | omega | exact Nat.le_refl _⟩, ⟨by (with_reducible repeat (first | refine blk_drewN ?_ _ | refine blk_drew ?_ | refine blk_alloc ?_ _)); exact BK231.out⟩, ⟨by repeat (first | (with_reducible first | exact HB.out | apply below_alloc | apply pw_below_drewN | apply below_drew1 | refine below_set ?_ GE231.out) | exact HB.out)⟩⟩
            · rw [if_neg c15] at H
              have c15b0 : decide (a4 < 0) = false := decide_eq_false c15
              clear c15
              by_cases c16 : a4 > a3
              · rw [if_pos c16] at H
                have c16b0 : decide (a3 < a4) = true := decide_eq_true c16
                clear c16
                have H' := Aside0.mk H
                clear H
                go_wp2
                go_meet
                case rel => exact ⟨_, (true), (by first | rfl | (simp; done) | (simp [*]; done)), H', ⟨by first | omega | exact Nat.le_refl _⟩, ⟨by (with_reducible repeat (first | refine blk_drewN ?_ _ | refine blk_drew ?_ | refine blk_alloc ?_ _)); exact BK231.out⟩, ⟨by repeat (first | (with_reducible first | exact HB.out | apply below_alloc | apply pw_below_drewN | apply below_drew1 | refine below_set ?_ GE231.out) | exact HB.out)⟩⟩
              · rw [if_neg c16] at H
                have c16b0 : decide (a3 < a4) = false := decide_eq_false c16
                clear c16
                by_cases c17 : a5 < 0
                · rw [if_pos c17] at H
                  have c17b0 : decide (a5 < 0) = true := decide_eq_true c17
                  clear c17
                  have H' := Aside0.mk H
                  clear H
                  go_wp2
                  go_meet
                  case rel => exact ⟨_, (true), (by first | rfl | (simp; done) | (simp [*]; done)), H', ⟨by first | omega | exact Nat.le_refl _⟩, ⟨by (with_reducible repeat (first | refine blk_drewN ?_ _ | refine blk_drew ?_ | refine blk_alloc ?_ _)); exact BK231.out⟩, ⟨by repeat (first | (with_reducible first | exact HB.out | apply below_alloc | apply pw_below_drewN | apply below_drew1 | refine below_set ?_ GE231.out) | exact HB.out)⟩⟩
                · rw [if_neg c17] at H
                  have c17b0 : decide (a5 < 0) = false := decide_eq_false c17
                  clear c17
                  by_cases c18 : a5 > 1073741824
                  · rw [if_pos c18] at H
                    have c18b0 : decide (1073741824 < a5) = true := decide_eq_true c18
                    clear c18
                    have H' := Aside0.mk H
                    clear H
                    go_wp2
                    go_meet
                    case rel => exact ⟨_, (true), (by first | rfl | (simp; done) | (simp [*]; done)), H', ⟨by first | omega | exact Nat.le_refl _⟩, ⟨by (with_reducible repeat (first | refine blk_drewN ?_ _ | refine blk_drew ?_ | refine blk_alloc ?_ _)); exact BK231.out⟩, ⟨by repeat (first | (with_reducible first | exact HB.out | apply below_alloc | apply pw_below_drewN | apply below_drew1 | refine below_set ?_ GE231.out) | exact HB.out)⟩⟩
                  · rw [if_neg c18] at H
                    have c18b0 : decide (1073741824 < a5) = false := decide_eq_false c18
                    clear c18
                    replace H := Option.bind_eq_some_iff.mp H
                    obtain ⟨t233, A190, H⟩ := H
                    replace H : (valancelaw11_SnapOrder.j0 k l0 a2 a3 a4 a5 true ((t233.length : Int) == 0) a1_0 a1_1 a1_2) = some r := H
                    have A19 := Aside0.mk A190
                    clear A190
                    have H' := Aside0.mk H
                    clear H
                    go_wp2_with (first | (go_at_call 22; (with_reducible refine (snap_Stops.calls _ _ l0 a2 a3 t233 _ ?side1 ?side2 A19.out).mono ?_); (case side1 => repeat (first | exact (Kd.C_below HR0.out HB.out) | (with_reducible refine Kd.C_alloc ?_ _) | (with_reducible refine Kd.C_drewN ?_ _) | (with_reducible refine Kd.C_drew ?_))); (case side2 => exact HC0.out); rintro e w20 ⟨v234, rfl, ho0, hb⟩; have n0_ := Aside0.mk (Kd.R_lower ho0 (below_size (by repeat (first | (with_reducible first | exact HB.out | apply below_alloc | apply pw_below_drewN | apply below_drew1 | refine below_set ?_ GE231.out) | exact HB.out)))); have n1_ := Aside0.mk (blk_below (g := gb231) (o := .cells #[.int .i64 a1_0, .int .i64 a1_1, .int .i64 a1_2] 33 (0, 0)) (by (with_reducible repeat (first | refine blk_drewN ?_ _ | refine blk_drew ?_ | refine blk_alloc ?_ _)); exact BK231.out) hb); have n2_ := Aside0.mk (below_step (by repeat (first | (with_reducible first | exact HB.out | apply below_alloc | apply pw_below_drewN | apply below_drew1 | refine below_set ?_ GE231.out) | exact HB.out)) hb); clear BK231; clear HB; have HO235 := n0_; have BK231 := n1_; have HB := n2_; clear n0_ n1_ n2_; (try clear hb); (try clear hb2); (try clear hk); (try clear hi); (try clear ho0); obtain ⟨Ao21, co21, eo21⟩ := Kd.R_slice HO235.out; subst eo21))
                    go_meet
                    case rel => exact ⟨_, (((t233.length : Int) == 0)), (by first | rfl | (simp; done) | (simp [*]; done)), H', ⟨by first | omega | exact Nat.le_refl _⟩, ⟨by (with_reducible repeat (first | refine blk_drewN ?_ _ | refine blk_drew ?_ | refine blk_alloc ?_ _)); exact BK231.out⟩, ⟨by repeat (first | (with_reducible first | exact HB.out | apply below_alloc | apply pw_below_drewN | apply below_drew1 | refine below_set ?_ GE231.out) | exact HB.out)⟩⟩
    case rest =>
      clear HC9
      try clear c1
      try clear p2
      try clear c6
      try clear c8
      try clear c12
      try clear c12b0
      try clear c12b1
      try clear c13
      try clear c13b0
      try clear c14
      try clear c14b0
      try clear c15
      try clear c15b0
      try clear c16
      try clear c16b0
      try clear c17
      try clear c17b0
      try clear c18
      try clear c18b0
      obtain ⟨kq, x56_8, rfl, HA, HJ8, BK231, HB⟩ := hcut
      cases kq with
      | zero => exact absurd HA.out (by simp [valancelaw11_SnapOrder.j0])
      | succ kj8 =>
        have H := HA.out
        clear HA
        simp only [valancelaw11_SnapOrder.j0] at H
        by_cases c22 : x56_8 = true
        · subst c22
          have H1 : (some true) = some r := by rw [if_pos rfl] at H; exact H
          clear H
          have H := H1
          clear H1
          obtain rfl := Option.some.inj H
          go_wp2
          go_ret
          exact ⟨by first | rfl | (simp [errW_none, errW_some] <;> rfl) | (simp [*, errW_none, errW_some] <;> rfl), by repeat (first | (with_reducible first | exact HB.out | apply below_alloc | apply pw_below_drewN | apply below_drew1 | refine below_set ?_ GE231.out) | exact HB.out)⟩
        · replace c22 := Bool.eq_false_iff.mpr c22
          subst c22
          have H1 : ((snap_Rest.f 1 l0 a2 a3 a4).bind fun t236 => ((snap_Rest.f 1 l0 a2 a3 (wrap64 (a4 + a5))).bind fun t237 => (if ([] : List (S33)).length + l0.length < 5864062014805 then ((some (([] : List (S33)) ++ l0 : List (S33))).bind fun y238 => (if y238.length < 5864062014805 then ((snap_Rest.f 1 (y238 ++ [(⟨(⟨a1_0, a1_1⟩ : S30), a1_2⟩ : S33)]) a2 a3 a4).bind fun t244 => (if true = true then (if t236 ≤ t237 then (some (decide ((mx (wrap64 (t244 - a4)) (wrap64 (a4 - t244))) ≤ (mx (wrap64 (t236 - a4)) (wrap64 (a4 - t236)))))) else (none)) else (none))) else (none))) else (none)))) = some r := by rw [if_neg (show ¬ (false = true) by decide)] at H; exact H
          clear H
          have H := H1
          clear H1
          replace H := Option.bind_eq_some_iff.mp H
          obtain ⟨t236, A230, H⟩ := H
          replace H : ((snap_Rest.f 1 l0 a2 a3 (wrap64 (a4 + a5))).bind fun t237 => (if ([] : List (S33)).length + l0.length < 5864062014805 then ((some (([] : List (S33)) ++ l0 : List (S33))).bind fun y238 => (if y238.length < 5864062014805 then ((snap_Rest.f 1 (y238 ++ [(⟨(⟨a1_0, a1_1⟩ : S30), a1_2⟩ : S33)]) a2 a3 a4).bind fun t244 => (if true = true then (if t236 ≤ t237 then (some (decide ((mx (wrap64 (t244 - a4)) (wrap64 (a4 - t244))) ≤ (mx (wrap64 (t236 - a4)) (wrap64 (a4 - t236)))))) else (none)) else (none))) else (none))) else (none))) = some r := H
          have A23 := Aside0.mk A230
          clear A230
          replace H := Option.bind_eq_some_iff.mp H
          obtain ⟨t237, A240, H⟩ := H
          replace H : (if ([] : List (S33)).length + l0.length < 5864062014805 then ((some (([] : List (S33)) ++ l0 : List (S33))).bind fun y238 => (if y238.length < 5864062014805 then ((snap_Rest.f 1 (y238 ++ [(⟨(⟨a1_0, a1_1⟩ : S30), a1_2⟩ : S33)]) a2 a3 a4).bind fun t244 => (if true = true then (if t236 ≤ t237 then (some (decide ((mx (wrap64 (t244 - a4)) (wrap64 (a4 - t244))) ≤ (mx (wrap64 (t236 - a4)) (wrap64 (a4 - t236)))))) else (none)) else (none))) else (none))) else (none)) = some r := H
          have A24 := Aside0.mk A240
          clear A240
          by_cases c25 : ([] : List (S33)).length + l0.length < 5864062014805
          · rw [if_pos c25] at H
            have LMc25 := Aside0.mk c25
            clear c25
            obtain ⟨y238, hy238⟩ : ∃ y_ : List (S33), y_ = (([] : List (S33)) ++ l0) := ⟨_, rfl⟩
            replace H : (if y238.length < 5864062014805 then ((snap_Rest.f 1 (y238 ++ [(⟨(⟨a1_0, a1_1⟩ : S30), a1_2⟩ : S33)]) a2 a3 a4).bind fun t244 => (if true = true then (if t236 ≤ t237 then (some (decide ((mx (wrap64 (t244 - a4)) (wrap64 (a4 - t244))) ≤ (mx (wrap64 (t236 - a4)) (wrap64 (a4 - t236)))))) else (none)) else (none))) else (none)) = some r := by first | (rw [hy238]; with_reducible exact H) | (have H2_ := (Option.bind_some _ _).symm.trans H; rw [hy238]; with_reducible exact H2_) | (have H2_ := (Option.bind_some _ _).symm.trans H; with_reducible exact H2_) | with_reducible exact H | (rw [hy238]; exact H) | exact H
            have Ny238 := Aside0.mk hy238
            clear hy238
            by_cases c26 : y238.length < 5864062014805
            · rw [if_pos c26] at H
              have LMc26 := Aside0.mk c26
              clear c26
              obtain ⟨y241, hy241⟩ : ∃ y_ : List (S33), y_ = (y238 ++ [(⟨(⟨a1_0, a1_1⟩ : S30), a1_2⟩ : S33)]) := ⟨_, rfl⟩
              replace H : ((snap_Rest.f 1 y241 a2 a3 a4).bind fun t244 => (if true = true then (if t236 ≤ t237 then (some (decide ((mx (wrap64 (t244 - a4)) (wrap64 (a4 - t244))) ≤ (mx (wrap64 (t236 - a4)) (wrap64 (a4 - t236)))))) else (none)) else (none))) = some r := by first | (rw [hy241]; with_reducible exact H) | (have H2_ := (Option.bind_some _ _).symm.trans H; rw [hy241]; with_reducible exact H2_) | (have H2_ := (Option.bind_some _ _).symm.trans H; with_reducible exact H2_) | with_reducible exact H | (rw [hy241]; exact H) | exact H
              have Ny241 := Aside0.mk hy241
              clear hy241
              replace H := Option.bind_eq_some_iff.mp H
              obtain ⟨t244, A270, H⟩ := H
              replace H : (if true = true then (if t236 ≤ t237 then (some (decide ((mx (wrap64 (t244 - a4)) (wrap64 (a4 - t244))) ≤ (mx (wrap64 (t236 - a4)) (wrap64 (a4 - t236)))))) else (none)) else (none)) = some r := H
              have A27 := Aside0.mk A270
              clear A270
              by_cases c28 : true = true
              · clear c28
                have H1 : (if t236 ≤ t237 then (some (decide ((mx (wrap64 (t244 - a4)) (wrap64 (a4 - t244))) ≤ (mx (wrap64 (t236 - a4)) (wrap64 (a4 - t236)))))) else (none)) = some r := by first | (rw [if_pos rfl] at H; exact H) | (rw [if_pos True.intro] at H; exact H)
                clear H
                have H := H1
                clear H1
                by_cases c29 : t236 ≤ t237
                · rw [if_pos c29] at H
                  have c29b0 : decide (t236 ≤ t237) = true := decide_eq_true c29
                  clear c29
                  obtain ⟨ji30, hji30⟩ : ∃ j_ : Int, (mx (wrap64 (t244 - a4)) (wrap64 (a4 - t244))) = j_ := ⟨_, rfl⟩
                  replace H : (some (decide ((ji30) ≤ (mx (wrap64 (t236 - a4)) (wrap64 (a4 - t236)))))) = some r := by first | (rw [hji30] at H; exact H) | (simp only [hji30] at H ⊢; exact H)
                  (try rw [hji30] at A23)
                  (try rw [hji30] at A24)
                  (try rw [hji30] at A27)
                  have hji30_ : (if (wrap64 (t244 - a4)) < (wrap64 (a4 - t244)) then (wrap64 (a4 - t244)) else (wrap64 (t244 - a4))) = ji30 := hji30
                  obtain ⟨ji31, hji31⟩ : ∃ j_ : Int, (mx (wrap64 (t236 - a4)) (wrap64 (a4 - t236))) = j_ := ⟨_, rfl⟩
                  replace H : (some (decide ((ji30) ≤ (ji31)))) = some r := by first | (rw [hji31] at H; exact H) | (simp only [hji31] at H ⊢; exact H)
                  (try rw [hji31] at A23)
                  (try rw [hji31] at A24)
                  (try rw [hji31] at A27)
                  have hji31_ : (if (wrap64 (t236 - a4)) < (wrap64 (a4 - t236)) then (wrap64 (a4 - t236)) else (wrap64 (t236 - a4))) = ji31 := hji31
                  obtain rfl := Option.some.inj H
                  go_wp2_with (first | ((with_reducible refine gate_callee (f := 19) rfl ?_); refine goesL_ (some 62) rfl rfl Try.func19 (by kernel_rfl) rfl #[.int .i64 1, .slice A0 l0.length c0, .int .i64 a2, .int .i64 a3, .int .i64 a4] rfl (by (try simp only [List.map_toArray, List.map_cons, List.map_nil]); first | done | rfl | (simp only [List.length_drop, List.length_take]; rfl)) ?_; (with_reducible refine (snap_Rest.calls 1 _ _ l0 a2 a3 a4 t236 _ ?side1 ?side2 A23.out).mono ?_); (case side1 => repeat (first | exact (Kd.C_below HR0.out HB.out) | (with_reducible refine Kd.C_alloc ?_ _) | (with_reducible refine Kd.C_drewN ?_ _) | (with_reducible refine Kd.C_drew ?_))); (case side2 => exact HC0.out); rintro e w32 ⟨rfl, hb⟩; refine ⟨_, rfl, ?_⟩; have n0_ := Aside0.mk (blk_below (g := gb231) (o := .cells #[.int .i64 a1_0, .int .i64 a1_1, .int .i64 a1_2] 33 (0, 0)) (by (with_reducible repeat (first | refine blk_drewN ?_ _ | refine blk_drew ?_ | refine blk_alloc ?_ _)); exact BK231.out) hb); have n1_ := Aside0.mk (below_step (by repeat (first | (with_reducible first | exact HB.out | apply below_alloc | apply pw_below_drewN | apply below_drew1 | refine below_set ?_ GE231.out) | exact HB.out)) hb); clear BK231; clear HB; have BK231 := n0_; have HB := n1_; clear n0_ n1_; (try clear hb); (try clear hb2); (try clear hk); (try clear hi)) | ((with_reducible refine gate_callee (f := 19) rfl ?_); refine goesL_ (some 69) rfl rfl Try.func19 (by kernel_rfl) rfl #[.int .i64 1, .slice A0 l0.length c0, .int .i64 a2, .int .i64 a3, .int .i64 (wrap64 (a4 + a5))] rfl (by (try simp only [List.map_toArray, List.map_cons, List.map_nil]); first | done | rfl | (simp only [List.length_drop, List.length_take]; rfl)) ?_; (with_reducible refine (snap_Rest.calls 1 _ _ l0 a2 a3 (wrap64 (a4 + a5)) t237 _ ?side1 ?side2 A24.out).mono ?_); (case side1 => repeat (first | exact (Kd.C_below HR0.out HB.out) | (with_reducible refine Kd.C_alloc ?_ _) | (with_reducible refine Kd.C_drewN ?_ _) | (with_reducible refine Kd.C_drew ?_))); (case side2 => exact HC0.out); rintro e w33 ⟨rfl, hb⟩; refine ⟨_, rfl, ?_⟩; have n0_ := Aside0.mk (blk_below (g := gb231) (o := .cells #[.int .i64 a1_0, .int .i64 a1_1, .int .i64 a1_2] 33 (0, 0)) (by (with_reducible repeat (first | refine blk_drewN ?_ _ | refine blk_drew ?_ | refine blk_alloc ?_ _)); exact BK231.out) hb); have n1_ := Aside0.mk (below_step (by repeat (first | (with_reducible first | exact HB.out | apply below_alloc | apply pw_below_drewN | apply below_drew1 | refine below_set ?_ GE231.out) | exact HB.out)) hb); clear BK231; clear HB; have BK231 := n0_; have HB := n1_; clear n0_ n1_; (try clear hb); (try clear hb2); (try clear hk); (try clear hi)) | ((with_reducible refine gate_builtin (b := .append) (xs := #[.tmp 70, .tmp 71]) rfl ?_); (try (refine gate_guard (by rfl) ?_; dsimp only)); at_builtin; refine Kd.R_append_rows k33 (w0 := w) w.heap.size rfl (.tmp 70) (.tmp 71) 23 33 (.agg #[(.int .i64 0), (.int .i64 0), (.int .i64 0)]) 24 rfl Try.underlying23 info33 rfl (by decide) (by omega) (.slice none 0 0) ([] : List (S33)) l0 _ _ _ (fun k_ => k_ ≠ gb231) (fun _ => False) rfl rfl ?aO ?aR (fun _ _ h => h) (fun _ h => h.elim) ?aF ?aB ?aS ?aL ?_; (case aR => repeat (first | exact (Kd.C_below HR0.out HB.out) | (with_reducible refine Kd.C_alloc ?_ _) | (with_reducible refine Kd.C_drewN ?_ _) | (with_reducible refine Kd.C_drew ?_))); (case aB => exact (by repeat (first | (with_reducible first | exact HB.out | apply below_alloc | apply pw_below_drewN | apply below_drew1 | refine below_set ?_ GE231.out) | exact HB.out))); (case aF => exact (fun k_ hk => Kd.freshB (g := gb231) (o := .cells #[.int .i64 a1_0, .int .i64 a1_1, .int .i64 a1_2] 33 (0, 0)) (by (with_reducible repeat (first | refine blk_drewN ?_ _ | refine blk_drew ?_ | refine blk_alloc ?_ _)); exact BK231.out) k_ hk)); (case aO => exact ((Kd.R_nil _ _ _ _ (fun k_ => k_ ≠ gb231)))); (case aS => exact (below_size (by repeat (first | (with_reducible first | exact HB.out | apply below_alloc | apply pw_below_drewN | apply below_drew1 | refine below_set ?_ GE231.out) | exact HB.out)))); (case aL => have := LMc25.out; omega); intro v239 w34 ho hb hg hat; rw [← Ny238.out] at ho; have n0_ := Aside0.mk (blk_grown (g := gb231) (o := .cells #[.int .i64 a1_0, .int .i64 a1_1, .int .i64 a1_2] 33 (0, 0)) (by (with_reducible repeat (first | refine blk_drewN ?_ _ | refine blk_drew ?_ | refine blk_alloc ?_ _)); exact BK231.out) hg (by simp [Value.ownBlock])); have n1_ := Aside0.mk (hb); have n2_ := Aside0.mk (ho); clear BK231; clear HB; have BK231 := n0_; have HB := n1_; have HO240 := n2_; clear n0_ n1_ n2_; clear ho hb hg hat; have hcz35_0 : w34.cell? ⟨gb231, 0, none⟩ = some (.int .i64 a1_0) := (blk_cell BK231.out 0).trans rfl; have hcz35_1 : w34.cell? ⟨gb231, 1, none⟩ = some (.int .i64 a1_1) := (blk_cell BK231.out 1).trans rfl; have hcz35_2 : w34.cell? ⟨gb231, 2, none⟩ = some (.int .i64 a1_2) := (blk_cell BK231.out 2).trans rfl; have hfz35_0 := blk_frozen BK231.out 0; have hfz35_1 := blk_frozen BK231.out 1; have hfz35_2 := blk_frozen BK231.out 2) | ((with_reducible refine gate_builtin (b := .append) (xs := #[.tmp 73, .tmp 75]) rfl ?_); (try (refine gate_guard (by rfl) ?_; dsimp only)); at_builtin; refine Kd.R_append k33 (w0 := w) w.heap.size rfl (.tmp 73) (.tmp 75) 23 33 (.agg #[(.int .i64 0), (.int .i64 0), (.int .i64 0)]) 24 rfl Try.underlying23 info33 rfl (by decide) (by omega) v239 y238 (⟨(⟨a1_0, a1_1⟩ : S30), a1_2⟩ : S33) [.int .i64 a1_0, .int .i64 a1_1, .int .i64 a1_2] (fun k_ => k_ ≠ gb231) (fun _ => False) rfl rfl ?aP (fun _ hk => hk.elim) ?aF ?aO ?aB ?aS ?aL ?_; (case aP => exact k33_mkM _ _ _ (⟨(⟨a1_0, a1_1⟩ : S30), a1_2⟩ : S33)); (case aB => exact (by repeat (first | (with_reducible first | exact HB.out | apply below_alloc | apply pw_below_drewN | apply below_drew1 | refine below_set ?_ GE231.out) | exact HB.out))); (case aF => exact (fun k_ hk => Kd.freshB (g := gb231) (o := .cells #[.int .i64 a1_0, .int .i64 a1_1, .int .i64 a1_2] 33 (0, 0)) (by (with_reducible repeat (first | refine blk_drewN ?_ _ | refine blk_drew ?_ | refine blk_alloc ?_ _)); exact BK231.out) k_ hk)); (case aO => exact (by (with_reducible repeat (first | apply Kd.R_alloc | apply Kd.R_drewN | apply Kd.R_drew)); exact HO240.out)); (case aS => exact (below_size (by repeat (first | (with_reducible first | exact HB.out | apply below_alloc | apply pw_below_drewN | apply below_drew1 | refine below_set ?_ GE231.out) | exact HB.out)))); (case aL => have := LMc26.out; omega); intro v242 w36 ho hb hg hat; rw [← Ny241.out] at ho; have n0_ := Aside0.mk (blk_grown (g := gb231) (o := .cells #[.int .i64 a1_0, .int .i64 a1_1, .int .i64 a1_2] 33 (0, 0)) (by (with_reducible repeat (first | refine blk_drewN ?_ _ | refine blk_drew ?_ | refine blk_alloc ?_ _)); exact BK231.out) hg (Kd.R_away HO240.out (fun _ hk => hk))); have n1_ := Aside0.mk (hb); have n2_ := Aside0.mk (ho); clear BK231; clear HB; clear HO240; have BK231 := n0_; have HB := n1_; have HO243 := n2_; clear n0_ n1_ n2_; clear ho hb hg hat; obtain ⟨Ao37, co37, eo37⟩ := Kd.R_slice HO243.out; subst eo37) | ((with_reducible refine gate_callee (f := 19) rfl ?_); refine goesL_ (some 81) rfl rfl Try.func19 (by kernel_rfl) rfl #[.int .i64 1, .slice Ao37 y241.length co37, .int .i64 a2, .int .i64 a3, .int .i64 a4] rfl (by (try simp only [List.map_toArray, List.map_cons, List.map_nil]); first | done | rfl | (simp only [List.length_drop, List.length_take]; rfl)) ?_; (with_reducible refine (snap_Rest.calls 1 _ _ y241 a2 a3 a4 t244 _ ?side1 ?side2 A27.out).mono ?_); (case side1 => repeat (first | exact (Kd.R_reads' HO243.out).2.2 | (with_reducible refine Kd.C_alloc ?_ _) | (with_reducible refine Kd.C_drewN ?_ _) | (with_reducible refine Kd.C_drew ?_))); (case side2 => exact (Kd.R_reads' HO243.out).2.1); rintro e w38 ⟨rfl, hb⟩; refine ⟨_, rfl, ?_⟩; have n0_ := Aside0.mk (Kd.R_below (by (with_reducible repeat (first | apply Kd.R_alloc | apply Kd.R_drewN | apply Kd.R_drew)); exact HO243.out) hb); have n1_ := Aside0.mk (blk_below (g := gb231) (o := .cells #[.int .i64 a1_0, .int .i64 a1_1, .int .i64 a1_2] 33 (0, 0)) (by (with_reducible repeat (first | refine blk_drewN ?_ _ | refine blk_drew ?_ | refine blk_alloc ?_ _)); exact BK231.out) hb); have n2_ := Aside0.mk (below_step (by repeat (first | (with_reducible first | exact HB.out | apply below_alloc | apply pw_below_drewN | apply below_drew1 | refine below_set ?_ GE231.out) | exact HB.out)) hb); clear HO243; clear BK231; clear HB; have HO243 := n0_; have BK231 := n1_; have HB := n2_; clear n0_ n1_ n2_; (try clear hb); (try clear hb2); (try clear hk); (try clear hi)))
                  go_ret
                  exact ⟨by first | rfl | (simp [errW_none, errW_some] <;> rfl) | (simp only [← hji30, ← hji31]; first | rfl | (simp [errW_none, errW_some] <;> rfl)) | (simp [*, errW_none, errW_some] <;> rfl), by repeat (first | (with_reducible first | exact HB.out | apply below_alloc | apply pw_below_drewN | apply below_drew1 | refine below_set ?_ GE231.out) | exact HB.out)⟩
                · rw [if_neg c29] at H
                  exact absurd H (by simp)
              · exact absurd rfl c28
            · rw [if_neg c26] at H
              exact absurd H (by simp)
          · rw [if_neg c25] at H
            exact absurd H (by simp)
  · replace c8 := Bool.eq_false_iff.mpr c8
    subst c8
    have H1 : (none) = some r := by rw [if_neg (show ¬ (false = true) by decide)] at H; exact H
    clear H
    have H := H1
    clear H1
    exact absurd H (by simp)

/-- THE ONE PURE STATEMENT of valancelaw11_SnapOrder: yours. -/
def valancelaw11_SnapOrder.Pure : Prop := ∀ (l0 : List (S33)) (a1_0 : Int) (a1_1 : Int) (a1_2 : Int) (a2 : Int) (a3 : Int) (a4 : Int) (a5 : Int), l0.length ≤ maxLen → l0.length * 24 ≤ 140737488351232 → (∀ x ∈ l0, (Lit.int .i64 x.f0.f0).wf = true ∧ (Lit.int .i64 x.f0.f1).wf = true ∧ (Lit.int .i64 x.f1).wf = true) → (Lit.int .i64 a1_0).wf = true → (Lit.int .i64 a1_1).wf = true → (Lit.int .i64 a1_2).wf = true → (Lit.int .i64 a2).wf = true → (Lit.int .i64 a3).wf = true → (Lit.int .i64 a4).wf = true → (Lit.int .i64 a5).wf = true → ∃ k, valancelaw11_SnapOrder.f k l0 a1_0 a1_1 a1_2 a2 a3 a4 a5 = some true
theorem valancelaw11_SnapOrder.walk (P : valancelaw11_SnapOrder.Pure) (a0 : Option Addr) (cap0 : Nat) (l0 : List (S33)) (a1_0 : Int) (a1_1 : Int) (a1_2 : Int) (a2 : Int) (a3 : Int) (a4 : Int) (a5 : Int) (w : World) (hr0 : Kd.C k33 w a0 l0.length l0) (hc0 : l0.length ≤ cap0) (hm0 : l0.length ≤ maxLen) (y0 : l0.length * 24 ≤ 140737488351232) (hw0 : ∀ x ∈ l0, (Lit.int .i64 x.f0.f0).wf = true ∧ (Lit.int .i64 x.f0.f1).wf = true ∧ (Lit.int .i64 x.f1).wf = true) (w1_0 : (Lit.int .i64 a1_0).wf = true) (w1_1 : (Lit.int .i64 a1_1).wf = true) (w1_2 : (Lit.int .i64 a1_2).wf = true) (w2 : (Lit.int .i64 a2).wf = true) (w3 : (Lit.int .i64 a3).wf = true) (w4 : (Lit.int .i64 a4).wf = true) (w5 : (Lit.int .i64 a5).wf = true) :
    Calls Try.prog 6 #[.slice a0 l0.length cap0, .agg #[.int .i64 a1_0, .int .i64 a1_1, .int .i64 a1_2], .int .i64 a2, .int .i64 a3, .int .i64 a4, .int .i64 a5] w fun e w' => e = .returned (.bool true) ∧ Below w.heap.size w w' := by
  obtain ⟨k, h⟩ := P l0 a1_0 a1_1 a1_2 a2 a3 a4 a5 hm0 y0 hw0 w1_0 w1_1 w1_2 w2 w3 w4 w5
  refine (valancelaw11_SnapOrder.calls k _ _ l0 a1_0 a1_1 a1_2 a2 a3 a4 a5 true w hr0 hc0 h).mono ?_
  rintro e w' ⟨rfl, hd⟩
  exact ⟨rfl, hd⟩

end Go.Proofs.Ytnmcefpnpfaklac.V
