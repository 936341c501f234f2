/- What the functions of this seat answer, as plain Lean functions, and that the calls come to just that (written by a program of this repo, over the kit's printer; Lean checks it). -/
import Derived.Test.YtnmcefpnpfaklabVx0
import Derived.Test.YtnmcefpnpfaklabVx3
import Derived.Test.YtnmcefpnpfaklabVx7
import Derived.Test.YtnmcefpnpfaklabVx17
namespace Go.Proofs.Ytnmcefpnpfaklab.V
open Go.RowKit Go.Proofs.YtnmcefpnpfaklabW.PrintWords Go.Proofs.YtnmcefpnpfaklabW.PrintLast Go.Proofs.YtnmcefpnpfaklabW.PrintMore
attribute [local go_sem] max2_int min2_int max_two min_two max_three min_three max_four min_four   -- for this text's walks alone
set_option linter.unusedVariables false
set_option linter.unusedSimpArgs false

/-! ### valancelaw10_StickMore: function 7 -/
def valancelaw10_StickMore.j0 : Nat → Int → Bool → Bool → Int → Int → Int → Int → Int → Int → Bool → Int → Option (Bool)
  | 0, _, _, _, _, _, _, _, _, _, _, _ => none
  | k + 1, x4, x11, x47, x228000, x228001, x229000, x229001, x230000, x230001, x231000, x231001 => if x47 = true then (some x11) else ((stick_Shift.f k x228000 x228001 x229000 x229001 x230000 x230001 x231000 x231001 false 0).bind fun t235 => ((stick_Shift.f k x228000 x228001 x229000 x229001 (wrap64 (x230000 + x4)) (wrap64 (x230001 + x4)) x231000 x231001 false 0).bind fun t236 => (if x11 = true then (if t235 ≥ 0 then (if t235 ≤ t236 then (some (decide ((wrap64 (t236 - t235)) ≤ x4))) else (none)) else (none)) else (none))))
def valancelaw10_StickMore.f (k : Nat) (a0_0 : Int) (a0_1 : Int) (a1_0 : Int) (a1_1 : Int) (a2_0 : Int) (a2_1 : Int) (a3_0 : Bool) (a3_1 : Int) (a4 : Int) : Option (Bool) := (valancelaw10_works.f).bind fun t231 => (if t231 = true then ((valancelaw10_small.f a0_0 a0_1).bind fun t232 => (if t232 = true then ((valancelaw10_small.f a1_0 a1_1).bind fun t233 => (if t233 = true then ((valancelaw10_small.f a2_0 a2_1).bind fun t234 => (if t234 = true then (if a3_1 < (-1073741824) then (valancelaw10_StickMore.j0 k a4 t231 true a0_0 a0_1 a1_0 a1_1 a2_0 a2_1 a3_0 a3_1) else (if a3_1 > 1073741824 then (valancelaw10_StickMore.j0 k a4 t231 true a0_0 a0_1 a1_0 a1_1 a2_0 a2_1 a3_0 a3_1) else (if a4 < 0 then (valancelaw10_StickMore.j0 k a4 t231 true a0_0 a0_1 a1_0 a1_1 a2_0 a2_1 a3_0 a3_1) else (valancelaw10_StickMore.j0 k a4 t231 (decide (a4 > 1073741824)) a0_0 a0_1 a1_0 a1_1 a2_0 a2_1 a3_0 a3_1)))) else (valancelaw10_StickMore.j0 k a4 t231 true a0_0 a0_1 a1_0 a1_1 a2_0 a2_1 a3_0 a3_1))) else (valancelaw10_StickMore.j0 k a4 t231 true a0_0 a0_1 a1_0 a1_1 a2_0 a2_1 a3_0 a3_1))) else (valancelaw10_StickMore.j0 k a4 t231 true a0_0 a0_1 a1_0 a1_1 a2_0 a2_1 a3_0 a3_1))) else (none))
theorem valancelaw10_StickMore.mono_l : ∀ k, (∀ y0 y1 y2 y3 y4 y5 y6 y7 y8 y9 y10, LeO (valancelaw10_StickMore.j0 k y0 y1 y2 y3 y4 y5 y6 y7 y8 y9 y10) (valancelaw10_StickMore.j0 (k + 1) y0 y1 y2 y3 y4 y5 y6 y7 y8 y9 y10))
  | 0 => fun _ _ _ _ _ _ _ _ _ _ _ r h => by simp [valancelaw10_StickMore.j0] at h
  | k + 1 => by
    have ih0 := valancelaw10_StickMore.mono_l k
    · intro y0 y1 y2 y3 y4 y5 y6 y7 y8 y9 y10
      unfold valancelaw10_StickMore.j0
      repeat' first
      | (with_reducible exact ih0 _ _ _ _ _ _ _ _ _ _ _)
      | (with_reducible exact stick_Shift.mono _ _ _ _ _ _ _ _ _ _ _)
      | (with_reducible exact LeO.refl _)
      | (with_reducible exact LeO.none _)
      | (with_reducible refine LeO.ite ?_ ?_)
      | (with_reducible refine LeO.bind ?_ (fun _ => ?_))
      | exact ih0 _ _ _ _ _ _ _ _ _ _ _
      | exact stick_Shift.mono _ _ _ _ _ _ _ _ _ _ _
      | exact LeO.none _
      | refine LeO.ite ?_ ?_
      | refine LeO.bind ?_ (fun _ => ?_)
theorem valancelaw10_StickMore.mono : ∀ a0 a1 a2 a3 a4 a5 a6 a7 a8 k, LeO (valancelaw10_StickMore.f k a0 a1 a2 a3 a4 a5 a6 a7 a8) (valancelaw10_StickMore.f (k + 1) a0 a1 a2 a3 a4 a5 a6 a7 a8) := by
  intro a0 a1 a2 a3 a4 a5 a6 a7 a8 k
  have ih0 := valancelaw10_StickMore.mono_l k
  unfold valancelaw10_StickMore.f
  repeat' first
      | (with_reducible exact ih0 _ _ _ _ _ _ _ _ _ _ _)
      | (with_reducible exact stick_Shift.mono _ _ _ _ _ _ _ _ _ _ _)
      | (with_reducible exact LeO.refl _)
      | (with_reducible exact LeO.none _)
      | (with_reducible refine LeO.ite ?_ ?_)
      | (with_reducible refine LeO.bind ?_ (fun _ => ?_))
      | exact ih0 _ _ _ _ _ _ _ _ _ _ _
      | exact stick_Shift.mono _ _ _ _ _ _ _ _ _ _ _
      | exact LeO.none _
      | refine LeO.ite ?_ ?_
      | refine LeO.bind ?_ (fun _ => ?_)
set_option maxHeartbeats 8000000 in
set_option maxRecDepth 100000 in
theorem valancelaw10_StickMore.calls (k : Nat) (a0_0 : Int) (a0_1 : Int) (a1_0 : Int) (a1_1 : Int) (a2_0 : Int) (a2_1 : Int) (a3_0 : Bool) (a3_1 : Int) (a4 : Int) (r : Bool) (w : World) (h : valancelaw10_StickMore.f k a0_0 a0_1 a1_0 a1_1 a2_0 a2_1 a3_0 a3_1 a4 = some r) :
    Calls Try.prog 7 #[.agg #[.int .i64 a0_0, .int .i64 a0_1], .agg #[.int .i64 a1_0, .int .i64 a1_1], .agg #[.int .i64 a2_0, .int .i64 a2_1], .agg #[.bool a3_0, .int .i64 a3_1], .int .i64 a4] w fun e w' => e = .returned (.bool r) ∧ Below w.heap.size w w' := by
  have hu23 := Try.underlying23
  have hu25 := Try.underlying25
  have HB := Aside0.mk (Below.refl w.heap.size w)
  have H : ((valancelaw10_works.f).bind fun t231 => (if t231 = true then ((valancelaw10_small.f a0_0 a0_1).bind fun t232 => (if t232 = true then ((valancelaw10_small.f a1_0 a1_1).bind fun t233 => (if t233 = true then ((valancelaw10_small.f a2_0 a2_1).bind fun t234 => (if t234 = true then (if a3_1 < (-1073741824) then (valancelaw10_StickMore.j0 k a4 t231 true a0_0 a0_1 a1_0 a1_1 a2_0 a2_1 a3_0 a3_1) else (if a3_1 > 1073741824 then (valancelaw10_StickMore.j0 k a4 t231 true a0_0 a0_1 a1_0 a1_1 a2_0 a2_1 a3_0 a3_1) else (if a4 < 0 then (valancelaw10_StickMore.j0 k a4 t231 true a0_0 a0_1 a1_0 a1_1 a2_0 a2_1 a3_0 a3_1) else (valancelaw10_StickMore.j0 k a4 t231 (decide (a4 > 1073741824)) a0_0 a0_1 a1_0 a1_1 a2_0 a2_1 a3_0 a3_1)))) else (valancelaw10_StickMore.j0 k a4 t231 true a0_0 a0_1 a1_0 a1_1 a2_0 a2_1 a3_0 a3_1))) else (valancelaw10_StickMore.j0 k a4 t231 true a0_0 a0_1 a1_0 a1_1 a2_0 a2_1 a3_0 a3_1))) else (valancelaw10_StickMore.j0 k a4 t231 true a0_0 a0_1 a1_0 a1_1 a2_0 a2_1 a3_0 a3_1))) else (none))) = some r := h
  clear h
  replace H := Option.bind_eq_some_iff.mp H
  obtain ⟨t231, A60, H⟩ := H
  replace H : (if t231 = true then ((valancelaw10_small.f a0_0 a0_1).bind fun t232 => (if t232 = true then ((valancelaw10_small.f a1_0 a1_1).bind fun t233 => (if t233 = true then ((valancelaw10_small.f a2_0 a2_1).bind fun t234 => (if t234 = true then (if a3_1 < (-1073741824) then (valancelaw10_StickMore.j0 k a4 t231 true a0_0 a0_1 a1_0 a1_1 a2_0 a2_1 a3_0 a3_1) else (if a3_1 > 1073741824 then (valancelaw10_StickMore.j0 k a4 t231 true a0_0 a0_1 a1_0 a1_1 a2_0 a2_1 a3_0 a3_1) else (if a4 < 0 then (valancelaw10_StickMore.j0 k a4 t231 true a0_0 a0_1 a1_0 a1_1 a2_0 a2_1 a3_0 a3_1) else (valancelaw10_StickMore.j0 k a4 t231 (decide (a4 > 1073741824)) a0_0 a0_1 a1_0 a1_1 a2_0 a2_1 a3_0 a3_1)))) else (valancelaw10_StickMore.j0 k a4 t231 true a0_0 a0_1 a1_0 a1_1 a2_0 a2_1 a3_0 a3_1))) else (valancelaw10_StickMore.j0 k a4 t231 true a0_0 a0_1 a1_0 a1_1 a2_0 a2_1 a3_0 a3_1))) else (valancelaw10_StickMore.j0 k a4 t231 true a0_0 a0_1 a1_0 a1_1 a2_0 a2_1 a3_0 a3_1))) else (none)) = some r := H
  have A6 := Aside0.mk A60
  clear A60
  by_cases c7 : t231 = true
  · subst c7
    have H1 : ((valancelaw10_small.f a0_0 a0_1).bind fun t232 => (if t232 = true then ((valancelaw10_small.f a1_0 a1_1).bind fun t233 => (if t233 = true then ((valancelaw10_small.f a2_0 a2_1).bind fun t234 => (if t234 = true then (if a3_1 < (-1073741824) then (valancelaw10_StickMore.j0 k a4 true true a0_0 a0_1 a1_0 a1_1 a2_0 a2_1 a3_0 a3_1) else (if a3_1 > 1073741824 then (valancelaw10_StickMore.j0 k a4 true true a0_0 a0_1 a1_0 a1_1 a2_0 a2_1 a3_0 a3_1) else (if a4 < 0 then (valancelaw10_StickMore.j0 k a4 true true a0_0 a0_1 a1_0 a1_1 a2_0 a2_1 a3_0 a3_1) else (valancelaw10_StickMore.j0 k a4 true (decide (a4 > 1073741824)) a0_0 a0_1 a1_0 a1_1 a2_0 a2_1 a3_0 a3_1)))) else (valancelaw10_StickMore.j0 k a4 true true a0_0 a0_1 a1_0 a1_1 a2_0 a2_1 a3_0 a3_1))) else (valancelaw10_StickMore.j0 k a4 true true a0_0 a0_1 a1_0 a1_1 a2_0 a2_1 a3_0 a3_1))) else (valancelaw10_StickMore.j0 k a4 true true a0_0 a0_1 a1_0 a1_1 a2_0 a2_1 a3_0 a3_1))) = some r := by rw [if_pos rfl] at H; exact H
    clear H
    have H := H1
    clear H1
    have HC8 := Aside0.mk H
    clear H
    go_enter Try.func7, Try.ntmps7
    go_upto_region 4 with (first | ((with_reducible refine gate_dst (N := 5) rfl ?_); refine box_event ?hg (N := 5) ?hd (cs := #[.int .i64 a0_0, .int .i64 a0_1]) (t := 23) ?hr ?_; (case hd => rfl); (case hg => rfl); (case hr => first | (go_simp; done) | (go_simp; rfl)); intro gb227 hg w9 hbox hb; have n0_ := Aside0.mk (below_step (by repeat (first | (with_reducible first | exact HB.out | apply below_alloc | apply pw_below_drewN | apply below_drew1) | exact HB.out)) hb); have n1_ := Aside0.mk (hbox); have n2_ := Aside0.mk ((by rw [hg]; exact (below_size (by repeat (first | (with_reducible first | exact HB.out | apply below_alloc | apply pw_below_drewN | apply below_drew1) | exact HB.out))) : w.heap.size ≤ gb227)); have n3_ := Aside0.mk ((by rw [hg]; exact (below_size (by repeat (first | (with_reducible first | exact HB.out | apply below_alloc | apply pw_below_drewN | apply below_drew1) | exact HB.out))) : w.heap.size ≤ gb227)); clear HB; have HB := n0_; have BK227 := n1_; have GW227 := n2_; have GE227 := n3_; clear n0_ n1_ n2_ n3_; clear hb hbox hg) | ((with_reducible refine gate_dst (N := 6) rfl ?_); refine box_event ?hg (N := 6) ?hd (cs := #[.int .i64 a1_0, .int .i64 a1_1]) (t := 23) ?hr ?_; (case hd => rfl); (case hg => rfl); (case hr => first | (go_simp; done) | (go_simp; rfl)); intro gb228 hg w10 hbox hb; have n0_ := Aside0.mk (blk_below (g := gb227) (o := .cells #[.int .i64 a0_0, .int .i64 a0_1] 23 (0, 0)) (by (with_reducible repeat (first | refine blk_drewN ?_ _ | refine blk_drew ?_ | refine blk_alloc ?_ _)); exact BK227.out) hb); have n1_ := Aside0.mk (below_step (by repeat (first | (with_reducible first | exact HB.out | apply below_alloc | apply pw_below_drewN | apply below_drew1 | refine below_set ?_ GE227.out) | exact HB.out)) hb); have n2_ := Aside0.mk (hbox); have n3_ := Aside0.mk ((by rw [hg]; exact (below_size (by repeat (first | (with_reducible first | exact HB.out | apply below_alloc | apply pw_below_drewN | apply below_drew1 | refine below_set ?_ GE227.out) | exact HB.out))) : w.heap.size ≤ gb228)); have n4_ := Aside0.mk ((by rw [hg]; exact (below_size (by repeat (first | (with_reducible first | exact HB.out | apply below_alloc | apply pw_below_drewN | apply below_drew1 | refine below_set ?_ GE227.out) | exact HB.out))) : w.heap.size ≤ gb228)); have n5_ := Aside0.mk ((by rw [hg]; exact Nat.ne_of_lt (blk_lt (g := gb227) (o := .cells #[.int .i64 a0_0, .int .i64 a0_1] 23 (0, 0)) (by (with_reducible repeat (first | refine blk_drewN ?_ _ | refine blk_drew ?_ | refine blk_alloc ?_ _)); exact BK227.out)) : gb227 ≠ gb228)); have n6_ := Aside0.mk ((by rw [hg]; exact Nat.ne_of_gt (blk_lt (g := gb227) (o := .cells #[.int .i64 a0_0, .int .i64 a0_1] 23 (0, 0)) (by (with_reducible repeat (first | refine blk_drewN ?_ _ | refine blk_drew ?_ | refine blk_alloc ?_ _)); exact BK227.out)) : gb228 ≠ gb227)); clear BK227; clear HB; have BK227 := n0_; have HB := n1_; have BK228 := n2_; have GW228 := n3_; have GE228 := n4_; have NB227_228 := n5_; have NB228_227 := n6_; clear n0_ n1_ n2_ n3_ n4_ n5_ n6_; clear hb hbox hg) | ((with_reducible refine gate_dst (N := 7) rfl ?_); refine box_event ?hg (N := 7) ?hd (cs := #[.int .i64 a2_0, .int .i64 a2_1]) (t := 23) ?hr ?_; (case hd => rfl); (case hg => rfl); (case hr => first | (go_simp; done) | (go_simp; rfl)); intro gb229 hg w11 hbox hb; have n0_ := Aside0.mk (blk_below (g := gb227) (o := .cells #[.int .i64 a0_0, .int .i64 a0_1] 23 (0, 0)) (by (with_reducible repeat (first | refine blk_drewN ?_ _ | refine blk_drew ?_ | refine blk_alloc ?_ _)); exact BK227.out) hb); have n1_ := Aside0.mk (blk_below (g := gb228) (o := .cells #[.int .i64 a1_0, .int .i64 a1_1] 23 (0, 0)) (by (with_reducible repeat (first | refine blk_drewN ?_ _ | refine blk_drew ?_ | refine blk_alloc ?_ _)); exact BK228.out) hb); have n2_ := Aside0.mk (below_step (by repeat (first | (with_reducible first | exact HB.out | apply below_alloc | apply pw_below_drewN | apply below_drew1 | refine below_set ?_ GE227.out | refine below_set ?_ GE228.out) | exact HB.out)) hb); have n3_ := Aside0.mk (hbox); have n4_ := Aside0.mk ((by rw [hg]; exact (below_size (by repeat (first | (with_reducible first | exact HB.out | apply below_alloc | apply pw_below_drewN | apply below_drew1 | refine below_set ?_ GE227.out | refine below_set ?_ GE228.out) | exact HB.out))) : w.heap.size ≤ gb229)); have n5_ := Aside0.mk ((by rw [hg]; exact (below_size (by repeat (first | (with_reducible first | exact HB.out | apply below_alloc | apply pw_below_drewN | apply below_drew1 | refine below_set ?_ GE227.out | refine below_set ?_ GE228.out) | exact HB.out))) : w.heap.size ≤ gb229)); have n6_ := Aside0.mk ((by rw [hg]; exact Nat.ne_of_lt (blk_lt (g := gb227) (o := .cells #[.int .i64 a0_0, .int .i64 a0_1] 23 (0, 0)) (by (with_reducible repeat (first | refine blk_drewN ?_ _ | refine blk_drew ?_ | refine blk_alloc ?_ _)); exact BK227.out)) : gb227 ≠ gb229)); have n7_ := Aside0.mk ((by rw [hg]; exact Nat.ne_of_gt (blk_lt (g := gb227) (o := .cells #[.int .i64 a0_0, .int .i64 a0_1] 23 (0, 0)) (by (with_reducible repeat (first | refine blk_drewN ?_ _ | refine blk_drew ?_ | refine blk_alloc ?_ _)); exact BK227.out)) : gb229 ≠ gb227)); have n8_ := Aside0.mk ((by rw [hg]; exact Nat.ne_of_lt (blk_lt (g := gb228) (o := .cells #[.int .i64 a1_0, .int .i64 a1_1] 23 (0, 0)) (by (with_reducible repeat (first | refine blk_drewN ?_ _ | refine blk_drew ?_ | refine blk_alloc ?_ _)); exact BK228.out)) : gb228 ≠ gb229)); have n9_ := Aside0.mk ((by rw [hg]; exact Nat.ne_of_gt (blk_lt (g := gb228) (o := .cells #[.int .i64 a1_0, .int .i64 a1_1] 23 (0, 0)) (by (with_reducible repeat (first | refine blk_drewN ?_ _ | refine blk_drew ?_ | refine blk_alloc ?_ _)); exact BK228.out)) : gb229 ≠ gb228)); clear BK227; clear BK228; clear HB; have BK227 := n0_; have BK228 := n1_; have HB := n2_; have BK229 := n3_; have GW229 := n4_; have GE229 := n5_; have NB227_229 := n6_; have NB229_227 := n7_; have NB228_229 := n8_; have NB229_228 := n9_; clear n0_ n1_ n2_ n3_ n4_ n5_ n6_ n7_ n8_ n9_; clear hb hbox hg) | ((with_reducible refine gate_dst (N := 8) rfl ?_); refine box_event ?hg (N := 8) ?hd (cs := #[.bool a3_0, .int .i64 a3_1]) (t := 25) ?hr ?_; (case hd => rfl); (case hg => rfl); (case hr => first | (go_simp; done) | (go_simp; rfl)); intro gb230 hg w12 hbox hb; have n0_ := Aside0.mk (blk_below (g := gb227) (o := .cells #[.int .i64 a0_0, .int .i64 a0_1] 23 (0, 0)) (by (with_reducible repeat (first | refine blk_drewN ?_ _ | refine blk_drew ?_ | refine blk_alloc ?_ _)); exact BK227.out) hb); have n1_ := Aside0.mk (blk_below (g := gb228) (o := .cells #[.int .i64 a1_0, .int .i64 a1_1] 23 (0, 0)) (by (with_reducible repeat (first | refine blk_drewN ?_ _ | refine blk_drew ?_ | refine blk_alloc ?_ _)); exact BK228.out) hb); have n2_ := Aside0.mk (blk_below (g := gb229) (o := .cells #[.int .i64 a2_0, .int .i64 a2_1] 23 (0, 0)) (by (with_reducible repeat (first | refine blk_drewN ?_ _ | refine blk_drew ?_ | refine blk_alloc ?_ _)); exact BK229.out) hb); have n3_ := Aside0.mk (below_step (by repeat (first | (with_reducible first | exact HB.out | apply below_alloc | apply pw_below_drewN | apply below_drew1 | refine below_set ?_ GE227.out | refine below_set ?_ GE228.out | refine below_set ?_ GE229.out) | exact HB.out)) hb); have n4_ := Aside0.mk (hbox); have n5_ := Aside0.mk ((by rw [hg]; exact (below_size (by repeat (first | (with_reducible first | exact HB.out | apply below_alloc | apply pw_below_drewN | apply below_drew1 | refine below_set ?_ GE227.out | refine below_set ?_ GE228.out | refine below_set ?_ GE229.out) | exact HB.out))) : w.heap.size ≤ gb230)); have n6_ := Aside0.mk ((by rw [hg]; exact (below_size (by repeat (first | (with_reducible first | exact HB.out | apply below_alloc | apply pw_below_drewN | apply below_drew1 | refine below_set ?_ GE227.out | refine below_set ?_ GE228.out | refine below_set ?_ GE229.out) | exact HB.out))) : w.heap.size ≤ gb230)); have n7_ := Aside0.mk ((by rw [hg]; exact Nat.ne_of_lt (blk_lt (g := gb227) (o := .cells #[.int .i64 a0_0, .int .i64 a0_1] 23 (0, 0)) (by (with_reducible repeat (first | refine blk_drewN ?_ _ | refine blk_drew ?_ | refine blk_alloc ?_ _)); exact BK227.out)) : gb227 ≠ gb230)); have n8_ := Aside0.mk ((by rw [hg]; exact Nat.ne_of_gt (blk_lt (g := gb227) (o := .cells #[.int .i64 a0_0, .int .i64 a0_1] 23 (0, 0)) (by (with_reducible repeat (first | refine blk_drewN ?_ _ | refine blk_drew ?_ | refine blk_alloc ?_ _)); exact BK227.out)) : gb230 ≠ gb227)); have n9_ := Aside0.mk ((by rw [hg]; exact Nat.ne_of_lt (blk_lt (g := gb228) (o := .cells #[.int .i64 a1_0, .int .i64 a1_1] 23 (0, 0)) (by (with_reducible repeat (first | refine blk_drewN ?_ _ | refine blk_drew ?_ | refine blk_alloc ?_ _)); exact BK228.out)) : gb228 ≠ gb230)); have n10_ := Aside0.mk ((by rw [hg]; exact Nat.ne_of_gt (blk_lt (g := gb228) (o := .cells #[.int .i64 a1_0, .int .i64 a1_1] 23 (0, 0)) (by (with_reducible repeat (first | refine blk_drewN ?_ _ | refine blk_drew ?_ | refine blk_alloc ?_ _)); exact BK228.out)) : gb230 ≠ gb228)); have n11_ := Aside0.mk ((by rw [hg]; exact Nat.ne_of_lt (blk_lt (g := gb229) (o := .cells #[.int .i64 a2_0, .int .i64 a2_1] 23 (0, 0)) (by (with_reducible repeat (first | refine blk_drewN ?_ _ | refine blk_drew ?_ | refine blk_alloc ?_ _)); exact BK229.out)) : gb229 ≠ gb230)); have n12_ := Aside0.mk ((by rw [hg]; exact Nat.ne_of_gt (blk_lt (g := gb229) (o := .cells #[.int .i64 a2_0, .int .i64 a2_1] 23 (0, 0)) (by (with_reducible repeat (first | refine blk_drewN ?_ _ | refine blk_drew ?_ | refine blk_alloc ?_ _)); exact BK229.out)) : gb230 ≠ gb229)); clear BK227; clear BK228; clear BK229; clear HB; have BK227 := n0_; have BK228 := n1_; have BK229 := n2_; have HB := n3_; have BK230 := n4_; have GW230 := n5_; have GE230 := n6_; have NB227_230 := n7_; have NB230_227 := n8_; have NB228_230 := n9_; have NB230_228 := n10_; have NB229_230 := n11_; have NB230_229 := n12_; clear n0_ n1_ n2_ n3_ n4_ n5_ n6_ n7_ n8_ n9_ n10_ n11_ n12_; clear hb hbox hg) | ((with_reducible refine gate_callee (f := 15) rfl ?_); refine goesL_ (some 14) rfl rfl Try.func15 (by kernel_rfl) rfl #[] rfl (by (try simp only [List.map_toArray, List.map_cons, List.map_nil]); first | done | rfl | (simp only [List.length_drop, List.length_take]; rfl)) ?_; (with_reducible refine (valancelaw10_works.calls  true _ A6.out).mono ?_); rintro e w13 ⟨rfl, hb⟩; refine ⟨_, rfl, ?_⟩; have n0_ := Aside0.mk (blk_below (g := gb227) (o := .cells #[.int .i64 a0_0, .int .i64 a0_1] 23 (0, 0)) (by (with_reducible repeat (first | refine blk_drewN ?_ _ | refine blk_drew ?_ | refine blk_alloc ?_ _)); exact BK227.out) hb); have n1_ := Aside0.mk (blk_below (g := gb228) (o := .cells #[.int .i64 a1_0, .int .i64 a1_1] 23 (0, 0)) (by (with_reducible repeat (first | refine blk_drewN ?_ _ | refine blk_drew ?_ | refine blk_alloc ?_ _)); exact BK228.out) hb); have n2_ := Aside0.mk (blk_below (g := gb229) (o := .cells #[.int .i64 a2_0, .int .i64 a2_1] 23 (0, 0)) (by (with_reducible repeat (first | refine blk_drewN ?_ _ | refine blk_drew ?_ | refine blk_alloc ?_ _)); exact BK229.out) hb); have n3_ := Aside0.mk (blk_below (g := gb230) (o := .cells #[.bool a3_0, .int .i64 a3_1] 25 (0, 0)) (by (with_reducible repeat (first | refine blk_drewN ?_ _ | refine blk_drew ?_ | refine blk_alloc ?_ _)); exact BK230.out) hb); have n4_ := Aside0.mk (below_step (by repeat (first | (with_reducible first | exact HB.out | apply below_alloc | apply pw_below_drewN | apply below_drew1 | refine below_set ?_ GE227.out | refine below_set ?_ GE228.out | refine below_set ?_ GE229.out | refine below_set ?_ GE230.out) | exact HB.out)) hb); clear BK227; clear BK228; clear BK229; clear BK230; clear HB; have BK227 := n0_; have BK228 := n1_; have BK229 := n2_; have BK230 := n3_; have HB := n4_; clear n0_ n1_ n2_ n3_ n4_; (try clear hb); (try clear hb2); (try clear hk); (try clear hi)))
    (try simp only [Act.put, List.setIfInBounds_toArray, List.set_cons_zero, List.set_cons_succ])
    go_cut [47] (fun v47 wc => ∃ (kq : Nat) (x47_7 : Bool), v47 = .bool x47_7 ∧ Aside0 (valancelaw10_StickMore.j0 kq a4 true x47_7 a0_0 a0_1 a1_0 a1_1 a2_0 a2_1 a3_0 a3_1 = some r) ∧ Aside0 (kq ≤ k) ∧ Aside0 (wc.heap[gb227]? = some (.cells #[.int .i64 a0_0, .int .i64 a0_1] 23 (0, 0))) ∧ Aside0 (wc.heap[gb228]? = some (.cells #[.int .i64 a1_0, .int .i64 a1_1] 23 (0, 0))) ∧ Aside0 (wc.heap[gb229]? = some (.cells #[.int .i64 a2_0, .int .i64 a2_1] 23 (0, 0))) ∧ Aside0 (wc.heap[gb230]? = some (.cells #[.bool a3_0, .int .i64 a3_1] 25 (0, 0))) ∧ Aside0 (Below w.heap.size w wc))
    case first =>
      have H := HC8.out
      clear HC8
      replace H := Option.bind_eq_some_iff.mp H
      obtain ⟨t232, A140, H⟩ := H
      replace H : (if t232 = true then ((valancelaw10_small.f a1_0 a1_1).bind fun t233 => (if t233 = true then ((valancelaw10_small.f a2_0 a2_1).bind fun t234 => (if t234 = true then (if a3_1 < (-1073741824) then (valancelaw10_StickMore.j0 k a4 true true a0_0 a0_1 a1_0 a1_1 a2_0 a2_1 a3_0 a3_1) else (if a3_1 > 1073741824 then (valancelaw10_StickMore.j0 k a4 true true a0_0 a0_1 a1_0 a1_1 a2_0 a2_1 a3_0 a3_1) else (if a4 < 0 then (valancelaw10_StickMore.j0 k a4 true true a0_0 a0_1 a1_0 a1_1 a2_0 a2_1 a3_0 a3_1) else (valancelaw10_StickMore.j0 k a4 true (decide (a4 > 1073741824)) a0_0 a0_1 a1_0 a1_1 a2_0 a2_1 a3_0 a3_1)))) else (valancelaw10_StickMore.j0 k a4 true true a0_0 a0_1 a1_0 a1_1 a2_0 a2_1 a3_0 a3_1))) else (valancelaw10_StickMore.j0 k a4 true true a0_0 a0_1 a1_0 a1_1 a2_0 a2_1 a3_0 a3_1))) else (valancelaw10_StickMore.j0 k a4 true true a0_0 a0_1 a1_0 a1_1 a2_0 a2_1 a3_0 a3_1)) = some r := H
      have A14 := Aside0.mk A140
      clear A140
      by_cases c15 : t232 = true
      · subst c15
        have H1 : ((valancelaw10_small.f a1_0 a1_1).bind fun t233 => (if t233 = true then ((valancelaw10_small.f a2_0 a2_1).bind fun t234 => (if t234 = true then (if a3_1 < (-1073741824) then (valancelaw10_StickMore.j0 k a4 true true a0_0 a0_1 a1_0 a1_1 a2_0 a2_1 a3_0 a3_1) else (if a3_1 > 1073741824 then (valancelaw10_StickMore.j0 k a4 true true a0_0 a0_1 a1_0 a1_1 a2_0 a2_1 a3_0 a3_1) else (if a4 < 0 then (valancelaw10_StickMore.j0 k a4 true true a0_0 a0_1 a1_0 a1_1 a2_0 a2_1 a3_0 a3_1) else (valancelaw10_StickMore.j0 k a4 true (decide (a4 > 1073741824)) a0_0 a0_1 a1_0 a1_1 a2_0 a2_1 a3_0 a3_1)))) else (valancelaw10_StickMore.j0 k a4 true true a0_0 a0_1 a1_0 a1_1 a2_0 a2_1 a3_0 a3_1))) else (valancelaw10_StickMore.j0 k a4 true true a0_0 a0_1 a1_0 a1_1 a2_0 a2_1 a3_0 a3_1))) = some r := by rw [if_pos rfl] at H; exact H
        clear H
        have H := H1
        clear H1
        replace H := Option.bind_eq_some_iff.mp H
        obtain ⟨t233, A160, H⟩ := H
        replace H : (if t233 = true then ((valancelaw10_small.f a2_0 a2_1).bind fun t234 => (if t234 = true then (if a3_1 < (-1073741824) then (valancelaw10_StickMore.j0 k a4 true true a0_0 a0_1 a1_0 a1_1 a2_0 a2_1 a3_0 a3_1) else (if a3_1 > 1073741824 then (valancelaw10_StickMore.j0 k a4 true true a0_0 a0_1 a1_0 a1_1 a2_0 a2_1 a3_0 a3_1) else (if a4 < 0 then (valancelaw10_StickMore.j0 k a4 true true a0_0 a0_1 a1_0 a1_1 a2_0 a2_1 a3_0 a3_1) else (valancelaw10_StickMore.j0 k a4 true (decide (a4 > 1073741824)) a0_0 a0_1 a1_0 a1_1 a2_0 a2_1 a3_0 a3_1)))) else (valancelaw10_StickMore.j0 k a4 true true a0_0 a0_1 a1_0 a1_1 a2_0 a2_1 a3_0 a3_1))) else (valancelaw10_StickMore.j0 k a4 true true a0_0 a0_1 a1_0 a1_1 a2_0 a2_1 a3_0 a3_1)) = some r := H
        have A16 := Aside0.mk A160
        clear A160
        by_cases c17 : t233 = true
        · subst c17
          have H1 : ((valancelaw10_small.f a2_0 a2_1).bind fun t234 => (if t234 = true then (if a3_1 < (-1073741824) then (valancelaw10_StickMore.j0 k a4 true true a0_0 a0_1 a1_0 a1_1 a2_0 a2_1 a3_0 a3_1) else (if a3_1 > 1073741824 then (valancelaw10_StickMore.j0 k a4 true true a0_0 a0_1 a1_0 a1_1 a2_0 a2_1 a3_0 a3_1) else (if a4 < 0 then (valancelaw10_StickMore.j0 k a4 true true a0_0 a0_1 a1_0 a1_1 a2_0 a2_1 a3_0 a3_1) else (valancelaw10_StickMore.j0 k a4 true (decide (a4 > 1073741824)) a0_0 a0_1 a1_0 a1_1 a2_0 a2_1 a3_0 a3_1)))) else (valancelaw10_StickMore.j0 k a4 true true a0_0 a0_1 a1_0 a1_1 a2_0 a2_1 a3_0 a3_1))) = some r := by rw [if_pos rfl] at H; exact H
          clear H
          have H := H1
          clear H1
          replace H := Option.bind_eq_some_iff.mp H
          obtain ⟨t234, A180, H⟩ := H
          replace H : (if t234 = true then (if a3_1 < (-1073741824) then (valancelaw10_StickMore.j0 k a4 true true a0_0 a0_1 a1_0 a1_1 a2_0 a2_1 a3_0 a3_1) else (if a3_1 > 1073741824 then (valancelaw10_StickMore.j0 k a4 true true a0_0 a0_1 a1_0 a1_1 a2_0 a2_1 a3_0 a3_1) else (if a4 < 0 then (valancelaw10_StickMore.j0 k a4 true true a0_0 a0_1 a1_0 a1_1 a2_0 a2_1 a3_0 a3_1) else (valancelaw10_StickMore.j0 k a4 true (decide (a4 > 1073741824)) a0_0 a0_1 a1_0 a1_1 a2_0 a2_1 a3_0 a3_1)))) else (valancelaw10_StickMore.j0 k a4 true true a0_0 a0_1 a1_0 a1_1 a2_0 a2_1 a3_0 a3_1)) = some r := H
          have A18 := Aside0.mk A180
          clear A180
          by_cases c19 : t234 = true
          · subst c19
            have H1 : (if a3_1 < (-1073741824) then (valancelaw10_StickMore.j0 k a4 true true a0_0 a0_1 a1_0 a1_1 a2_0 a2_1 a3_0 a3_1) else (if a3_1 > 1073741824 then (valancelaw10_StickMore.j0 k a4 true true a0_0 a0_1 a1_0 a1_1 a2_0 a2_1 a3_0 a3_1) else (if a4 < 0 then (valancelaw10_StickMore.j0 k a4 true true a0_0 a0_1 a1_0 a1_1 a2_0 a2_1 a3_0 a3_1) else (valancelaw10_StickMore.j0 k a4 true (decide (a4 > 1073741824)) a0_0 a0_1 a1_0 a1_1 a2_0 a2_1 a3_0 a3_1)))) = some r := by rw [if_pos rfl] at H; exact H
            clear H
            have H := H1
            clear H1
            by_cases c20 : a3_1 < (-1073741824)
            · rw [if_pos c20] at H
              have c20b0 : decide (a3_1 < (-1073741824)) = true := decide_eq_true c20
              clear c20
              (first | rw [c20b0] | (simp only [i64_w, i32_w]; rw [c20b0]) | skip)
              have H' := Aside0.mk H
              clear H
              have hnb21 := NB227_228.out
              have hnc21 := NB228_227.out
              have hnb22 := NB227_229.out
              have hnc22 := NB229_227.out
              have hnb23 := NB227_230.out
              have hnc23 := NB230_227.out
              have hcz24_0 : w13.cell? ⟨gb227, 0, none⟩ = some (.int .i64 a0_0) := (blk_cell BK227.out 0).trans rfl
              have hcz24_1 : w13.cell? ⟨gb227, 1, none⟩ = some (.int .i64 a0_1) := (blk_cell BK227.out 1).trans rfl
              have hfz24_0 := blk_frozen BK227.out 0
              have hfz24_1 := blk_frozen BK227.out 1
              go_wp2_with (first | ((with_reducible refine gate_callee (f := 23) rfl ?_); refine goesL_ (some 18) rfl rfl Try.func23 (by kernel_rfl) rfl #[.agg #[.int .i64 a0_0, .int .i64 a0_1]] rfl (by (try simp only [List.map_toArray, List.map_cons, List.map_nil]); first | done | rfl | (simp only [List.length_drop, List.length_take]; rfl)) ?_; (with_reducible refine (valancelaw10_small.calls a0_0 a0_1 true _ A14.out).mono ?_); rintro e w25 ⟨rfl, hb⟩; refine ⟨_, rfl, ?_⟩; have n0_ := Aside0.mk (blk_below (g := gb227) (o := .cells #[.int .i64 a0_0, .int .i64 a0_1] 23 (0, 0)) (by (with_reducible repeat (first | refine blk_drewN ?_ _ | refine blk_drew ?_ | refine blk_alloc ?_ _)); exact BK227.out) hb); have n1_ := Aside0.mk (blk_below (g := gb228) (o := .cells #[.int .i64 a1_0, .int .i64 a1_1] 23 (0, 0)) (by (with_reducible repeat (first | refine blk_drewN ?_ _ | refine blk_drew ?_ | refine blk_alloc ?_ _)); exact BK228.out) hb); have n2_ := Aside0.mk (blk_below (g := gb229) (o := .cells #[.int .i64 a2_0, .int .i64 a2_1] 23 (0, 0)) (by (with_reducible repeat (first | refine blk_drewN ?_ _ | refine blk_drew ?_ | refine blk_alloc ?_ _)); exact BK229.out) hb); have n3_ := Aside0.mk (blk_below (g := gb230) (o := .cells #[.bool a3_0, .int .i64 a3_1] 25 (0, 0)) (by (with_reducible repeat (first | refine blk_drewN ?_ _ | refine blk_drew ?_ | refine blk_alloc ?_ _)); exact BK230.out) hb); have n4_ := Aside0.mk (below_step (by repeat (first | (with_reducible first | exact HB.out | apply below_alloc | apply pw_below_drewN | apply below_drew1 | refine below_set ?_ GE227.out | refine below_set ?_ GE228.out | refine below_set ?_ GE229.out | refine below_set ?_ GE230.out) | exact HB.out)) hb); clear BK227; clear BK228; clear BK229; clear BK230; clear HB; have BK227 := n0_; have BK228 := n1_; have BK229 := n2_; have BK230 := n3_; have HB := n4_; clear n0_ n1_ n2_ n3_ n4_; (try clear hb); (try clear hb2); (try clear hk); (try clear hi); have hnb26 := NB228_229.out; have hnc26 := NB229_228.out; have hnb27 := NB228_230.out; have hnc27 := NB230_228.out; have hcz28_0 : w25.cell? ⟨gb228, 0, none⟩ = some (.int .i64 a1_0) := (blk_cell BK228.out 0).trans rfl; have hcz28_1 : w25.cell? ⟨gb228, 1, none⟩ = some (.int .i64 a1_1) := (blk_cell BK228.out 1).trans rfl; have hfz28_0 := blk_frozen BK228.out 0; have hfz28_1 := blk_frozen BK228.out 1) | (go_at_call 23; (with_reducible refine (valancelaw10_small.calls a1_0 a1_1 true _ A16.out).mono ?_); rintro e w29 ⟨rfl, hb⟩; have n0_ := Aside0.mk (blk_below (g := gb227) (o := .cells #[.int .i64 a0_0, .int .i64 a0_1] 23 (0, 0)) (by (with_reducible repeat (first | refine blk_drewN ?_ _ | refine blk_drew ?_ | refine blk_alloc ?_ _)); exact BK227.out) hb); have n1_ := Aside0.mk (blk_below (g := gb228) (o := .cells #[.int .i64 a1_0, .int .i64 a1_1] 23 (0, 0)) (by (with_reducible repeat (first | refine blk_drewN ?_ _ | refine blk_drew ?_ | refine blk_alloc ?_ _)); exact BK228.out) hb); have n2_ := Aside0.mk (blk_below (g := gb229) (o := .cells #[.int .i64 a2_0, .int .i64 a2_1] 23 (0, 0)) (by (with_reducible repeat (first | refine blk_drewN ?_ _ | refine blk_drew ?_ | refine blk_alloc ?_ _)); exact BK229.out) hb); have n3_ := Aside0.mk (blk_below (g := gb230) (o := .cells #[.bool a3_0, .int .i64 a3_1] 25 (0, 0)) (by (with_reducible repeat (first | refine blk_drewN ?_ _ | refine blk_drew ?_ | refine blk_alloc ?_ _)); exact BK230.out) hb); have n4_ := Aside0.mk (below_step (by repeat (first | (with_reducible first | exact HB.out | apply below_alloc | apply pw_below_drewN | apply below_drew1 | refine below_set ?_ GE227.out | refine below_set ?_ GE228.out | refine below_set ?_ GE229.out | refine below_set ?_ GE230.out) | exact HB.out)) hb); clear BK227; clear BK228; clear BK229; clear BK230; clear HB; have BK227 := n0_; have BK228 := n1_; have BK229 := n2_; have BK230 := n3_; have HB := n4_; clear n0_ n1_ n2_ n3_ n4_; (try clear hb); (try clear hb2); (try clear hk); (try clear hi); have hnb30 := NB229_230.out; have hnc30 := NB230_229.out; have hcz31_0 : w29.cell? ⟨gb229, 0, none⟩ = some (.int .i64 a2_0) := (blk_cell BK229.out 0).trans rfl; have hcz31_1 : w29.cell? ⟨gb229, 1, none⟩ = some (.int .i64 a2_1) := (blk_cell BK229.out 1).trans rfl; have hfz31_0 := blk_frozen BK229.out 0; have hfz31_1 := blk_frozen BK229.out 1) | (go_at_call 23; (with_reducible refine (valancelaw10_small.calls a2_0 a2_1 true _ A18.out).mono ?_); rintro e w32 ⟨rfl, hb⟩; have n0_ := Aside0.mk (blk_below (g := gb227) (o := .cells #[.int .i64 a0_0, .int .i64 a0_1] 23 (0, 0)) (by (with_reducible repeat (first | refine blk_drewN ?_ _ | refine blk_drew ?_ | refine blk_alloc ?_ _)); exact BK227.out) hb); have n1_ := Aside0.mk (blk_below (g := gb228) (o := .cells #[.int .i64 a1_0, .int .i64 a1_1] 23 (0, 0)) (by (with_reducible repeat (first | refine blk_drewN ?_ _ | refine blk_drew ?_ | refine blk_alloc ?_ _)); exact BK228.out) hb); have n2_ := Aside0.mk (blk_below (g := gb229) (o := .cells #[.int .i64 a2_0, .int .i64 a2_1] 23 (0, 0)) (by (with_reducible repeat (first | refine blk_drewN ?_ _ | refine blk_drew ?_ | refine blk_alloc ?_ _)); exact BK229.out) hb); have n3_ := Aside0.mk (blk_below (g := gb230) (o := .cells #[.bool a3_0, .int .i64 a3_1] 25 (0, 0)) (by (with_reducible repeat (first | refine blk_drewN ?_ _ | refine blk_drew ?_ | refine blk_alloc ?_ _)); exact BK230.out) hb); have n4_ := Aside0.mk (below_step (by repeat (first | (with_reducible first | exact HB.out | apply below_alloc | apply pw_below_drewN | apply below_drew1 | refine below_set ?_ GE227.out | refine below_set ?_ GE228.out | refine below_set ?_ GE229.out | refine below_set ?_ GE230.out) | exact HB.out)) hb); clear BK227; clear BK228; clear BK229; clear BK230; clear HB; have BK227 := n0_; have BK228 := n1_; have BK229 := n2_; have BK230 := n3_; have HB := n4_; clear n0_ n1_ n2_ n3_ n4_; (try clear hb); (try clear hb2); (try clear hk); (try clear hi); have hcz33_0 : w32.cell? ⟨gb230, 0, none⟩ = some (.bool a3_0) := (blk_cell BK230.out 0).trans rfl; have hcz33_1 : w32.cell? ⟨gb230, 1, none⟩ = some (.int .i64 a3_1) := (blk_cell BK230.out 1).trans rfl; have hfz33_0 := blk_frozen BK230.out 0; have hfz33_1 := blk_frozen BK230.out 1))
              go_meet
              case rel => exact ⟨_, (true), (by first | rfl | (simp; done) | (simp [*]; done)), H', ⟨by first | omega | exact Nat.le_refl _⟩, ⟨by (with_reducible repeat (first | refine blk_drewN ?_ _ | refine blk_drew ?_ | refine blk_alloc ?_ _)); exact BK227.out⟩, ⟨by (with_reducible repeat (first | refine blk_drewN ?_ _ | refine blk_drew ?_ | refine blk_alloc ?_ _)); exact BK228.out⟩, ⟨by (with_reducible repeat (first | refine blk_drewN ?_ _ | refine blk_drew ?_ | refine blk_alloc ?_ _)); exact BK229.out⟩, ⟨by (with_reducible repeat (first | refine blk_drewN ?_ _ | refine blk_drew ?_ | refine blk_alloc ?_ _)); exact BK230.out⟩, ⟨by repeat (first | (with_reducible first | exact HB.out | apply below_alloc | apply pw_below_drewN | apply below_drew1 | refine below_set ?_ GE227.out | refine below_set ?_ GE228.out | refine below_set ?_ GE229.out | refine below_set ?_ GE230.out) | exact HB.out)⟩⟩
            · rw [if_neg c20] at H
              have c20b0 : decide (a3_1 < (-1073741824)) = false := decide_eq_false c20
              clear c20
              (first | rw [c20b0] | (simp only [i64_w, i32_w]; rw [c20b0]) | skip)
              by_cases c34 : a3_1 > 1073741824
              · rw [if_pos c34] at H
                have c34b0 : decide (1073741824 < a3_1) = true := decide_eq_true c34
                clear c34
                have H' := Aside0.mk H
                clear H
                have hnb35 := NB227_228.out
                have hnc35 := NB228_227.out
                have hnb36 := NB227_229.out
                have hnc36 := NB229_227.out
                have hnb37 := NB227_230.out
                have hnc37 := NB230_227.out
                have hcz38_0 : w13.cell? ⟨gb227, 0, none⟩ = some (.int .i64 a0_0) := (blk_cell BK227.out 0).trans rfl
                have hcz38_1 : w13.cell? ⟨gb227, 1, none⟩ = some (.int .i64 a0_1) := (blk_cell BK227.out 1).trans rfl
                have hfz38_0 := blk_frozen BK227.out 0
                have hfz38_1 := blk_frozen BK227.out 1
                go_wp2_with (first | ((with_reducible refine gate_callee (f := 23) rfl ?_); refine goesL_ (some 18) rfl rfl Try.func23 (by kernel_rfl) rfl #[.agg #[.int .i64 a0_0, .int .i64 a0_1]] rfl (by (try simp only [List.map_toArray, List.map_cons, List.map_nil]); first | done | rfl | (simp only [List.length_drop, List.length_take]; rfl)) ?_; (with_reducible refine (valancelaw10_small.calls a0_0 a0_1 true _ A14.out).mono ?_); rintro e w39 ⟨rfl, hb⟩; refine ⟨_, rfl, ?_⟩; have n0_ := Aside0.mk (blk_below (g := gb227) (o := .cells #[.int .i64 a0_0, .int .i64 a0_1] 23 (0, 0)) (by (with_reducible repeat (first | refine blk_drewN ?_ _ | refine blk_drew ?_ | refine blk_alloc ?_ _)); exact BK227.out) hb); have n1_ := Aside0.mk (blk_below (g := gb228) (o := .cells #[.int .i64 a1_0, .int .i64 a1_1] 23 (0, 0)) (by (with_reducible repeat (first | refine blk_drewN ?_ _ | refine blk_drew ?_ | refine blk_alloc ?_ _)); exact BK228.out) hb); have n2_ := Aside0.mk (blk_below (g := gb229) (o := .cells #[.int .i64 a2_0, .int .i64 a2_1] 23 (0, 0)) (by (with_reducible repeat (first | refine blk_drewN ?_ _ | refine blk_drew ?_ | refine blk_alloc ?_ _)); exact BK229.out) hb); have n3_ := Aside0.mk (blk_below (g := gb230) (o := .cells #[.bool a3_0, .int .i64 a3_1] 25 (0, 0)) (by (with_reducible repeat (first | refine blk_drewN ?_ _ | refine blk_drew ?_ | refine blk_alloc ?_ _)); exact BK230.out) hb); have n4_ := Aside0.mk (below_step (by repeat (first | (with_reducible first | exact HB.out | apply below_alloc | apply pw_below_drewN | apply below_drew1 | refine below_set ?_ GE227.out | refine below_set ?_ GE228.out | refine below_set ?_ GE229.out | refine below_set ?_ GE230.out) | exact HB.out)) hb); clear BK227; clear BK228; clear BK229; clear BK230; clear HB; have BK227 := n0_; have BK228 := n1_; have BK229 := n2_; have BK230 := n3_; have HB := n4_; clear n0_ n1_ n2_ n3_ n4_; (try clear hb); (try clear hb2); (try clear hk); (try clear hi); have hnb40 := NB228_229.out; have hnc40 := NB229_228.out; have hnb41 := NB228_230.out; have hnc41 := NB230_228.out; have hcz42_0 : w39.cell? ⟨gb228, 0, none⟩ = some (.int .i64 a1_0) := (blk_cell BK228.out 0).trans rfl; have hcz42_1 : w39.cell? ⟨gb228, 1, none⟩ = some (.int .i64 a1_1) := (blk_cell BK228.out 1).trans rfl; have hfz42_0 := blk_frozen BK228.out 0; have hfz42_1 := blk_frozen BK228.out 1) | (go_at_call 23; (with_reducible refine (valancelaw10_small.calls a1_0 a1_1 true _ A16.out).mono ?_); rintro e w43 ⟨rfl, hb⟩; have n0_ := Aside0.mk (blk_below (g := gb227) (o := .cells #[.int .i64 a0_0, .int .i64 a0_1] 23 (0, 0)) (by (with_reducible repeat (first | refine blk_drewN ?_ _ | refine blk_drew ?_ | refine blk_alloc ?_ _)); exact BK227.out) hb); have n1_ := Aside0.mk (blk_below (g := gb228) (o := .cells #[.int .i64 a1_0, .int .i64 a1_1] 23 (0, 0)) (by (with_reducible repeat (first | refine blk_drewN ?_ _ | refine blk_drew ?_ | refine blk_alloc ?_ _)); exact BK228.out) hb); have n2_ := Aside0.mk (blk_below (g := gb229) (o := .cells #[.int .i64 a2_0, .int .i64 a2_1] 23 (0, 0)) (by (with_reducible repeat (first | refine blk_drewN ?_ _ | refine blk_drew ?_ | refine blk_alloc ?_ _)); exact BK229.out) hb); have n3_ := Aside0.mk (blk_below (g := gb230) (o := .cells #[.bool a3_0, .int .i64 a3_1] 25 (0, 0)) (by (with_reducible repeat (first | refine blk_drewN ?_ _ | refine blk_drew ?_ | refine blk_alloc ?_ _)); exact BK230.out) hb); have n4_ := Aside0.mk (below_step (by repeat (first | (with_reducible first | exact HB.out | apply below_alloc | apply pw_below_drewN | apply below_drew1 | refine below_set ?_ GE227.out | refine below_set ?_ GE228.out | refine below_set ?_ GE229.out | refine below_set ?_ GE230.out) | exact HB.out)) hb); clear BK227; clear BK228; clear BK229; clear BK230; clear HB; have BK227 := n0_; have BK228 := n1_; have BK229 := n2_; have BK230 := n3_; have HB := n4_; clear n0_ n1_ n2_ n3_ n4_; (try clear hb); (try clear hb2); (try clear hk); (try clear hi); have hnb44 := NB229_230.out; have hnc44 := NB230_229.out; have hcz45_0 : w43.cell? ⟨gb229, 0, none⟩ = some (.int .i64 a2_0) := (blk_cell BK229.out 0).trans rfl; have hcz45_1 : w43.cell? ⟨gb229, 1, none⟩ = some (.int .i64 a2_1) := (blk_cell BK229.out 1).trans rfl; have hfz45_0 := blk_frozen BK229.out 0; have hfz45_1 := blk_frozen BK229.out 1) | (go_at_call 23; (with_reducible refine (valancelaw10_small.calls a2_0 a2_1 true _ A18.out).mono ?_); rintro e w46 ⟨rfl, hb⟩; have n0_ := Aside0.mk (blk_below (g := gb227) (o := .cells #[.int .i64 a0_0, .int .i64 a0_1] 23 (0, 0)) (by (with_reducible repeat (first | refine blk_drewN ?_ _ | refine blk_drew ?_ | refine blk_alloc ?_ _)); exact BK227.out) hb); have n1_ := Aside0.mk (blk_below (g := gb228) (o := .cells #[.int .i64 a1_0, .int .i64 a1_1] 23 (0, 0)) (by (with_reducible repeat (first | refine blk_drewN ?_ _ | refine blk_drew ?_ | refine blk_alloc ?_ _)); exact BK228.out) hb); have n2_ := Aside0.mk (blk_below (g := gb229) (o := .cells #[.int .i64 a2_0, .int .i64 a2_1] 23 (0, 0)) (by (with_reducible repeat (first | refine blk_drewN ?_ _ | refine blk_drew ?_ | refine blk_alloc ?_ _)); exact BK229.out) hb); have n3_ := Aside0.mk (blk_below (g := gb230) (o := .cells #[.bool a3_0, .int .i64 a3_1] 25 (0, 0)) (by (with_reducible repeat (first | refine blk_drewN ?_ _ | refine blk_drew ?_ | refine blk_alloc ?_ _)); exact BK230.out) hb); have n4_ := Aside0.mk (below_step (by repeat (first | (with_reducible first | exact HB.out | apply below_alloc | apply pw_below_drewN | apply below_drew1 | refine below_set ?_ GE227.out | refine below_set ?_ GE228.out | refine below_set ?_ GE229.out | refine below_set ?_ GE230.out) | exact HB.out)) hb); clear BK227; clear BK228; clear BK229; clear BK230; clear HB; have BK227 := n0_; have BK228 := n1_; have BK229 := n2_; have BK230 := n3_; have HB := n4_; clear n0_ n1_ n2_ n3_ n4_; (try clear hb); (try clear hb2); (try clear hk); (try clear hi); have hcz47_0 : w46.cell? ⟨gb230, 0, none⟩ = some (.bool a3_0) := (blk_cell BK230.out 0).trans rfl; have hcz47_1 : w46.cell? ⟨gb230, 1, none⟩ = some (.int .i64 a3_1) := (blk_cell BK230.out 1).trans rfl; have hfz47_0 := blk_frozen BK230.out 0; have hfz47_1 := blk_frozen BK230.out 1))
                go_meet
                case rel => exact ⟨_, (true), (by first | rfl | (simp; done) | (simp [*]; done)), H', ⟨by first | omega | exact Nat.le_refl _⟩, ⟨by (with_reducible repeat (first | refine blk_drewN ?_ _ | refine blk_drew ?_ | refine blk_alloc ?_ _)); exact BK227.out⟩, ⟨by (with_reducible repeat (first | refine blk_drewN ?_ _ | refine blk_drew ?_ | refine blk_alloc ?_ _)); exact BK228.out⟩, ⟨by (with_reducible repeat (first | refine blk_drewN ?_ _ | refine blk_drew ?_ | refine blk_alloc ?_ _)); exact BK229.out⟩, ⟨by (with_reducible repeat (first | refine blk_drewN ?_ _ | refine blk_drew ?_ | refine blk_alloc ?_ _)); exact BK230.out⟩, ⟨by repeat (first | (with_reducible first | exact HB.out | apply below_alloc | apply pw_below_drewN | apply below_drew1 | refine below_set ?_ GE227.out | refine below_set ?_ GE228.out | refine below_set ?_ GE229.out | refine below_set ?_ GE230.out) | exact HB.out)⟩⟩
              · rw [if_neg c34] at H
                have c34b0 : decide (1073741824 < a3_1) = false := decide_eq_false c34
                clear c34
                by_cases c48 : a4 < 0
                · rw [if_pos c48] at H
                  have c48b0 : decide (a4 < 0) = true := decide_eq_true c48
                  clear c48
                  have H' := Aside0.mk H
                  clear H
                  have hnb49 := NB227_228.out
                  have hnc49 := NB228_227.out
                  have hnb50 := NB227_229.out
                  have hnc50 := NB229_227.out
                  have hnb51 := NB227_230.out
                  have hnc51 := NB230_227.out
                  have hcz52_0 : w13.cell? ⟨gb227, 0, none⟩ = some (.int .i64 a0_0) := (blk_cell BK227.out 0).trans rfl
                  have hcz52_1 : w13.cell? ⟨gb227, 1, none⟩ = some (.int .i64 a0_1) := (blk_cell BK227.out 1).trans rfl
                  have hfz52_0 := blk_frozen BK227.out 0
                  have hfz52_1 := blk_frozen BK227.out 1
                  go_wp2_with (first | ((with_reducible refine gate_callee (f := 23) rfl ?_); refine goesL_ (some 18) rfl rfl Try.func23 (by kernel_rfl) rfl #[.agg #[.int .i64 a0_0, .int .i64 a0_1]] rfl (by (try simp only [List.map_toArray, List.map_cons, List.map_nil]); first | done | rfl | (simp only [List.length_drop, List.length_take]; rfl)) ?_; (with_reducible refine (valancelaw10_small.calls a0_0 a0_1 true _ A14.out).mono ?_); rintro e w53 ⟨rfl, hb⟩; refine ⟨_, rfl, ?_⟩; have n0_ := Aside0.mk (blk_below (g := gb227) (o := .cells #[.int .i64 a0_0, .int .i64 a0_1] 23 (0, 0)) (by (with_reducible repeat (first | refine blk_drewN ?_ _ | refine blk_drew ?_ | refine blk_alloc ?_ _)); exact BK227.out) hb); have n1_ := Aside0.mk (blk_below (g := gb228) (o := .cells #[.int .i64 a1_0, .int .i64 a1_1] 23 (0, 0)) (by (with_reducible repeat (first | refine blk_drewN ?_ _ | refine blk_drew ?_ | refine blk_alloc ?_ _)); exact BK228.out) hb); have n2_ := Aside0.mk (blk_below (g := gb229) (o := .cells #[.int .i64 a2_0, .int .i64 a2_1] 23 (0, 0)) (by (with_reducible repeat (first | refine blk_drewN ?_ _ | refine blk_drew ?_ | refine blk_alloc ?_ _)); exact BK229.out) hb); have n3_ := Aside0.mk (blk_below (g := gb230) (o := .cells #[.bool a3_0, .int .i64 a3_1] 25 (0, 0)) (by (with_reducible repeat (first | refine blk_drewN ?_ _ | refine blk_drew ?_ | refine blk_alloc ?_ _)); exact BK230.out) hb); have n4_ := Aside0.mk (below_step (by repeat (first | (with_reducible first | exact HB.out | apply below_alloc | apply pw_below_drewN | apply below_drew1 | refine below_set ?_ GE227.out | refine below_set ?_ GE228.out | refine below_set ?_ GE229.out | refine below_set ?_ GE230.out) | exact HB.out)) hb); clear BK227; clear BK228; clear BK229; clear BK230; clear HB; have BK227 := n0_; have BK228 := n1_; have BK229 := n2_; have BK230 := n3_; have HB := n4_; clear n0_ n1_ n2_ n3_ n4_; (try clear hb); (try clear hb2); (try clear hk); (try clear hi); have hnb54 := NB228_229.out; have hnc54 := NB229_228.out; have hnb55 := NB228_230.out; have hnc55 := NB230_228.out; have hcz56_0 : w53.cell? ⟨gb228, 0, none⟩ = some (.int .i64 a1_0) := (blk_cell BK228.out 0).trans rfl; have hcz56_1 : w53.cell? ⟨gb228, 1, none⟩ = some (.int .i64 a1_1) := (blk_cell BK228.out 1).trans rfl; have hfz56_0 := blk_frozen BK228.out 0; have hfz56_1 := blk_frozen BK228.out 1) | (go_at_call 23; (with_reducible refine (valancelaw10_small.calls a1_0 a1_1 true _ A16.out).mono ?_); rintro e w57 ⟨rfl, hb⟩; have n0_ := Aside0.mk (blk_below (g := gb227) (o := .cells #[.int .i64 a0_0, .int .i64 a0_1] 23 (0, 0)) (by (with_reducible repeat (first | refine blk_drewN ?_ _ | refine blk_drew ?_ | refine blk_alloc ?_ _)); exact BK227.out) hb); have n1_ := Aside0.mk (blk_below (g := gb228) (o := .cells #[.int .i64 a1_0, .int .i64 a1_1] 23 (0, 0)) (by (with_reducible repeat (first | refine blk_drewN ?_ _ | refine blk_drew ?_ | refine blk_alloc ?_ _)); exact BK228.out) hb); have n2_ := Aside0.mk (blk_below (g := gb229) (o := .cells #[.int .i64 a2_0, .int .i64 a2_1] 23 (0, 0)) (by (with_reducible repeat (first | refine blk_drewN ?_ _ | refine blk_drew ?_ | refine blk_alloc ?_ _)); exact BK229.out) hb); have n3_ := Aside0.mk (blk_below (g := gb230) (o := .cells #[.bool a3_0, .int .i64 a3_1] 25 (0, 0)) (by (with_reducible repeat (first | refine blk_drewN ?_ _ | refine blk_drew ?_ | refine blk_alloc ?_ _)); exact BK230.out) hb); have n4_ := Aside0.mk (below_step (by repeat (first | (with_reducible first | exact HB.out | apply below_alloc | apply pw_below_drewN | apply below_drew1 | refine below_set ?_ GE227.out | refine below_set ?_ GE228.out | refine below_set ?_ GE229.out | refine below_set ?_ GE230.out) | exact HB.out)) hb); clear BK227; clear BK228; clear BK229; clear BK230; clear HB; have BK227 := n0_; have BK228 := n1_; have BK229 := n2_; have BK230 := n3_; have HB := n4_; clear n0_ n1_ n2_ n3_ n4_; (try clear hb); (try clear hb2); (try clear hk); (try clear hi); have hnb58 := NB229_230.out; have hnc58 := NB230_229.out; have hcz59_0 : w57.cell? ⟨gb229, 0, none⟩ = some (.int .i64 a2_0) := (blk_cell BK229.out 0).trans rfl; have hcz59_1 : w57.cell? ⟨gb229, 1, none⟩ = some (.int .i64 a2_1) := (blk_cell BK229.out 1).trans rfl; have hfz59_0 := blk_frozen BK229.out 0; have hfz59_1 := blk_frozen BK229.out 1) | (go_at_call 23; (with_reducible refine (valancelaw10_small.calls a2_0 a2_1 true _ A18.out).mono ?_); rintro e w60 ⟨rfl, hb⟩; have n0_ := Aside0.mk (blk_below (g := gb227) (o := .cells #[.int .i64 a0_0, .int .i64 a0_1] 23 (0, 0)) (by (with_reducible repeat (first | refine blk_drewN ?_ _ | refine blk_drew ?_ | refine blk_alloc ?_ _)); exact BK227.out) hb); have n1_ := Aside0.mk (blk_below (g := gb228) (o := .cells #[.int .i64 a1_0, .int .i64 a1_1] 23 (0, 0)) (by (with_reducible repeat (first | refine blk_drewN ?_ _ | refine blk_drew ?_ | refine blk_alloc ?_ _)); exact BK228.out) hb); have n2_ := Aside0.mk (blk_below (g := gb229) (o := .cells #[.int .i64 a2_0, .int .i64 a2_1] 23 (0, 0)) (by (with_reducible repeat (first | refine blk_drewN ?_ _ | refine blk_drew ?_ | refine blk_alloc ?_ _)); exact BK229.out) hb); have n3_ := Aside0.mk (blk_below (g := gb230) (o := .cells #[.bool a3_0, .int .i64 a3_1] 25 (0, 0)) (by (with_reducible repeat (first | refine blk_drewN ?_ _ | refine blk_drew ?_ | refine blk_alloc ?_ _)); exact BK230.out) hb); have n4_ := Aside0.mk (below_step (by repeat (first | (with_reducible first | exact HB.out | apply below_alloc | apply pw_below_drewN | apply below_drew1 | refine below_set ?_ GE227.out | refine below_set ?_ GE228.out | refine below_set ?_ GE229.out | refine below_set ?_ GE230.out) | exact HB.out)) hb); clear BK227; clear BK228; clear BK229; clear BK230; clear HB; have BK227 := n0_; have BK228 := n1_; have BK229 := n2_; have BK230 := n3_; have HB := n4_; clear n0_ n1_ n2_ n3_ n4_; (try clear hb); (try clear hb2); (try clear hk); (try clear hi); have hcz61_0 : w60.cell? ⟨gb230, 0, none⟩ = some (.bool a3_0) := (blk_cell BK230.out 0).trans rfl; have hcz61_1 : w60.cell? ⟨gb230, 1, none⟩ = some (.int .i64 a3_1) := (blk_cell BK230.out 1).trans rfl; have hfz61_0 := blk_frozen BK230.out 0; have hfz61_1 := blk_frozen BK230.out 1))
                  go_meet
                  case rel => exact ⟨_, (true), (by first | rfl | (simp; done) | (simp [*]; done)), H', ⟨by first | omega | exact Nat.le_refl _⟩, ⟨by (with_reducible repeat (first | refine blk_drewN ?_ _ | refine blk_drew ?_ | refine blk_alloc ?_ _)); exact BK227.out⟩, ⟨by (with_reducible repeat (first | refine blk_drewN ?_ _ | refine blk_drew ?_ | refine blk_alloc ?_ _)); exact BK228.out⟩, ⟨by (with_reducible repeat (first | refine blk_drewN ?_ _ | refine blk_drew ?_ | refine blk_alloc ?_ _)); exact BK229.out⟩, ⟨by (with_reducible repeat (first | refine blk_drewN ?_ _ | refine blk_drew ?_ | refine blk_alloc ?_ _)); exact BK230.out⟩, ⟨by repeat (first | (with_reducible first | exact HB.out | apply below_alloc | apply pw_below_drewN | apply below_drew1 | refine below_set ?_ GE227.out | refine below_set ?_ GE228.out | refine below_set ?_ GE229.out | refine below_set ?_ GE230.out) | exact HB.out)⟩⟩
                · rw [if_neg c48] at H
                  have c48b0 : decide (a4 < 0) = false := decide_eq_false c48
                  clear c48
                  have H' := Aside0.mk H
                  clear H
                  have hnb62 := NB227_228.out
                  have hnc62 := NB228_227.out
                  have hnb63 := NB227_229.out
                  have hnc63 := NB229_227.out
                  have hnb64 := NB227_230.out
                  have hnc64 := NB230_227.out
                  have hcz65_0 : w13.cell? ⟨gb227, 0, none⟩ = some (.int .i64 a0_0) := (blk_cell BK227.out 0).trans rfl
                  have hcz65_1 : w13.cell? ⟨gb227, 1, none⟩ = some (.int .i64 a0_1) := (blk_cell BK227.out 1).trans rfl
                  have hfz65_0 := blk_frozen BK227.out 0
                  have hfz65_1 := blk_frozen BK227.out 1
                  go_wp2_with (first | ((with_reducible refine gate_callee (f := 23) rfl ?_); refine goesL_ (some 18) rfl rfl Try.func23 (by kernel_rfl) rfl #[.agg #[.int .i64 a0_0, .int .i64 a0_1]] rfl (by (try simp only [List.map_toArray, List.map_cons, List.map_nil]); first | done | rfl | (simp only [List.length_drop, List.length_take]; rfl)) ?_; (with_reducible refine (valancelaw10_small.calls a0_0 a0_1 true _ A14.out).mono ?_); rintro e w66 ⟨rfl, hb⟩; refine ⟨_, rfl, ?_⟩; have n0_ := Aside0.mk (blk_below (g := gb227) (o := .cells #[.int .i64 a0_0, .int .i64 a0_1] 23 (0, 0)) (by (with_reducible repeat (first | refine blk_drewN ?_ _ | refine blk_drew ?_ | refine blk_alloc ?_ _)); exact BK227.out) hb); have n1_ := Aside0.mk (blk_below (g := gb228) (o := .cells #[.int .i64 a1_0, .int .i64 a1_1] 23 (0, 0)) (by (with_reducible repeat (first | refine blk_drewN ?_ _ | refine blk_drew ?_ | refine blk_alloc ?_ _)); exact BK228.out) hb); have n2_ := Aside0.mk (blk_below (g := gb229) (o := .cells #[.int .i64 a2_0, .int .i64 a2_1] 23 (0, 0)) (by (with_reducible repeat (first | refine blk_drewN ?_ _ | refine blk_drew ?_ | refine blk_alloc ?_ _)); exact BK229.out) hb); have n3_ := Aside0.mk (blk_below (g := gb230) (o := .cells #[.bool a3_0, .int .i64 a3_1] 25 (0, 0)) (by (with_reducible repeat (first | refine blk_drewN ?_ _ | refine blk_drew ?_ | refine blk_alloc ?_ _)); exact BK230.out) hb); have n4_ := Aside0.mk (below_step (by repeat (first | (with_reducible first | exact HB.out | apply below_alloc | apply pw_below_drewN | apply below_drew1 | refine below_set ?_ GE227.out | refine below_set ?_ GE228.out | refine below_set ?_ GE229.out | refine below_set ?_ GE230.out) | exact HB.out)) hb); clear BK227; clear BK228; clear BK229; clear BK230; clear HB; have BK227 := n0_; have BK228 := n1_; have BK229 := n2_; have BK230 := n3_; have HB := n4_; clear n0_ n1_ n2_ n3_ n4_; (try clear hb); (try clear hb2); (try clear hk); (try clear hi); have hnb67 := NB228_229.out; have hnc67 := NB229_228.out; have hnb68 := NB228_230.out; have hnc68 := NB230_228.out; have hcz69_0 : w66.cell? ⟨gb228, 0, none⟩ = some (.int .i64 a1_0) := (blk_cell BK228.out 0).trans rfl; have hcz69_1 : w66.cell? ⟨gb228, 1, none⟩ = some (.int .i64 a1_1) := (blk_cell BK228.out 1).trans rfl; have hfz69_0 := blk_frozen BK228.out 0; have hfz69_1 := blk_frozen BK228.out 1) | (go_at_call 23; (with_reducible refine (valancelaw10_small.calls a1_0 a1_1 true _ A16.out).mono ?_); rintro e w70 ⟨rfl, hb⟩; have n0_ := Aside0.mk (blk_below (g := gb227) (o := .cells #[.int .i64 a0_0, .int .i64 a0_1] 23 (0, 0)) (by (with_reducible repeat (first | refine blk_drewN ?_ _ | refine blk_drew ?_ | refine blk_alloc ?_ _)); exact BK227.out) hb); have n1_ := Aside0.mk (blk_below (g := gb228) (o := .cells #[.int .i64 a1_0, .int .i64 a1_1] 23 (0, 0)) (by (with_reducible repeat (first | refine blk_drewN ?_ _ | refine blk_drew ?_ | refine blk_alloc ?_ _)); exact BK228.out) hb); have n2_ := Aside0.mk (blk_below (g := gb229) (o := .cells #[.int .i64 a2_0, .int .i64 a2_1] 23 (0, 0)) (by (with_reducible repeat (first | refine blk_drewN ?_ _ | refine blk_drew ?_ | refine blk_alloc ?_ _)); exact BK229.out) hb); have n3_ := Aside0.mk (blk_below (g := gb230) (o := .cells #[.bool a3_0, .int .i64 a3_1] 25 (0, 0)) (by (with_reducible repeat (first | refine blk_drewN ?_ _ | refine blk_drew ?_ | refine blk_alloc ?_ _)); exact BK230.out) hb); have n4_ := Aside0.mk (below_step (by repeat (first | (with_reducible first | exact HB.out | apply below_alloc | apply pw_below_drewN | apply below_drew1 | refine below_set ?_ GE227.out | refine below_set ?_ GE228.out | refine below_set ?_ GE229.out | refine below_set ?_ GE230.out) | exact HB.out)) hb); clear BK227; clear BK228; clear BK229; clear BK230; clear HB; have BK227 := n0_; have BK228 := n1_; have BK229 := n2_; have BK230 := n3_; have HB := n4_; clear n0_ n1_ n2_ n3_ n4_; (try clear hb); (try clear hb2); (try clear hk); (try clear hi); have hnb71 := NB229_230.out; have hnc71 := NB230_229.out; have hcz72_0 : w70.cell? ⟨gb229, 0, none⟩ = some (.int .i64 a2_0) := (blk_cell BK229.out 0).trans rfl; have hcz72_1 : w70.cell? ⟨gb229, 1, none⟩ = some (.int .i64 a2_1) := (blk_cell BK229.out 1).trans rfl; have hfz72_0 := blk_frozen BK229.out 0; have hfz72_1 := blk_frozen BK229.out 1) | (go_at_call 23; (with_reducible refine (valancelaw10_small.calls a2_0 a2_1 true _ A18.out).mono ?_); rintro e w73 ⟨rfl, hb⟩; have n0_ := Aside0.mk (blk_below (g := gb227) (o := .cells #[.int .i64 a0_0, .int .i64 a0_1] 23 (0, 0)) (by (with_reducible repeat (first | refine blk_drewN ?_ _ | refine blk_drew ?_ | refine blk_alloc ?_ _)); exact BK227.out) hb); have n1_ := Aside0.mk (blk_below (g := gb228) (o := .cells #[.int .i64 a1_0, .int .i64 a1_1] 23 (0, 0)) (by (with_reducible repeat (first | refine blk_drewN ?_ _ | refine blk_drew ?_ | refine blk_alloc ?_ _)); exact BK228.out) hb); have n2_ := Aside0.mk (blk_below (g := gb229) (o := .cells #[.int .i64 a2_0, .int .i64 a2_1] 23 (0, 0)) (by (with_reducible repeat (first | refine blk_drewN ?_ _ | refine blk_drew ?_ | refine blk_alloc ?_ _)); exact BK229.out) hb); have n3_ := Aside0.mk (blk_below (g := gb230) (o := .cells #[.bool a3_0, .int .i64 a3_1] 25 (0, 0)) (by (with_reducible repeat (first | refine blk_drewN ?_ _ | refine blk_drew ?_ | refine blk_alloc ?_ _)); exact BK230.out) hb); have n4_ := Aside0.mk (below_step (by repeat (first | (with_reducible first | exact HB.out | apply below_alloc | apply pw_below_drewN | apply below_drew1 | refine below_set ?_ GE227.out | refine below_set ?_ GE228.out | refine below_set ?_ GE229.out | refine below_set ?_ GE230.out) | exact HB.out)) hb); clear BK227; clear BK228; clear BK229; clear BK230; clear HB; have BK227 := n0_; have BK228 := n1_; have BK229 := n2_; have BK230 := n3_; have HB := n4_; clear n0_ n1_ n2_ n3_ n4_; (try clear hb); (try clear hb2); (try clear hk); (try clear hi); have hcz74_0 : w73.cell? ⟨gb230, 0, none⟩ = some (.bool a3_0) := (blk_cell BK230.out 0).trans rfl; have hcz74_1 : w73.cell? ⟨gb230, 1, none⟩ = some (.int .i64 a3_1) := (blk_cell BK230.out 1).trans rfl; have hfz74_0 := blk_frozen BK230.out 0; have hfz74_1 := blk_frozen BK230.out 1))
                  go_meet
                  case rel => exact ⟨_, (decide (a4 > 1073741824)), (by first | rfl | (simp; done) | (simp [*]; done)), H', ⟨by first | omega | exact Nat.le_refl _⟩, ⟨by (with_reducible repeat (first | refine blk_drewN ?_ _ | refine blk_drew ?_ | refine blk_alloc ?_ _)); exact BK227.out⟩, ⟨by (with_reducible repeat (first | refine blk_drewN ?_ _ | refine blk_drew ?_ | refine blk_alloc ?_ _)); exact BK228.out⟩, ⟨by (with_reducible repeat (first | refine blk_drewN ?_ _ | refine blk_drew ?_ | refine blk_alloc ?_ _)); exact BK229.out⟩, ⟨by (with_reducible repeat (first | refine blk_drewN ?_ _ | refine blk_drew ?_ | refine blk_alloc ?_ _)); exact BK230.out⟩, ⟨by repeat (first | (with_reducible first | exact HB.out | apply below_alloc | apply pw_below_drewN | apply below_drew1 | refine below_set ?_ GE227.out | refine below_set ?_ GE228.out | refine below_set ?_ GE229.out | refine below_set ?_ GE230.out) | exact HB.out)⟩⟩
          · replace c19 := Bool.eq_false_iff.mpr c19
            subst c19
            have H1 : (valancelaw10_StickMore.j0 k a4 true true a0_0 a0_1 a1_0 a1_1 a2_0 a2_1 a3_0 a3_1) = some r := by rw [if_neg (show ¬ (false = true) by decide)] at H; exact H
            clear H
            have H := H1
            clear H1
            have H' := Aside0.mk H
            clear H
            have hnb75 := NB227_228.out
            have hnc75 := NB228_227.out
            have hnb76 := NB227_229.out
            have hnc76 := NB229_227.out
            have hnb77 := NB227_230.out
            have hnc77 := NB230_227.out
            have hcz78_0 : w13.cell? ⟨gb227, 0, none⟩ = some (.int .i64 a0_0) := (blk_cell BK227.out 0).trans rfl
            have hcz78_1 : w13.cell? ⟨gb227, 1, none⟩ = some (.int .i64 a0_1) := (blk_cell BK227.out 1).trans rfl
            have hfz78_0 := blk_frozen BK227.out 0
            have hfz78_1 := blk_frozen BK227.out 1
            go_wp2_with (first | ((with_reducible refine gate_callee (f := 23) rfl ?_); refine goesL_ (some 18) rfl rfl Try.func23 (by kernel_rfl) rfl #[.agg #[.int .i64 a0_0, .int .i64 a0_1]] rfl (by (try simp only [List.map_toArray, List.map_cons, List.map_nil]); first | done | rfl | (simp only [List.length_drop, List.length_take]; rfl)) ?_; (with_reducible refine (valancelaw10_small.calls a0_0 a0_1 true _ A14.out).mono ?_); rintro e w79 ⟨rfl, hb⟩; refine ⟨_, rfl, ?_⟩; have n0_ := Aside0.mk (blk_below (g := gb227) (o := .cells #[.int .i64 a0_0, .int .i64 a0_1] 23 (0, 0)) (by (with_reducible repeat (first | refine blk_drewN ?_ _ | refine blk_drew ?_ | refine blk_alloc ?_ _)); exact BK227.out) hb); have n1_ := Aside0.mk (blk_below (g := gb228) (o := .cells #[.int .i64 a1_0, .int .i64 a1_1] 23 (0, 0)) (by (with_reducible repeat (first | refine blk_drewN ?_ _ | refine blk_drew ?_ | refine blk_alloc ?_ _)); exact BK228.out) hb); have n2_ := Aside0.mk (blk_below (g := gb229) (o := .cells #[.int .i64 a2_0, .int .i64 a2_1] 23 (0, 0)) (by (with_reducible repeat (first | refine blk_drewN ?_ _ | refine blk_drew ?_ | refine blk_alloc ?_ _)); exact BK229.out) hb); have n3_ := Aside0.mk (blk_below (g := gb230) (o := .cells #[.bool a3_0, .int .i64 a3_1] 25 (0, 0)) (by (with_reducible repeat (first | refine blk_drewN ?_ _ | refine blk_drew ?_ | refine blk_alloc ?_ _)); exact BK230.out) hb); have n4_ := Aside0.mk (below_step (by repeat (first | (with_reducible first | exact HB.out | apply below_alloc | apply pw_below_drewN | apply below_drew1 | refine below_set ?_ GE227.out | refine below_set ?_ GE228.out | refine below_set ?_ GE229.out | refine below_set ?_ GE230.out) | exact HB.out)) hb); clear BK227; clear BK228; clear BK229; clear BK230; clear HB; have BK227 := n0_; have BK228 := n1_; have BK229 := n2_; have BK230 := n3_; have HB := n4_; clear n0_ n1_ n2_ n3_ n4_; (try clear hb); (try clear hb2); (try clear hk); (try clear hi); have hnb80 := NB228_229.out; have hnc80 := NB229_228.out; have hnb81 := NB228_230.out; have hnc81 := NB230_228.out; have hcz82_0 : w79.cell? ⟨gb228, 0, none⟩ = some (.int .i64 a1_0) := (blk_cell BK228.out 0).trans rfl; have hcz82_1 : w79.cell? ⟨gb228, 1, none⟩ = some (.int .i64 a1_1) := (blk_cell BK228.out 1).trans rfl; have hfz82_0 := blk_frozen BK228.out 0; have hfz82_1 := blk_frozen BK228.out 1) | (go_at_call 23; (with_reducible refine (valancelaw10_small.calls a1_0 a1_1 true _ A16.out).mono ?_); rintro e w83 ⟨rfl, hb⟩; have n0_ := Aside0.mk (blk_below (g := gb227) (o := .cells #[.int .i64 a0_0, .int .i64 a0_1] 23 (0, 0)) (by (with_reducible repeat (first | refine blk_drewN ?_ _ | refine blk_drew ?_ | refine blk_alloc ?_ _)); exact BK227.out) hb); have n1_ := Aside0.mk (blk_below (g := gb228) (o := .cells #[.int .i64 a1_0, .int .i64 a1_1] 23 (0, 0)) (by (with_reducible repeat (first | refine blk_drewN ?_ _ | refine blk_drew ?_ | refine blk_alloc ?_ _)); exact BK228.out) hb); have n2_ := Aside0.mk (blk_below (g := gb229) (o := .cells #[.int .i64 a2_0, .int .i64 a2_1] 23 (0, 0)) (by (with_reducible repeat (first | refine blk_drewN ?_ _ | refine blk_drew ?_ | refine blk_alloc ?_ _)); exact BK229.out) hb); have n3_ := Aside0.mk (blk_below (g := gb230) (o := .cells #[.bool a3_0, .int .i64 a3_1] 25 (0, 0)) (by (with_reducible repeat (first | refine blk_drewN ?_ _ | refine blk_drew ?_ | refine blk_alloc ?_ _)); exact BK230.out) hb); have n4_ := Aside0.mk (below_step (by repeat (first | (with_reducible first | exact HB.out | apply below_alloc | apply pw_below_drewN | apply below_drew1 | refine below_set ?_ GE227.out | refine below_set ?_ GE228.out | refine below_set ?_ GE229.out | refine below_set ?_ GE230.out) | exact HB.out)) hb); clear BK227; clear BK228; clear BK229; clear BK230; clear HB; have BK227 := n0_; have BK228 := n1_; have BK229 := n2_; have BK230 := n3_; have HB := n4_; clear n0_ n1_ n2_ n3_ n4_; (try clear hb); (try clear hb2); (try clear hk); (try clear hi); have hnb84 := NB229_230.out; have hnc84 := NB230_229.out; have hcz85_0 : w83.cell? ⟨gb229, 0, none⟩ = some (.int .i64 a2_0) := (blk_cell BK229.out 0).trans rfl; have hcz85_1 : w83.cell? ⟨gb229, 1, none⟩ = some (.int .i64 a2_1) := (blk_cell BK229.out 1).trans rfl; have hfz85_0 := blk_frozen BK229.out 0; have hfz85_1 := blk_frozen BK229.out 1) | (go_at_call 23; (with_reducible refine (valancelaw10_small.calls a2_0 a2_1 false _ A18.out).mono ?_); rintro e w86 ⟨rfl, hb⟩; have n0_ := Aside0.mk (blk_below (g := gb227) (o := .cells #[.int .i64 a0_0, .int .i64 a0_1] 23 (0, 0)) (by (with_reducible repeat (first | refine blk_drewN ?_ _ | refine blk_drew ?_ | refine blk_alloc ?_ _)); exact BK227.out) hb); have n1_ := Aside0.mk (blk_below (g := gb228) (o := .cells #[.int .i64 a1_0, .int .i64 a1_1] 23 (0, 0)) (by (with_reducible repeat (first | refine blk_drewN ?_ _ | refine blk_drew ?_ | refine blk_alloc ?_ _)); exact BK228.out) hb); have n2_ := Aside0.mk (blk_below (g := gb229) (o := .cells #[.int .i64 a2_0, .int .i64 a2_1] 23 (0, 0)) (by (with_reducible repeat (first | refine blk_drewN ?_ _ | refine blk_drew ?_ | refine blk_alloc ?_ _)); exact BK229.out) hb); have n3_ := Aside0.mk (blk_below (g := gb230) (o := .cells #[.bool a3_0, .int .i64 a3_1] 25 (0, 0)) (by (with_reducible repeat (first | refine blk_drewN ?_ _ | refine blk_drew ?_ | refine blk_alloc ?_ _)); exact BK230.out) hb); have n4_ := Aside0.mk (below_step (by repeat (first | (with_reducible first | exact HB.out | apply below_alloc | apply pw_below_drewN | apply below_drew1 | refine below_set ?_ GE227.out | refine below_set ?_ GE228.out | refine below_set ?_ GE229.out | refine below_set ?_ GE230.out) | exact HB.out)) hb); clear BK227; clear BK228; clear BK229; clear BK230; clear HB; have BK227 := n0_; have BK228 := n1_; have BK229 := n2_; have BK230 := n3_; have HB := n4_; clear n0_ n1_ n2_ n3_ n4_; (try clear hb); (try clear hb2); (try clear hk); (try clear hi)))
            go_meet
            case rel => exact ⟨_, (true), (by first | rfl | (simp; done) | (simp [*]; done)), H', ⟨by first | omega | exact Nat.le_refl _⟩, ⟨by (with_reducible repeat (first | refine blk_drewN ?_ _ | refine blk_drew ?_ | refine blk_alloc ?_ _)); exact BK227.out⟩, ⟨by (with_reducible repeat (first | refine blk_drewN ?_ _ | refine blk_drew ?_ | refine blk_alloc ?_ _)); exact BK228.out⟩, ⟨by (with_reducible repeat (first | refine blk_drewN ?_ _ | refine blk_drew ?_ | refine blk_alloc ?_ _)); exact BK229.out⟩, ⟨by (with_reducible repeat (first | refine blk_drewN ?_ _ | refine blk_drew ?_ | refine blk_alloc ?_ _)); exact BK230.out⟩, ⟨by repeat (first | (with_reducible first | exact HB.out | apply below_alloc | apply pw_below_drewN | apply below_drew1 | refine below_set ?_ GE227.out | refine below_set ?_ GE228.out | refine below_set ?_ GE229.out | refine below_set ?_ GE230.out) | exact HB.out)⟩⟩
        · replace c17 := Bool.eq_false_iff.mpr c17
          subst c17
          have H1 : (valancelaw10_StickMore.j0 k a4 true true a0_0 a0_1 a1_0 a1_1 a2_0 a2_1 a3_0 a3_1) = some r := by rw [if_neg (show ¬ (false = true) by decide)] at H; exact H
          clear H
          have H := H1
          clear H1
          have H' := Aside0.mk H
          clear H
          have hnb87 := NB227_228.out
          have hnc87 := NB228_227.out
          have hnb88 := NB227_229.out
          have hnc88 := NB229_227.out
          have hnb89 := NB227_230.out
          have hnc89 := NB230_227.out
          have hcz90_0 : w13.cell? ⟨gb227, 0, none⟩ = some (.int .i64 a0_0) := (blk_cell BK227.out 0).trans rfl
          have hcz90_1 : w13.cell? ⟨gb227, 1, none⟩ = some (.int .i64 a0_1) := (blk_cell BK227.out 1).trans rfl
          have hfz90_0 := blk_frozen BK227.out 0
          have hfz90_1 := blk_frozen BK227.out 1
          go_wp2_with (first | ((with_reducible refine gate_callee (f := 23) rfl ?_); refine goesL_ (some 18) rfl rfl Try.func23 (by kernel_rfl) rfl #[.agg #[.int .i64 a0_0, .int .i64 a0_1]] rfl (by (try simp only [List.map_toArray, List.map_cons, List.map_nil]); first | done | rfl | (simp only [List.length_drop, List.length_take]; rfl)) ?_; (with_reducible refine (valancelaw10_small.calls a0_0 a0_1 true _ A14.out).mono ?_); rintro e w91 ⟨rfl, hb⟩; refine ⟨_, rfl, ?_⟩; have n0_ := Aside0.mk (blk_below (g := gb227) (o := .cells #[.int .i64 a0_0, .int .i64 a0_1] 23 (0, 0)) (by (with_reducible repeat (first | refine blk_drewN ?_ _ | refine blk_drew ?_ | refine blk_alloc ?_ _)); exact BK227.out) hb); have n1_ := Aside0.mk (blk_below (g := gb228) (o := .cells #[.int .i64 a1_0, .int .i64 a1_1] 23 (0, 0)) (by (with_reducible repeat (first | refine blk_drewN ?_ _ | refine blk_drew ?_ | refine blk_alloc ?_ _)); exact BK228.out) hb); have n2_ := Aside0.mk (blk_below (g := gb229) (o := .cells #[.int .i64 a2_0, .int .i64 a2_1] 23 (0, 0)) (by (with_reducible repeat (first | refine blk_drewN ?_ _ | refine blk_drew ?_ | refine blk_alloc ?_ _)); exact BK229.out) hb); have n3_ := Aside0.mk (blk_below (g := gb230) (o := .cells #[.bool a3_0, .int .i64 a3_1] 25 (0, 0)) (by (with_reducible repeat (first | refine blk_drewN ?_ _ | refine blk_drew ?_ | refine blk_alloc ?_ _)); exact BK230.out) hb); have n4_ := Aside0.mk (below_step (by repeat (first | (with_reducible first | exact HB.out | apply below_alloc | apply pw_below_drewN | apply below_drew1 | refine below_set ?_ GE227.out | refine below_set ?_ GE228.out | refine below_set ?_ GE229.out | refine below_set ?_ GE230.out) | exact HB.out)) hb); clear BK227; clear BK228; clear BK229; clear BK230; clear HB; have BK227 := n0_; have BK228 := n1_; have BK229 := n2_; have BK230 := n3_; have HB := n4_; clear n0_ n1_ n2_ n3_ n4_; (try clear hb); (try clear hb2); (try clear hk); (try clear hi); have hnb92 := NB228_229.out; have hnc92 := NB229_228.out; have hnb93 := NB228_230.out; have hnc93 := NB230_228.out; have hcz94_0 : w91.cell? ⟨gb228, 0, none⟩ = some (.int .i64 a1_0) := (blk_cell BK228.out 0).trans rfl; have hcz94_1 : w91.cell? ⟨gb228, 1, none⟩ = some (.int .i64 a1_1) := (blk_cell BK228.out 1).trans rfl; have hfz94_0 := blk_frozen BK228.out 0; have hfz94_1 := blk_frozen BK228.out 1) | (go_at_call 23; (with_reducible refine (valancelaw10_small.calls a1_0 a1_1 false _ A16.out).mono ?_); rintro e w95 ⟨rfl, hb⟩; have n0_ := Aside0.mk (blk_below (g := gb227) (o := .cells #[.int .i64 a0_0, .int .i64 a0_1] 23 (0, 0)) (by (with_reducible repeat (first | refine blk_drewN ?_ _ | refine blk_drew ?_ | refine blk_alloc ?_ _)); exact BK227.out) hb); have n1_ := Aside0.mk (blk_below (g := gb228) (o := .cells #[.int .i64 a1_0, .int .i64 a1_1] 23 (0, 0)) (by (with_reducible repeat (first | refine blk_drewN ?_ _ | refine blk_drew ?_ | refine blk_alloc ?_ _)); exact BK228.out) hb); have n2_ := Aside0.mk (blk_below (g := gb229) (o := .cells #[.int .i64 a2_0, .int .i64 a2_1] 23 (0, 0)) (by (with_reducible repeat (first | refine blk_drewN ?_ _ | refine blk_drew ?_ | refine blk_alloc ?_ _)); exact BK229.out) hb); have n3_ := Aside0.mk (blk_below (g := gb230) (o := .cells #[.bool a3_0, .int .i64 a3_1] 25 (0, 0)) (by (with_reducible repeat (first | refine blk_drewN ?_ _ | refine blk_drew ?_ | refine blk_alloc ?_ _)); exact BK230.out) hb); have n4_ := Aside0.mk (below_step (by repeat (first | (with_reducible first | exact HB.out | apply below_alloc | apply pw_below_drewN | apply below_drew1 | refine below_set ?_ GE227.out | refine below_set ?_ GE228.out | refine below_set ?_ GE229.out | refine below_set ?_ GE230.out) | exact HB.out)) hb); clear BK227; clear BK228; clear BK229; clear BK230; clear HB; have BK227 := n0_; have BK228 := n1_; have BK229 := n2_; have BK230 := n3_; have HB := n4_; clear n0_ n1_ n2_ n3_ n4_; (try clear hb); (try clear hb2); (try clear hk); (try clear hi)))
          go_meet
          case rel => exact ⟨_, (true), (by first | rfl | (simp; done) | (simp [*]; done)), H', ⟨by first | omega | exact Nat.le_refl _⟩, ⟨by (with_reducible repeat (first | refine blk_drewN ?_ _ | refine blk_drew ?_ | refine blk_alloc ?_ _)); exact BK227.out⟩, ⟨by (with_reducible repeat (first | refine blk_drewN ?_ _ | refine blk_drew ?_ | refine blk_alloc ?_ _)); exact BK228.out⟩, ⟨by (with_reducible repeat (first | refine blk_drewN ?_ _ | refine blk_drew ?_ | refine blk_alloc ?_ _)); exact BK229.out⟩, ⟨by (with_reducible repeat (first | refine blk_drewN ?_ _ | refine blk_drew ?_ | refine blk_alloc ?_ _)); exact BK230.out⟩, ⟨by repeat (first | (with_reducible first | exact HB.out | apply below_alloc | apply pw_below_drewN | apply below_drew1 | refine below_set ?_ GE227.out | refine below_set ?_ GE228.out | refine below_set ?_ GE229.out | refine below_set ?_ GE230.out) | exact HB.out)⟩⟩
      · replace c15 := Bool.eq_false_iff.mpr c15
        subst c15
        have H1 : (valancelaw10_StickMore.j0 k a4 true true a0_0 a0_1 a1_0 a1_1 a2_0 a2_1 a3_0 a3_1) = some r := by rw [if_neg (show ¬ (false = true) by decide)] at H; exact H
        clear H
        have H := H1
        clear H1
        have H' := Aside0.mk H
        clear H
        have hnb96 := NB227_228.out
        have hnc96 := NB228_227.out
        have hnb97 := NB227_229.out
        have hnc97 := NB229_227.out
        have hnb98 := NB227_230.out
        have hnc98 := NB230_227.out
        have hcz99_0 : w13.cell? ⟨gb227, 0, none⟩ = some (.int .i64 a0_0) := (blk_cell BK227.out 0).trans rfl
        have hcz99_1 : w13.cell? ⟨gb227, 1, none⟩ = some (.int .i64 a0_1) := (blk_cell BK227.out 1).trans rfl
        have hfz99_0 := blk_frozen BK227.out 0
        have hfz99_1 := blk_frozen BK227.out 1
        go_wp2_with (first | ((with_reducible refine gate_callee (f := 23) rfl ?_); refine goesL_ (some 18) rfl rfl Try.func23 (by kernel_rfl) rfl #[.agg #[.int .i64 a0_0, .int .i64 a0_1]] rfl (by (try simp only [List.map_toArray, List.map_cons, List.map_nil]); first | done | rfl | (simp only [List.length_drop, List.length_take]; rfl)) ?_; (with_reducible refine (valancelaw10_small.calls a0_0 a0_1 false _ A14.out).mono ?_); rintro e w100 ⟨rfl, hb⟩; refine ⟨_, rfl, ?_⟩; have n0_ := Aside0.mk (blk_below (g := gb227) (o := .cells #[.int .i64 a0_0, .int .i64 a0_1] 23 (0, 0)) (by (with_reducible repeat (first | refine blk_drewN ?_ _ | refine blk_drew ?_ | refine blk_alloc ?_ _)); exact BK227.out) hb); have n1_ := Aside0.mk (blk_below (g := gb228) (o := .cells #[.int .i64 a1_0, .int .i64 a1_1] 23 (0, 0)) (by (with_reducible repeat (first | refine blk_drewN ?_ _ | refine blk_drew ?_ | refine blk_alloc ?_ _)); exact BK228.out) hb); have n2_ := Aside0.mk (blk_below (g := gb229) (o := .cells #[.int .i64 a2_0, .int .i64 a2_1] 23 (0, 0)) (by (with_reducible repeat (first | refine blk_drewN ?_ _ | refine blk_drew ?_ | refine blk_alloc ?_ _)); exact BK229.out) hb); have n3_ := Aside0.mk (blk_below (g := gb230) (o := .cells #[.bool a3_0, .int .i64 a3_1] 25 (0, 0)) (by (with_reducible repeat (first | refine blk_drewN ?_ _ | refine blk_drew ?_ | refine blk_alloc ?_ _)); exact BK230.out) hb); have n4_ := Aside0.mk (below_step (by repeat (first | (with_reducible first | exact HB.out | apply below_alloc | apply pw_below_drewN | apply below_drew1 | refine below_set ?_ GE227.out | refine below_set ?_ GE228.out | refine below_set ?_ GE229.out | refine below_set ?_ GE230.out) | exact HB.out)) hb); clear BK227; clear BK228; clear BK229; clear BK230; clear HB; have BK227 := n0_; have BK228 := n1_; have BK229 := n2_; have BK230 := n3_; have HB := n4_; clear n0_ n1_ n2_ n3_ n4_; (try clear hb); (try clear hb2); (try clear hk); (try clear hi)))
        go_meet
        case rel => exact ⟨_, (true), (by first | rfl | (simp; done) | (simp [*]; done)), H', ⟨by first | omega | exact Nat.le_refl _⟩, ⟨by (with_reducible repeat (first | refine blk_drewN ?_ _ | refine blk_drew ?_ | refine blk_alloc ?_ _)); exact BK227.out⟩, ⟨by (with_reducible repeat (first | refine blk_drewN ?_ _ | refine blk_drew ?_ | refine blk_alloc ?_ _)); exact BK228.out⟩, ⟨by (with_reducible repeat (first | refine blk_drewN ?_ _ | refine blk_drew ?_ | refine blk_alloc ?_ _)); exact BK229.out⟩, ⟨by (with_reducible repeat (first | refine blk_drewN ?_ _ | refine blk_drew ?_ | refine blk_alloc ?_ _)); exact BK230.out⟩, ⟨by repeat (first | (with_reducible first | exact HB.out | apply below_alloc | apply pw_below_drewN | apply below_drew1 | refine below_set ?_ GE227.out | refine below_set ?_ GE228.out | refine below_set ?_ GE229.out | refine below_set ?_ GE230.out) | exact HB.out)⟩⟩
    case rest =>
      clear HC8
      try clear c1
      try clear c2
      try clear p2
      try clear c3
      try clear c4
      try clear c5
      try clear c6
      try clear c7
      try clear c8
      try clear c9
      try clear c15
      try clear c17
      try clear c19
      try clear c20
      try clear c20b0
      try clear c21
      try clear c22
      try clear c23
      try clear c26
      try clear c27
      try clear c30
      try clear c34
      try clear c34b0
      try clear c35
      try clear c36
      try clear c37
      try clear c40
      try clear c41
      try clear c44
      try clear c48
      try clear c48b0
      try clear c49
      try clear c50
      try clear c51
      try clear c54
      try clear c55
      try clear c58
      try clear c62
      try clear c63
      try clear c64
      try clear c67
      try clear c68
      try clear c71
      try clear c75
      try clear c76
      try clear c77
      try clear c80
      try clear c81
      try clear c84
      try clear c87
      try clear c88
      try clear c89
      try clear c92
      try clear c93
      try clear c96
      try clear c97
      try clear c98
      try clear hcz24_0
      try clear hcz24_1
      try clear hcz28_0
      try clear hcz28_1
      try clear hcz31_0
      try clear hcz31_1
      try clear hcz33_0
      try clear hcz33_1
      try clear hcz38_0
      try clear hcz38_1
      try clear hcz42_0
      try clear hcz42_1
      try clear hcz45_0
      try clear hcz45_1
      try clear hcz47_0
      try clear hcz47_1
      try clear hcz52_0
      try clear hcz52_1
      try clear hcz56_0
      try clear hcz56_1
      try clear hcz59_0
      try clear hcz59_1
      try clear hcz61_0
      try clear hcz61_1
      try clear hcz65_0
      try clear hcz65_1
      try clear hcz69_0
      try clear hcz69_1
      try clear hcz72_0
      try clear hcz72_1
      try clear hcz74_0
      try clear hcz74_1
      try clear hcz78_0
      try clear hcz78_1
      try clear hcz82_0
      try clear hcz82_1
      try clear hcz85_0
      try clear hcz85_1
      try clear hcz90_0
      try clear hcz90_1
      try clear hcz94_0
      try clear hcz94_1
      try clear hcz99_0
      try clear hcz99_1
      try clear hfz24_0
      try clear hfz24_1
      try clear hfz28_0
      try clear hfz28_1
      try clear hfz31_0
      try clear hfz31_1
      try clear hfz33_0
      try clear hfz33_1
      try clear hfz38_0
      try clear hfz38_1
      try clear hfz42_0
      try clear hfz42_1
      try clear hfz45_0
      try clear hfz45_1
      try clear hfz47_0
      try clear hfz47_1
      try clear hfz52_0
      try clear hfz52_1
      try clear hfz56_0
      try clear hfz56_1
      try clear hfz59_0
      try clear hfz59_1
      try clear hfz61_0
      try clear hfz61_1
      try clear hfz65_0
      try clear hfz65_1
      try clear hfz69_0
      try clear hfz69_1
      try clear hfz72_0
      try clear hfz72_1
      try clear hfz74_0
      try clear hfz74_1
      try clear hfz78_0
      try clear hfz78_1
      try clear hfz82_0
      try clear hfz82_1
      try clear hfz85_0
      try clear hfz85_1
      try clear hfz90_0
      try clear hfz90_1
      try clear hfz94_0
      try clear hfz94_1
      try clear hfz99_0
      try clear hfz99_1
      obtain ⟨kq, x47_7, rfl, HA, HJ7, BK227, BK228, BK229, BK230, HB⟩ := hcut
      cases kq with
      | zero => exact absurd HA.out (by simp [valancelaw10_StickMore.j0])
      | succ kj7 =>
        have H := HA.out
        clear HA
        simp only [valancelaw10_StickMore.j0] at H
        by_cases c101 : x47_7 = true
        · subst c101
          have H1 : (some true) = some r := by rw [if_pos rfl] at H; exact H
          clear H
          have H := H1
          clear H1
          obtain rfl := Option.some.inj H
          go_wp2
          go_ret
          exact ⟨by first | rfl | (simp [errW_none, errW_some] <;> rfl) | (simp [*, errW_none, errW_some] <;> rfl), by repeat (first | (with_reducible first | exact HB.out | apply below_alloc | apply pw_below_drewN | apply below_drew1 | refine below_set ?_ GE227.out | refine below_set ?_ GE228.out | refine below_set ?_ GE229.out | refine below_set ?_ GE230.out) | exact HB.out)⟩
        · replace c101 := Bool.eq_false_iff.mpr c101
          subst c101
          have H1 : ((stick_Shift.f kj7 a0_0 a0_1 a1_0 a1_1 a2_0 a2_1 a3_0 a3_1 false 0).bind fun t235 => ((stick_Shift.f kj7 a0_0 a0_1 a1_0 a1_1 (wrap64 (a2_0 + a4)) (wrap64 (a2_1 + a4)) a3_0 a3_1 false 0).bind fun t236 => (if true = true then (if t235 ≥ 0 then (if t235 ≤ t236 then (some (decide ((wrap64 (t236 - t235)) ≤ a4))) else (none)) else (none)) else (none)))) = some r := by rw [if_neg (show ¬ (false = true) by decide)] at H; exact H
          clear H
          have H := H1
          clear H1
          replace H := Option.bind_eq_some_iff.mp H
          obtain ⟨t235, A1020, H⟩ := H
          replace H : ((stick_Shift.f kj7 a0_0 a0_1 a1_0 a1_1 (wrap64 (a2_0 + a4)) (wrap64 (a2_1 + a4)) a3_0 a3_1 false 0).bind fun t236 => (if true = true then (if t235 ≥ 0 then (if t235 ≤ t236 then (some (decide ((wrap64 (t236 - t235)) ≤ a4))) else (none)) else (none)) else (none))) = some r := H
          have A102 := Aside0.mk A1020
          clear A1020
          replace H := Option.bind_eq_some_iff.mp H
          obtain ⟨t236, A1030, H⟩ := H
          replace H : (if true = true then (if t235 ≥ 0 then (if t235 ≤ t236 then (some (decide ((wrap64 (t236 - t235)) ≤ a4))) else (none)) else (none)) else (none)) = some r := H
          have A103 := Aside0.mk A1030
          clear A1030
          by_cases c104 : true = true
          · clear c104
            have H1 : (if t235 ≥ 0 then (if t235 ≤ t236 then (some (decide ((wrap64 (t236 - t235)) ≤ a4))) else (none)) else (none)) = some r := by first | (rw [if_pos rfl] at H; exact H) | (rw [if_pos True.intro] at H; exact H)
            clear H
            have H := H1
            clear H1
            by_cases c105 : t235 ≥ 0
            · rw [if_pos c105] at H
              have c105b0 : decide (0 ≤ t235) = true := decide_eq_true c105
              clear c105
              by_cases c106 : t235 ≤ t236
              · rw [if_pos c106] at H
                have c106b0 : decide (t235 ≤ t236) = true := decide_eq_true c106
                clear c106
                obtain rfl := Option.some.inj H
                have hnb107 := NB227_228.out
                have hnc107 := NB228_227.out
                have hnb108 := NB227_229.out
                have hnc108 := NB229_227.out
                have hnb109 := NB227_230.out
                have hnc109 := NB230_227.out
                have hcz110_0 : wc.cell? ⟨gb227, 0, none⟩ = some (.int .i64 a0_0) := (blk_cell BK227.out 0).trans rfl
                have hcz110_1 : wc.cell? ⟨gb227, 1, none⟩ = some (.int .i64 a0_1) := (blk_cell BK227.out 1).trans rfl
                have hfz110_0 := blk_frozen BK227.out 0
                have hfz110_1 := blk_frozen BK227.out 1
                have hnb111 := NB228_229.out
                have hnc111 := NB229_228.out
                have hnb112 := NB228_230.out
                have hnc112 := NB230_228.out
                have hcz113_0 : wc.cell? ⟨gb228, 0, none⟩ = some (.int .i64 a1_0) := (blk_cell BK228.out 0).trans rfl
                have hcz113_1 : wc.cell? ⟨gb228, 1, none⟩ = some (.int .i64 a1_1) := (blk_cell BK228.out 1).trans rfl
                have hfz113_0 := blk_frozen BK228.out 0
                have hfz113_1 := blk_frozen BK228.out 1
                have hnb114 := NB229_230.out
                have hnc114 := NB230_229.out
                have hcz115_0 : wc.cell? ⟨gb229, 0, none⟩ = some (.int .i64 a2_0) := (blk_cell BK229.out 0).trans rfl
                have hcz115_1 : wc.cell? ⟨gb229, 1, none⟩ = some (.int .i64 a2_1) := (blk_cell BK229.out 1).trans rfl
                have hfz115_0 := blk_frozen BK229.out 0
                have hfz115_1 := blk_frozen BK229.out 1
                have hcz116_0 : wc.cell? ⟨gb230, 0, none⟩ = some (.bool a3_0) := (blk_cell BK230.out 0).trans rfl
                have hcz116_1 : wc.cell? ⟨gb230, 1, none⟩ = some (.int .i64 a3_1) := (blk_cell BK230.out 1).trans rfl
                have hfz116_0 := blk_frozen BK230.out 0
                have hfz116_1 := blk_frozen BK230.out 1
                go_wp2_with (first | ((with_reducible refine gate_callee (f := 16) rfl ?_); refine goesL_ (some 54) rfl rfl Try.func16 (by kernel_rfl) rfl #[.agg #[.int .i64 a0_0, .int .i64 a0_1], .agg #[.int .i64 a1_0, .int .i64 a1_1], .agg #[.int .i64 a2_0, .int .i64 a2_1], .agg #[.bool a3_0, .int .i64 a3_1], .agg #[.bool false, .int .i64 0]] rfl (by (try simp only [List.map_toArray, List.map_cons, List.map_nil]); first | done | rfl | (simp only [List.length_drop, List.length_take]; rfl)) ?_; (with_reducible refine (stick_Shift.calls kj7 a0_0 a0_1 a1_0 a1_1 a2_0 a2_1 a3_0 a3_1 false 0 t235 _ A102.out).mono ?_); rintro e w117 ⟨rfl, hb⟩; refine ⟨_, rfl, ?_⟩; have n0_ := Aside0.mk (blk_below (g := gb227) (o := .cells #[.int .i64 a0_0, .int .i64 a0_1] 23 (0, 0)) (by (with_reducible repeat (first | refine blk_drewN ?_ _ | refine blk_drew ?_ | refine blk_alloc ?_ _)); exact BK227.out) hb); have n1_ := Aside0.mk (blk_below (g := gb228) (o := .cells #[.int .i64 a1_0, .int .i64 a1_1] 23 (0, 0)) (by (with_reducible repeat (first | refine blk_drewN ?_ _ | refine blk_drew ?_ | refine blk_alloc ?_ _)); exact BK228.out) hb); have n2_ := Aside0.mk (blk_below (g := gb229) (o := .cells #[.int .i64 a2_0, .int .i64 a2_1] 23 (0, 0)) (by (with_reducible repeat (first | refine blk_drewN ?_ _ | refine blk_drew ?_ | refine blk_alloc ?_ _)); exact BK229.out) hb); have n3_ := Aside0.mk (blk_below (g := gb230) (o := .cells #[.bool a3_0, .int .i64 a3_1] 25 (0, 0)) (by (with_reducible repeat (first | refine blk_drewN ?_ _ | refine blk_drew ?_ | refine blk_alloc ?_ _)); exact BK230.out) hb); have n4_ := Aside0.mk (below_step (by repeat (first | (with_reducible first | exact HB.out | apply below_alloc | apply pw_below_drewN | apply below_drew1 | refine below_set ?_ GE227.out | refine below_set ?_ GE228.out | refine below_set ?_ GE229.out | refine below_set ?_ GE230.out) | exact HB.out)) hb); clear BK227; clear BK228; clear BK229; clear BK230; clear HB; have BK227 := n0_; have BK228 := n1_; have BK229 := n2_; have BK230 := n3_; have HB := n4_; clear n0_ n1_ n2_ n3_ n4_; (try clear hb); (try clear hb2); (try clear hk); (try clear hi); have hcz118_0 : w117.cell? ⟨gb227, 0, none⟩ = some (.int .i64 a0_0) := (blk_cell BK227.out 0).trans rfl; have hcz118_1 : w117.cell? ⟨gb227, 1, none⟩ = some (.int .i64 a0_1) := (blk_cell BK227.out 1).trans rfl; have hfz118_0 := blk_frozen BK227.out 0; have hfz118_1 := blk_frozen BK227.out 1; have hcz119_0 : w117.cell? ⟨gb228, 0, none⟩ = some (.int .i64 a1_0) := (blk_cell BK228.out 0).trans rfl; have hcz119_1 : w117.cell? ⟨gb228, 1, none⟩ = some (.int .i64 a1_1) := (blk_cell BK228.out 1).trans rfl; have hfz119_0 := blk_frozen BK228.out 0; have hfz119_1 := blk_frozen BK228.out 1; have hcz120_0 : w117.cell? ⟨gb229, 0, none⟩ = some (.int .i64 a2_0) := (blk_cell BK229.out 0).trans rfl; have hcz120_1 : w117.cell? ⟨gb229, 1, none⟩ = some (.int .i64 a2_1) := (blk_cell BK229.out 1).trans rfl; have hfz120_0 := blk_frozen BK229.out 0; have hfz120_1 := blk_frozen BK229.out 1; have hcz121_0 : w117.cell? ⟨gb230, 0, none⟩ = some (.bool a3_0) := (blk_cell BK230.out 0).trans rfl; have hcz121_1 : w117.cell? ⟨gb230, 1, none⟩ = some (.int .i64 a3_1) := (blk_cell BK230.out 1).trans rfl; have hfz121_0 := blk_frozen BK230.out 0; have hfz121_1 := blk_frozen BK230.out 1) | ((with_reducible refine gate_callee (f := 16) rfl ?_); refine goesL_ (some 68) rfl rfl Try.func16 (by kernel_rfl) rfl #[.agg #[.int .i64 a0_0, .int .i64 a0_1], .agg #[.int .i64 a1_0, .int .i64 a1_1], .agg #[.int .i64 (wrap64 (a2_0 + a4)), .int .i64 (wrap64 (a2_1 + a4))], .agg #[.bool a3_0, .int .i64 a3_1], .agg #[.bool false, .int .i64 0]] rfl (by (try simp only [List.map_toArray, List.map_cons, List.map_nil]); first | done | rfl | (simp only [List.length_drop, List.length_take]; rfl)) ?_; (with_reducible refine (stick_Shift.calls kj7 a0_0 a0_1 a1_0 a1_1 (wrap64 (a2_0 + a4)) (wrap64 (a2_1 + a4)) a3_0 a3_1 false 0 t236 _ A103.out).mono ?_); rintro e w122 ⟨rfl, hb⟩; refine ⟨_, rfl, ?_⟩; have n0_ := Aside0.mk (blk_below (g := gb227) (o := .cells #[.int .i64 a0_0, .int .i64 a0_1] 23 (0, 0)) (by (with_reducible repeat (first | refine blk_drewN ?_ _ | refine blk_drew ?_ | refine blk_alloc ?_ _)); exact BK227.out) hb); have n1_ := Aside0.mk (blk_below (g := gb228) (o := .cells #[.int .i64 a1_0, .int .i64 a1_1] 23 (0, 0)) (by (with_reducible repeat (first | refine blk_drewN ?_ _ | refine blk_drew ?_ | refine blk_alloc ?_ _)); exact BK228.out) hb); have n2_ := Aside0.mk (blk_below (g := gb229) (o := .cells #[.int .i64 a2_0, .int .i64 a2_1] 23 (0, 0)) (by (with_reducible repeat (first | refine blk_drewN ?_ _ | refine blk_drew ?_ | refine blk_alloc ?_ _)); exact BK229.out) hb); have n3_ := Aside0.mk (blk_below (g := gb230) (o := .cells #[.bool a3_0, .int .i64 a3_1] 25 (0, 0)) (by (with_reducible repeat (first | refine blk_drewN ?_ _ | refine blk_drew ?_ | refine blk_alloc ?_ _)); exact BK230.out) hb); have n4_ := Aside0.mk (below_step (by repeat (first | (with_reducible first | exact HB.out | apply below_alloc | apply pw_below_drewN | apply below_drew1 | refine below_set ?_ GE227.out | refine below_set ?_ GE228.out | refine below_set ?_ GE229.out | refine below_set ?_ GE230.out) | exact HB.out)) hb); clear BK227; clear BK228; clear BK229; clear BK230; clear HB; have BK227 := n0_; have BK228 := n1_; have BK229 := n2_; have BK230 := n3_; have HB := n4_; clear n0_ n1_ n2_ n3_ n4_; (try clear hb); (try clear hb2); (try clear hk); (try clear hi)))
                go_ret
                exact ⟨by first | rfl | (simp [errW_none, errW_some] <;> rfl) | (simp [*, errW_none, errW_some] <;> rfl), by repeat (first | (with_reducible first | exact HB.out | apply below_alloc | apply pw_below_drewN | apply below_drew1 | refine below_set ?_ GE227.out | refine below_set ?_ GE228.out | refine below_set ?_ GE229.out | refine below_set ?_ GE230.out) | exact HB.out)⟩
              · rw [if_neg c106] at H
                exact absurd H (by simp)
            · rw [if_neg c105] at H
              exact absurd H (by simp)
          · exact absurd rfl c104
  · replace c7 := Bool.eq_false_iff.mpr c7
    subst c7
    have H1 : (none) = some r := by rw [if_neg (show ¬ (false = true) by decide)] at H; exact H
    clear H
    have H := H1
    clear H1
    exact absurd H (by simp)

/-- THE ONE PURE STATEMENT of valancelaw10_StickMore: yours. -/
def valancelaw10_StickMore.Pure : Prop := ∀ (a0_0 : Int) (a0_1 : Int) (a1_0 : Int) (a1_1 : Int) (a2_0 : Int) (a2_1 : Int) (a3_0 : Bool) (a3_1 : Int) (a4 : Int), (Lit.int .i64 a0_0).wf = true → (Lit.int .i64 a0_1).wf = true → (Lit.int .i64 a1_0).wf = true → (Lit.int .i64 a1_1).wf = true → (Lit.int .i64 a2_0).wf = true → (Lit.int .i64 a2_1).wf = true → (Lit.int .i64 a3_1).wf = true → (Lit.int .i64 a4).wf = true → ∃ k, valancelaw10_StickMore.f k a0_0 a0_1 a1_0 a1_1 a2_0 a2_1 a3_0 a3_1 a4 = some true
theorem valancelaw10_StickMore.walk (P : valancelaw10_StickMore.Pure) (a0_0 : Int) (a0_1 : Int) (a1_0 : Int) (a1_1 : Int) (a2_0 : Int) (a2_1 : Int) (a3_0 : Bool) (a3_1 : Int) (a4 : Int) (w : World) (w0_0 : (Lit.int .i64 a0_0).wf = true) (w0_1 : (Lit.int .i64 a0_1).wf = true) (w1_0 : (Lit.int .i64 a1_0).wf = true) (w1_1 : (Lit.int .i64 a1_1).wf = true) (w2_0 : (Lit.int .i64 a2_0).wf = true) (w2_1 : (Lit.int .i64 a2_1).wf = true) (w3_1 : (Lit.int .i64 a3_1).wf = true) (w4 : (Lit.int .i64 a4).wf = true) :
    Calls Try.prog 7 #[.agg #[.int .i64 a0_0, .int .i64 a0_1], .agg #[.int .i64 a1_0, .int .i64 a1_1], .agg #[.int .i64 a2_0, .int .i64 a2_1], .agg #[.bool a3_0, .int .i64 a3_1], .int .i64 a4] w fun e w' => e = .returned (.bool true) ∧ Below w.heap.size w w' := by
  obtain ⟨k, h⟩ := P a0_0 a0_1 a1_0 a1_1 a2_0 a2_1 a3_0 a3_1 a4 w0_0 w0_1 w1_0 w1_1 w2_0 w2_1 w3_1 w4
  refine (valancelaw10_StickMore.calls k a0_0 a0_1 a1_0 a1_1 a2_0 a2_1 a3_0 a3_1 a4 true w h).mono ?_
  rintro e w' ⟨rfl, hd⟩
  exact ⟨rfl, hd⟩

end Go.Proofs.Ytnmcefpnpfaklab.V
