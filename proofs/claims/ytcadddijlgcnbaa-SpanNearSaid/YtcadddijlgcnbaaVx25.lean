/- What the functions of this seat answer, as plain Lean functions, and that the calls come to just that (written by a program of this repo, over the kit's printer; Lean checks it). -/
import Derived.Test.YtcadddijlgcnbaaVx0
import Derived.Test.YtcadddijlgcnbaaVx2
import Derived.Test.YtcadddijlgcnbaaVx6
import Derived.Test.YtcadddijlgcnbaaVx9
import Derived.Test.YtcadddijlgcnbaaVx10
namespace Go.Proofs.Ytcadddijlgcnbaa.V
open Go.RowKit Go.Proofs.YtcadddijlgcnbaaW.PrintWords Go.Proofs.YtcadddijlgcnbaaW.PrintLast Go.Proofs.YtcadddijlgcnbaaW.PrintMore
attribute [local go_sem] max2_int min2_int max_two min_two max_three min_three max_four min_four   -- for this text's walks alone
set_option linter.unusedVariables false
set_option linter.unusedSimpArgs false

/-! ### valancelaw03_SpanNear: function 7 -/
mutual
def valancelaw03_SpanNear.j0 : Nat → Int → Bool → Bool → Int → Int → Int → Int → Int → Int → Option (Bool)
  | 0, _, _, _, _, _, _, _, _, _ => none
  | k + 1, x3, x9, x39, x297000, x297001, x298000, x298001, x299000, x299001 => if x39 = true then (some x9) else ((span_Near.f x297000 x297001 x3).bind fun t300 => (if t300 ≥ x297000 then (if t300 ≤ x297001 then (if (mx (wrap64 (t300 - x3)) (wrap64 (x3 - t300))) ≤ (mx (wrap64 (x297000 - x3)) (wrap64 (x3 - x297000))) then (valancelaw03_SpanNear.j1 k x9 (decide ((mx (wrap64 (t300 - x3)) (wrap64 (x3 - t300))) ≤ (mx (wrap64 (x297001 - x3)) (wrap64 (x3 - x297001))))) x297000 x297001 x298000 x298001 x299000 x299001) else (valancelaw03_SpanNear.j1 k x9 false x297000 x297001 x298000 x298001 x299000 x299001)) else (valancelaw03_SpanNear.j1 k x9 false x297000 x297001 x298000 x298001 x299000 x299001)) else (valancelaw03_SpanNear.j1 k x9 false x297000 x297001 x298000 x298001 x299000 x299001)))
def valancelaw03_SpanNear.j1 : Nat → Bool → Bool → Int → Int → Int → Int → Int → Int → Option (Bool)
  | 0, _, _, _, _, _, _, _, _ => none
  | k + 1, x9, x12, x297000, x297001, x298000, x298001, x299000, x299001 => if x9 = true then (if x12 = true then ((span_In.f x297000 x297001 x298000 x298001).bind fun t301 => (if t301 = true then ((span_In.f x298000 x298001 x299000 x299001).bind fun t302 => (if t302 = true then ((span_In.f x297000 x297001 x299000 x299001).bind fun t303 => (if t303 = true then ((span_In.f x297000 x297001 x297000 x297001).bind fun t304 => (some t304)) else (if x298001 ≤ x298000 then ((span_In.f x297000 x297001 x297000 x297001).bind fun t305 => (some t305)) else (none)))) else ((span_In.f x297000 x297001 x297000 x297001).bind fun t306 => (some t306)))) else ((span_In.f x297000 x297001 x297000 x297001).bind fun t307 => (some t307)))) else (none)) else (none)
end
def valancelaw03_SpanNear.f (k : Nat) (a0_0 : Int) (a0_1 : Int) (a1_0 : Int) (a1_1 : Int) (a2_0 : Int) (a2_1 : Int) (a3 : Int) : Option (Bool) := (valancelaw03_works.f).bind fun t299 => (if t299 = true then (if a3 < (-1073741824) then (valancelaw03_SpanNear.j0 k a3 t299 true a0_0 a0_1 a1_0 a1_1 a2_0 a2_1) else (if a3 > 1073741824 then (valancelaw03_SpanNear.j0 k a3 t299 true a0_0 a0_1 a1_0 a1_1 a2_0 a2_1) else (if a0_0 < (-1073741824) then (valancelaw03_SpanNear.j0 k a3 t299 true a0_0 a0_1 a1_0 a1_1 a2_0 a2_1) else (if a0_1 > 1073741824 then (valancelaw03_SpanNear.j0 k a3 t299 true a0_0 a0_1 a1_0 a1_1 a2_0 a2_1) else (valancelaw03_SpanNear.j0 k a3 t299 (decide (a0_0 > a0_1)) a0_0 a0_1 a1_0 a1_1 a2_0 a2_1))))) else (none))
theorem valancelaw03_SpanNear.mono_l : ∀ k, (∀ y0 y1 y2 y3 y4 y5 y6 y7 y8, LeO (valancelaw03_SpanNear.j0 k y0 y1 y2 y3 y4 y5 y6 y7 y8) (valancelaw03_SpanNear.j0 (k + 1) y0 y1 y2 y3 y4 y5 y6 y7 y8)) ∧ (∀ y0 y1 y2 y3 y4 y5 y6 y7, LeO (valancelaw03_SpanNear.j1 k y0 y1 y2 y3 y4 y5 y6 y7) (valancelaw03_SpanNear.j1 (k + 1) y0 y1 y2 y3 y4 y5 y6 y7))
  | 0 => ⟨fun _ _ _ _ _ _ _ _ _ r h => by simp [valancelaw03_SpanNear.j0] at h, fun _ _ _ _ _ _ _ _ r h => by simp [valancelaw03_SpanNear.j1] at h⟩
  | k + 1 => by
    obtain ⟨ih0, ih1⟩ := valancelaw03_SpanNear.mono_l k
    refine ⟨?_, ?_⟩
    · intro y0 y1 y2 y3 y4 y5 y6 y7 y8
      unfold valancelaw03_SpanNear.j0
      repeat' first
      | (with_reducible exact ih0 _ _ _ _ _ _ _ _ _)
      | (with_reducible exact ih1 _ _ _ _ _ _ _ _)
      | (with_reducible exact LeO.refl _)
      | (with_reducible exact LeO.none _)
      | (with_reducible refine LeO.ite ?_ ?_)
      | (with_reducible refine LeO.bind ?_ (fun _ => ?_))
      | exact ih0 _ _ _ _ _ _ _ _ _
      | exact ih1 _ _ _ _ _ _ _ _
      | exact LeO.none _
      | refine LeO.ite ?_ ?_
      | refine LeO.bind ?_ (fun _ => ?_)
    · intro y0 y1 y2 y3 y4 y5 y6 y7
      unfold valancelaw03_SpanNear.j1
      repeat' first
      | (with_reducible exact ih0 _ _ _ _ _ _ _ _ _)
      | (with_reducible exact ih1 _ _ _ _ _ _ _ _)
      | (with_reducible exact LeO.refl _)
      | (with_reducible exact LeO.none _)
      | (with_reducible refine LeO.ite ?_ ?_)
      | (with_reducible refine LeO.bind ?_ (fun _ => ?_))
      | exact ih0 _ _ _ _ _ _ _ _ _
      | exact ih1 _ _ _ _ _ _ _ _
      | exact LeO.none _
      | refine LeO.ite ?_ ?_
      | refine LeO.bind ?_ (fun _ => ?_)
theorem valancelaw03_SpanNear.mono : ∀ a0 a1 a2 a3 a4 a5 a6 k, LeO (valancelaw03_SpanNear.f k a0 a1 a2 a3 a4 a5 a6) (valancelaw03_SpanNear.f (k + 1) a0 a1 a2 a3 a4 a5 a6) := by
  intro a0 a1 a2 a3 a4 a5 a6 k
  obtain ⟨ih0, ih1⟩ := valancelaw03_SpanNear.mono_l k
  unfold valancelaw03_SpanNear.f
  repeat' first
      | (with_reducible exact ih0 _ _ _ _ _ _ _ _ _)
      | (with_reducible exact ih1 _ _ _ _ _ _ _ _)
      | (with_reducible exact LeO.refl _)
      | (with_reducible exact LeO.none _)
      | (with_reducible refine LeO.ite ?_ ?_)
      | (with_reducible refine LeO.bind ?_ (fun _ => ?_))
      | exact ih0 _ _ _ _ _ _ _ _ _
      | exact ih1 _ _ _ _ _ _ _ _
      | exact LeO.none _
      | refine LeO.ite ?_ ?_
      | refine LeO.bind ?_ (fun _ => ?_)
set_option maxHeartbeats 8000000 in
set_option maxRecDepth 100000 in
theorem valancelaw03_SpanNear.calls (k : Nat) (a0_0 : Int) (a0_1 : Int) (a1_0 : Int) (a1_1 : Int) (a2_0 : Int) (a2_1 : Int) (a3 : Int) (r : Bool) (w : World) (h : valancelaw03_SpanNear.f k a0_0 a0_1 a1_0 a1_1 a2_0 a2_1 a3 = some r) :
    Calls Try.prog 7 #[.agg #[.int .i64 a0_0, .int .i64 a0_1], .agg #[.int .i64 a1_0, .int .i64 a1_1], .agg #[.int .i64 a2_0, .int .i64 a2_1], .int .i64 a3] w fun e w' => e = .returned (.bool r) ∧ Below w.heap.size w w' := by
  have hu23 := Try.underlying23
  have HB := Aside0.mk (Below.refl w.heap.size w)
  have H : ((valancelaw03_works.f).bind fun t299 => (if t299 = true then (if a3 < (-1073741824) then (valancelaw03_SpanNear.j0 k a3 t299 true a0_0 a0_1 a1_0 a1_1 a2_0 a2_1) else (if a3 > 1073741824 then (valancelaw03_SpanNear.j0 k a3 t299 true a0_0 a0_1 a1_0 a1_1 a2_0 a2_1) else (if a0_0 < (-1073741824) then (valancelaw03_SpanNear.j0 k a3 t299 true a0_0 a0_1 a1_0 a1_1 a2_0 a2_1) else (if a0_1 > 1073741824 then (valancelaw03_SpanNear.j0 k a3 t299 true a0_0 a0_1 a1_0 a1_1 a2_0 a2_1) else (valancelaw03_SpanNear.j0 k a3 t299 (decide (a0_0 > a0_1)) a0_0 a0_1 a1_0 a1_1 a2_0 a2_1))))) else (none))) = some r := h
  clear h
  replace H := Option.bind_eq_some_iff.mp H
  obtain ⟨t299, A50, H⟩ := H
  replace H : (if t299 = true then (if a3 < (-1073741824) then (valancelaw03_SpanNear.j0 k a3 t299 true a0_0 a0_1 a1_0 a1_1 a2_0 a2_1) else (if a3 > 1073741824 then (valancelaw03_SpanNear.j0 k a3 t299 true a0_0 a0_1 a1_0 a1_1 a2_0 a2_1) else (if a0_0 < (-1073741824) then (valancelaw03_SpanNear.j0 k a3 t299 true a0_0 a0_1 a1_0 a1_1 a2_0 a2_1) else (if a0_1 > 1073741824 then (valancelaw03_SpanNear.j0 k a3 t299 true a0_0 a0_1 a1_0 a1_1 a2_0 a2_1) else (valancelaw03_SpanNear.j0 k a3 t299 (decide (a0_0 > a0_1)) a0_0 a0_1 a1_0 a1_1 a2_0 a2_1))))) else (none)) = some r := H
  have A5 := Aside0.mk A50
  clear A50
  by_cases c6 : t299 = true
  · subst c6
    have H1 : (if a3 < (-1073741824) then (valancelaw03_SpanNear.j0 k a3 true true a0_0 a0_1 a1_0 a1_1 a2_0 a2_1) else (if a3 > 1073741824 then (valancelaw03_SpanNear.j0 k a3 true true a0_0 a0_1 a1_0 a1_1 a2_0 a2_1) else (if a0_0 < (-1073741824) then (valancelaw03_SpanNear.j0 k a3 true true a0_0 a0_1 a1_0 a1_1 a2_0 a2_1) else (if a0_1 > 1073741824 then (valancelaw03_SpanNear.j0 k a3 true true a0_0 a0_1 a1_0 a1_1 a2_0 a2_1) else (valancelaw03_SpanNear.j0 k a3 true (decide (a0_0 > a0_1)) a0_0 a0_1 a1_0 a1_1 a2_0 a2_1))))) = some r := by rw [if_pos rfl] at H; exact H
    clear H
    have H := H1
    clear H1
    have HC7 := Aside0.mk H
    clear H
    go_enter Try.func7, Try.ntmps7
    go_upto_region 4 with (first | ((with_reducible refine gate_dst (N := 4) rfl ?_); (try (refine gate_guard (by rfl) ?_; dsimp only)); refine box_event ?hg (N := 4) ?hd (cs := #[.int .i64 a0_0, .int .i64 a0_1]) (t := 23) ?hr ?_; (case hd => rfl); (case hg => rfl); (case hr => first | (go_simp; done) | (go_simp; rfl)); intro gb296 hg w8 hbox hb; have n0_ := Aside0.mk (below_step (by repeat (first | (with_reducible first | exact HB.out | apply below_alloc | apply pw_below_drewN | apply below_drew1) | exact HB.out)) hb); have n1_ := Aside0.mk (hbox); have n2_ := Aside0.mk ((by rw [hg]; exact (below_size (by repeat (first | (with_reducible first | exact HB.out | apply below_alloc | apply pw_below_drewN | apply below_drew1) | exact HB.out))) : w.heap.size ≤ gb296)); have n3_ := Aside0.mk ((by rw [hg]; exact (below_size (by repeat (first | (with_reducible first | exact HB.out | apply below_alloc | apply pw_below_drewN | apply below_drew1) | exact HB.out))) : w.heap.size ≤ gb296)); clear HB; have HB := n0_; have BK296 := n1_; have GW296 := n2_; have GE296 := n3_; clear n0_ n1_ n2_ n3_; clear hb hbox hg) | ((with_reducible refine gate_dst (N := 5) rfl ?_); (try (refine gate_guard (by rfl) ?_; dsimp only)); refine box_event ?hg (N := 5) ?hd (cs := #[.int .i64 a1_0, .int .i64 a1_1]) (t := 23) ?hr ?_; (case hd => rfl); (case hg => rfl); (case hr => first | (go_simp; done) | (go_simp; rfl)); intro gb297 hg w9 hbox hb; have n0_ := Aside0.mk (blk_below (g := gb296) (o := .cells #[.int .i64 a0_0, .int .i64 a0_1] 23 (0, 0)) (by (with_reducible repeat (first | refine blk_drewN ?_ _ | refine blk_drew ?_ | refine blk_alloc ?_ _)); exact BK296.out) hb); have n1_ := Aside0.mk (below_step (by repeat (first | (with_reducible first | exact HB.out | apply below_alloc | apply pw_below_drewN | apply below_drew1 | refine below_set ?_ GE296.out) | exact HB.out)) hb); have n2_ := Aside0.mk (hbox); have n3_ := Aside0.mk ((by rw [hg]; exact (below_size (by repeat (first | (with_reducible first | exact HB.out | apply below_alloc | apply pw_below_drewN | apply below_drew1 | refine below_set ?_ GE296.out) | exact HB.out))) : w.heap.size ≤ gb297)); have n4_ := Aside0.mk ((by rw [hg]; exact (below_size (by repeat (first | (with_reducible first | exact HB.out | apply below_alloc | apply pw_below_drewN | apply below_drew1 | refine below_set ?_ GE296.out) | exact HB.out))) : w.heap.size ≤ gb297)); have n5_ := Aside0.mk ((by rw [hg]; exact Nat.ne_of_lt (blk_lt (g := gb296) (o := .cells #[.int .i64 a0_0, .int .i64 a0_1] 23 (0, 0)) (by (with_reducible repeat (first | refine blk_drewN ?_ _ | refine blk_drew ?_ | refine blk_alloc ?_ _)); exact BK296.out)) : gb296 ≠ gb297)); have n6_ := Aside0.mk ((by rw [hg]; exact Nat.ne_of_gt (blk_lt (g := gb296) (o := .cells #[.int .i64 a0_0, .int .i64 a0_1] 23 (0, 0)) (by (with_reducible repeat (first | refine blk_drewN ?_ _ | refine blk_drew ?_ | refine blk_alloc ?_ _)); exact BK296.out)) : gb297 ≠ gb296)); clear BK296; clear HB; have BK296 := n0_; have HB := n1_; have BK297 := n2_; have GW297 := n3_; have GE297 := n4_; have NB296_297 := n5_; have NB297_296 := n6_; clear n0_ n1_ n2_ n3_ n4_ n5_ n6_; clear hb hbox hg) | ((with_reducible refine gate_dst (N := 6) rfl ?_); (try (refine gate_guard (by rfl) ?_; dsimp only)); refine box_event ?hg (N := 6) ?hd (cs := #[.int .i64 a2_0, .int .i64 a2_1]) (t := 23) ?hr ?_; (case hd => rfl); (case hg => rfl); (case hr => first | (go_simp; done) | (go_simp; rfl)); intro gb298 hg w10 hbox hb; have n0_ := Aside0.mk (blk_below (g := gb296) (o := .cells #[.int .i64 a0_0, .int .i64 a0_1] 23 (0, 0)) (by (with_reducible repeat (first | refine blk_drewN ?_ _ | refine blk_drew ?_ | refine blk_alloc ?_ _)); exact BK296.out) hb); have n1_ := Aside0.mk (blk_below (g := gb297) (o := .cells #[.int .i64 a1_0, .int .i64 a1_1] 23 (0, 0)) (by (with_reducible repeat (first | refine blk_drewN ?_ _ | refine blk_drew ?_ | refine blk_alloc ?_ _)); exact BK297.out) hb); have n2_ := Aside0.mk (below_step (by repeat (first | (with_reducible first | exact HB.out | apply below_alloc | apply pw_below_drewN | apply below_drew1 | refine below_set ?_ GE296.out | refine below_set ?_ GE297.out) | exact HB.out)) hb); have n3_ := Aside0.mk (hbox); have n4_ := Aside0.mk ((by rw [hg]; exact (below_size (by repeat (first | (with_reducible first | exact HB.out | apply below_alloc | apply pw_below_drewN | apply below_drew1 | refine below_set ?_ GE296.out | refine below_set ?_ GE297.out) | exact HB.out))) : w.heap.size ≤ gb298)); have n5_ := Aside0.mk ((by rw [hg]; exact (below_size (by repeat (first | (with_reducible first | exact HB.out | apply below_alloc | apply pw_below_drewN | apply below_drew1 | refine below_set ?_ GE296.out | refine below_set ?_ GE297.out) | exact HB.out))) : w.heap.size ≤ gb298)); have n6_ := Aside0.mk ((by rw [hg]; exact Nat.ne_of_lt (blk_lt (g := gb296) (o := .cells #[.int .i64 a0_0, .int .i64 a0_1] 23 (0, 0)) (by (with_reducible repeat (first | refine blk_drewN ?_ _ | refine blk_drew ?_ | refine blk_alloc ?_ _)); exact BK296.out)) : gb296 ≠ gb298)); have n7_ := Aside0.mk ((by rw [hg]; exact Nat.ne_of_gt (blk_lt (g := gb296) (o := .cells #[.int .i64 a0_0, .int .i64 a0_1] 23 (0, 0)) (by (with_reducible repeat (first | refine blk_drewN ?_ _ | refine blk_drew ?_ | refine blk_alloc ?_ _)); exact BK296.out)) : gb298 ≠ gb296)); have n8_ := Aside0.mk ((by rw [hg]; exact Nat.ne_of_lt (blk_lt (g := gb297) (o := .cells #[.int .i64 a1_0, .int .i64 a1_1] 23 (0, 0)) (by (with_reducible repeat (first | refine blk_drewN ?_ _ | refine blk_drew ?_ | refine blk_alloc ?_ _)); exact BK297.out)) : gb297 ≠ gb298)); have n9_ := Aside0.mk ((by rw [hg]; exact Nat.ne_of_gt (blk_lt (g := gb297) (o := .cells #[.int .i64 a1_0, .int .i64 a1_1] 23 (0, 0)) (by (with_reducible repeat (first | refine blk_drewN ?_ _ | refine blk_drew ?_ | refine blk_alloc ?_ _)); exact BK297.out)) : gb298 ≠ gb297)); clear BK296; clear BK297; clear HB; have BK296 := n0_; have BK297 := n1_; have HB := n2_; have BK298 := n3_; have GW298 := n4_; have GE298 := n5_; have NB296_298 := n6_; have NB298_296 := n7_; have NB297_298 := n8_; have NB298_297 := n9_; clear n0_ n1_ n2_ n3_ n4_ n5_ n6_ n7_ n8_ n9_; clear hb hbox hg) | ((with_reducible refine gate_callee (f := 15) rfl ?_); refine goesL_ (some 14) rfl rfl Try.func15 (by kernel_rfl) rfl #[] rfl (by (try simp only [List.map_toArray, List.map_cons, List.map_nil]); first | done | rfl | (simp only [List.length_drop, List.length_take]; rfl)) ?_; (with_reducible refine (valancelaw03_works.calls  true _ A5.out).mono ?_); rintro e w11 ⟨rfl, hb⟩; refine ⟨_, rfl, ?_⟩; have n0_ := Aside0.mk (blk_below (g := gb296) (o := .cells #[.int .i64 a0_0, .int .i64 a0_1] 23 (0, 0)) (by (with_reducible repeat (first | refine blk_drewN ?_ _ | refine blk_drew ?_ | refine blk_alloc ?_ _)); exact BK296.out) hb); have n1_ := Aside0.mk (blk_below (g := gb297) (o := .cells #[.int .i64 a1_0, .int .i64 a1_1] 23 (0, 0)) (by (with_reducible repeat (first | refine blk_drewN ?_ _ | refine blk_drew ?_ | refine blk_alloc ?_ _)); exact BK297.out) hb); have n2_ := Aside0.mk (blk_below (g := gb298) (o := .cells #[.int .i64 a2_0, .int .i64 a2_1] 23 (0, 0)) (by (with_reducible repeat (first | refine blk_drewN ?_ _ | refine blk_drew ?_ | refine blk_alloc ?_ _)); exact BK298.out) hb); have n3_ := Aside0.mk (below_step (by repeat (first | (with_reducible first | exact HB.out | apply below_alloc | apply pw_below_drewN | apply below_drew1 | refine below_set ?_ GE296.out | refine below_set ?_ GE297.out | refine below_set ?_ GE298.out) | exact HB.out)) hb); clear BK296; clear BK297; clear BK298; clear HB; have BK296 := n0_; have BK297 := n1_; have BK298 := n2_; have HB := n3_; clear n0_ n1_ n2_ n3_; (try clear hb); (try clear hb2); (try clear hk); (try clear hi)))
    (try simp only [Act.put, List.setIfInBounds_toArray, List.set_cons_zero, List.set_cons_succ])
    go_cut [39] (fun v39 wc => ∃ (kq : Nat) (x39_6 : Bool), v39 = .bool x39_6 ∧ Aside0 (valancelaw03_SpanNear.j0 kq a3 true x39_6 a0_0 a0_1 a1_0 a1_1 a2_0 a2_1 = some r) ∧ Aside0 (kq ≤ k) ∧ Aside0 (wc.heap[gb296]? = some (.cells #[.int .i64 a0_0, .int .i64 a0_1] 23 (0, 0))) ∧ Aside0 (wc.heap[gb297]? = some (.cells #[.int .i64 a1_0, .int .i64 a1_1] 23 (0, 0))) ∧ Aside0 (wc.heap[gb298]? = some (.cells #[.int .i64 a2_0, .int .i64 a2_1] 23 (0, 0))) ∧ Aside0 (Below w.heap.size w wc))
    case first =>
      have H := HC7.out
      clear HC7
      by_cases c12 : a3 < (-1073741824)
      · rw [if_pos c12] at H
        have c12b0 : decide (a3 < (-1073741824)) = true := decide_eq_true c12
        clear c12
        (first | rw [c12b0] | (simp only [i64_w, i32_w]; rw [c12b0]) | skip)
        have H' := Aside0.mk H
        clear H
        go_wp2
        go_meet
        case rel => exact ⟨_, (true), (by first | rfl | (simp; done) | (simp [*]; done)), H', ⟨by first | omega | exact Nat.le_refl _⟩, ⟨by (with_reducible repeat (first | refine blk_drewN ?_ _ | refine blk_drew ?_ | refine blk_alloc ?_ _)); exact BK296.out⟩, ⟨by (with_reducible repeat (first | refine blk_drewN ?_ _ | refine blk_drew ?_ | refine blk_alloc ?_ _)); exact BK297.out⟩, ⟨by (with_reducible repeat (first | refine blk_drewN ?_ _ | refine blk_drew ?_ | refine blk_alloc ?_ _)); exact BK298.out⟩, ⟨by repeat (first | (with_reducible first | exact HB.out | apply below_alloc | apply pw_below_drewN | apply below_drew1 | refine below_set ?_ GE296.out | refine below_set ?_ GE297.out | refine below_set ?_ GE298.out) | exact HB.out)⟩⟩
      · rw [if_neg c12] at H
        have c12b0 : decide (a3 < (-1073741824)) = false := decide_eq_false c12
        clear c12
        (first | rw [c12b0] | (simp only [i64_w, i32_w]; rw [c12b0]) | skip)
        by_cases c13 : a3 > 1073741824
        · rw [if_pos c13] at H
          have c13b0 : decide (1073741824 < a3) = true := decide_eq_true c13
          clear c13
          have H' := Aside0.mk H
          clear H
          go_wp2
          go_meet
          case rel => exact ⟨_, (true), (by first | rfl | (simp; done) | (simp [*]; done)), H', ⟨by first | omega | exact Nat.le_refl _⟩, ⟨by (with_reducible repeat (first | refine blk_drewN ?_ _ | refine blk_drew ?_ | refine blk_alloc ?_ _)); exact BK296.out⟩, ⟨by (with_reducible repeat (first | refine blk_drewN ?_ _ | refine blk_drew ?_ | refine blk_alloc ?_ _)); exact BK297.out⟩, ⟨by (with_reducible repeat (first | refine blk_drewN ?_ _ | refine blk_drew ?_ | refine blk_alloc ?_ _)); exact BK298.out⟩, ⟨by repeat (first | (with_reducible first | exact HB.out | apply below_alloc | apply pw_below_drewN | apply below_drew1 | refine below_set ?_ GE296.out | refine below_set ?_ GE297.out | refine below_set ?_ GE298.out) | exact HB.out)⟩⟩
        · rw [if_neg c13] at H
          have c13b0 : decide (1073741824 < a3) = false := decide_eq_false c13
          clear c13
          by_cases c14 : a0_0 < (-1073741824)
          · rw [if_pos c14] at H
            have c14b0 : decide (a0_0 < (-1073741824)) = true := decide_eq_true c14
            clear c14
            have H' := Aside0.mk H
            clear H
            have hnb15 := NB296_297.out
            have hnc15 := NB297_296.out
            have hnb16 := NB296_298.out
            have hnc16 := NB298_296.out
            have hcz17_0 : w11.cell? ⟨gb296, 0, none⟩ = some (.int .i64 a0_0) := (blk_cell BK296.out 0).trans rfl
            have hcz17_1 : w11.cell? ⟨gb296, 1, none⟩ = some (.int .i64 a0_1) := (blk_cell BK296.out 1).trans rfl
            have hfz17_0 := blk_frozen BK296.out 0
            have hfz17_1 := blk_frozen BK296.out 1
            go_wp2
            go_meet
            case rel => exact ⟨_, (true), (by first | rfl | (simp; done) | (simp [*]; done)), H', ⟨by first | omega | exact Nat.le_refl _⟩, ⟨by (with_reducible repeat (first | refine blk_drewN ?_ _ | refine blk_drew ?_ | refine blk_alloc ?_ _)); exact BK296.out⟩, ⟨by (with_reducible repeat (first | refine blk_drewN ?_ _ | refine blk_drew ?_ | refine blk_alloc ?_ _)); exact BK297.out⟩, ⟨by (with_reducible repeat (first | refine blk_drewN ?_ _ | refine blk_drew ?_ | refine blk_alloc ?_ _)); exact BK298.out⟩, ⟨by repeat (first | (with_reducible first | exact HB.out | apply below_alloc | apply pw_below_drewN | apply below_drew1 | refine below_set ?_ GE296.out | refine below_set ?_ GE297.out | refine below_set ?_ GE298.out) | exact HB.out)⟩⟩
          · rw [if_neg c14] at H
            have c14b0 : decide (a0_0 < (-1073741824)) = false := decide_eq_false c14
            clear c14
            by_cases c18 : a0_1 > 1073741824
            · rw [if_pos c18] at H
              have c18b0 : decide (1073741824 < a0_1) = true := decide_eq_true c18
              clear c18
              have H' := Aside0.mk H
              clear H
              have hnb19 := NB296_297.out
              have hnc19 := NB297_296.out
              have hnb20 := NB296_298.out
              have hnc20 := NB298_296.out
              have hcz21_0 : w11.cell? ⟨gb296, 0, none⟩ = some (.int .i64 a0_0) := (blk_cell BK296.out 0).trans rfl
              have hcz21_1 : w11.cell? ⟨gb296, 1, none⟩ = some (.int .i64 a0_1) := (blk_cell BK296.out 1).trans rfl
              have hfz21_0 := blk_frozen BK296.out 0
              have hfz21_1 := blk_frozen BK296.out 1
              go_wp2
              go_meet
              case rel => exact ⟨_, (true), (by first | rfl | (simp; done) | (simp [*]; done)), H', ⟨by first | omega | exact Nat.le_refl _⟩, ⟨by (with_reducible repeat (first | refine blk_drewN ?_ _ | refine blk_drew ?_ | refine blk_alloc ?_ _)); exact BK296.out⟩, ⟨by (with_reducible repeat (first | refine blk_drewN ?_ _ | refine blk_drew ?_ | refine blk_alloc ?_ _)); exact BK297.out⟩, ⟨by (with_reducible repeat (first | refine blk_drewN ?_ _ | refine blk_drew ?_ | refine blk_alloc ?_ _)); exact BK298.out⟩, ⟨by repeat (first | (with_reducible first | exact HB.out | apply below_alloc | apply pw_below_drewN | apply below_drew1 | refine below_set ?_ GE296.out | refine below_set ?_ GE297.out | refine below_set ?_ GE298.out) | exact HB.out)⟩⟩
            · rw [if_neg c18] at H
              have c18b0 : decide (1073741824 < a0_1) = false := decide_eq_false c18
              clear c18
              have H' := Aside0.mk H
              clear H
              have hnb22 := NB296_297.out
              have hnc22 := NB297_296.out
              have hnb23 := NB296_298.out
              have hnc23 := NB298_296.out
              have hcz24_0 : w11.cell? ⟨gb296, 0, none⟩ = some (.int .i64 a0_0) := (blk_cell BK296.out 0).trans rfl
              have hcz24_1 : w11.cell? ⟨gb296, 1, none⟩ = some (.int .i64 a0_1) := (blk_cell BK296.out 1).trans rfl
              have hfz24_0 := blk_frozen BK296.out 0
              have hfz24_1 := blk_frozen BK296.out 1
              go_wp2
              go_meet
              case rel => exact ⟨_, (decide (a0_0 > a0_1)), (by first | rfl | (simp; done) | (simp [*]; done)), H', ⟨by first | omega | exact Nat.le_refl _⟩, ⟨by (with_reducible repeat (first | refine blk_drewN ?_ _ | refine blk_drew ?_ | refine blk_alloc ?_ _)); exact BK296.out⟩, ⟨by (with_reducible repeat (first | refine blk_drewN ?_ _ | refine blk_drew ?_ | refine blk_alloc ?_ _)); exact BK297.out⟩, ⟨by (with_reducible repeat (first | refine blk_drewN ?_ _ | refine blk_drew ?_ | refine blk_alloc ?_ _)); exact BK298.out⟩, ⟨by repeat (first | (with_reducible first | exact HB.out | apply below_alloc | apply pw_below_drewN | apply below_drew1 | refine below_set ?_ GE296.out | refine below_set ?_ GE297.out | refine below_set ?_ GE298.out) | exact HB.out)⟩⟩
    case rest =>
      clear HC7
      try clear c1
      try clear c2
      try clear p2
      try clear c6
      try clear c7
      try clear c12
      try clear c12b0
      try clear c13
      try clear c13b0
      try clear c14
      try clear c14b0
      try clear c15
      try clear c16
      try clear c18
      try clear c18b0
      try clear c19
      try clear c20
      try clear c22
      try clear c23
      try clear hcz17_0
      try clear hcz17_1
      try clear hcz21_0
      try clear hcz21_1
      try clear hcz24_0
      try clear hcz24_1
      try clear hfz17_0
      try clear hfz17_1
      try clear hfz21_0
      try clear hfz21_1
      try clear hfz24_0
      try clear hfz24_1
      obtain ⟨kq, x39_6, rfl, HA, HJ6, BK296, BK297, BK298, HB⟩ := hcut
      cases kq with
      | zero => exact absurd HA.out (by simp [valancelaw03_SpanNear.j0])
      | succ kj6 =>
        have H := HA.out
        clear HA
        simp only [valancelaw03_SpanNear.j0] at H
        by_cases c25 : x39_6 = true
        · subst c25
          have H1 : (some true) = some r := by rw [if_pos rfl] at H; exact H
          clear H
          have H := H1
          clear H1
          obtain rfl := Option.some.inj H
          go_wp2
          go_ret
          exact ⟨by first | rfl | (cases Option.some.inj (A74.out.symm.trans A58.out); rfl) | (cases Option.some.inj (A89.out.symm.trans A58.out); rfl) | (cases Option.some.inj (A89.out.symm.trans A74.out); rfl) | (cases Option.some.inj (A101.out.symm.trans A58.out); rfl) | (cases Option.some.inj (A101.out.symm.trans A74.out); rfl) | (cases Option.some.inj (A101.out.symm.trans A89.out); rfl) | (cases Option.some.inj (A58.out.symm.trans A74.out); rfl) | (cases Option.some.inj (A58.out.symm.trans A89.out); rfl) | (cases Option.some.inj (A58.out.symm.trans A101.out); rfl) | (cases Option.some.inj (A74.out.symm.trans A89.out); rfl) | (cases Option.some.inj (A74.out.symm.trans A101.out); rfl) | (cases Option.some.inj (A89.out.symm.trans A101.out); rfl) | (simp [errW_none, errW_some] <;> rfl) | (simp [*, errW_none, errW_some] <;> rfl), by repeat (first | (with_reducible first | exact HB.out | apply below_alloc | apply pw_below_drewN | apply below_drew1 | refine below_set ?_ GE296.out | refine below_set ?_ GE297.out | refine below_set ?_ GE298.out) | exact HB.out)⟩
        · replace c25 := Bool.eq_false_iff.mpr c25
          subst c25
          have H1 : ((span_Near.f a0_0 a0_1 a3).bind fun t300 => (if t300 ≥ a0_0 then (if t300 ≤ a0_1 then (if (mx (wrap64 (t300 - a3)) (wrap64 (a3 - t300))) ≤ (mx (wrap64 (a0_0 - a3)) (wrap64 (a3 - a0_0))) then (valancelaw03_SpanNear.j1 kj6 true (decide ((mx (wrap64 (t300 - a3)) (wrap64 (a3 - t300))) ≤ (mx (wrap64 (a0_1 - a3)) (wrap64 (a3 - a0_1))))) a0_0 a0_1 a1_0 a1_1 a2_0 a2_1) else (valancelaw03_SpanNear.j1 kj6 true false a0_0 a0_1 a1_0 a1_1 a2_0 a2_1)) else (valancelaw03_SpanNear.j1 kj6 true false a0_0 a0_1 a1_0 a1_1 a2_0 a2_1)) else (valancelaw03_SpanNear.j1 kj6 true false a0_0 a0_1 a1_0 a1_1 a2_0 a2_1))) = some r := by rw [if_neg (show ¬ (false = true) by decide)] at H; exact H
          clear H
          have H := H1
          clear H1
          replace H := Option.bind_eq_some_iff.mp H
          obtain ⟨t300, A260, H⟩ := H
          replace H : (if t300 ≥ a0_0 then (if t300 ≤ a0_1 then (if (mx (wrap64 (t300 - a3)) (wrap64 (a3 - t300))) ≤ (mx (wrap64 (a0_0 - a3)) (wrap64 (a3 - a0_0))) then (valancelaw03_SpanNear.j1 kj6 true (decide ((mx (wrap64 (t300 - a3)) (wrap64 (a3 - t300))) ≤ (mx (wrap64 (a0_1 - a3)) (wrap64 (a3 - a0_1))))) a0_0 a0_1 a1_0 a1_1 a2_0 a2_1) else (valancelaw03_SpanNear.j1 kj6 true false a0_0 a0_1 a1_0 a1_1 a2_0 a2_1)) else (valancelaw03_SpanNear.j1 kj6 true false a0_0 a0_1 a1_0 a1_1 a2_0 a2_1)) else (valancelaw03_SpanNear.j1 kj6 true false a0_0 a0_1 a1_0 a1_1 a2_0 a2_1)) = some r := H
          have A26 := Aside0.mk A260
          clear A260
          obtain ⟨ji27, hji27⟩ : ∃ j_ : Int, (mx (wrap64 (t300 - a3)) (wrap64 (a3 - t300))) = j_ := ⟨_, rfl⟩
          replace H : (if t300 ≥ a0_0 then (if t300 ≤ a0_1 then (if (ji27) ≤ (mx (wrap64 (a0_0 - a3)) (wrap64 (a3 - a0_0))) then (valancelaw03_SpanNear.j1 kj6 true (decide ((ji27) ≤ (mx (wrap64 (a0_1 - a3)) (wrap64 (a3 - a0_1))))) a0_0 a0_1 a1_0 a1_1 a2_0 a2_1) else (valancelaw03_SpanNear.j1 kj6 true false a0_0 a0_1 a1_0 a1_1 a2_0 a2_1)) else (valancelaw03_SpanNear.j1 kj6 true false a0_0 a0_1 a1_0 a1_1 a2_0 a2_1)) else (valancelaw03_SpanNear.j1 kj6 true false a0_0 a0_1 a1_0 a1_1 a2_0 a2_1)) = some r := by first | (rw [hji27] at H; exact H) | (simp only [hji27] at H ⊢; exact H)
          (try rw [hji27] at A26)
          have hji27_ : (if (wrap64 (t300 - a3)) < (wrap64 (a3 - t300)) then (wrap64 (a3 - t300)) else (wrap64 (t300 - a3))) = ji27 := hji27
          have HC28 := Aside0.mk H
          clear H
          have hnb29 := NB296_297.out
          have hnc29 := NB297_296.out
          have hnb30 := NB296_298.out
          have hnc30 := NB298_296.out
          have hcz31_0 : wc.cell? ⟨gb296, 0, none⟩ = some (.int .i64 a0_0) := (blk_cell BK296.out 0).trans rfl
          have hcz31_1 : wc.cell? ⟨gb296, 1, none⟩ = some (.int .i64 a0_1) := (blk_cell BK296.out 1).trans rfl
          have hfz31_0 := blk_frozen BK296.out 0
          have hfz31_1 := blk_frozen BK296.out 1
          go_upto_region 8 with (first | ((with_reducible refine gate_callee (f := 32) rfl ?_); refine goesL_ (some 43) rfl rfl Try.func32 (by kernel_rfl) rfl #[.agg #[.int .i64 a0_0, .int .i64 a0_1], .int .i64 a3] rfl (by (try simp only [List.map_toArray, List.map_cons, List.map_nil]); first | done | rfl | (simp only [List.length_drop, List.length_take]; rfl)) ?_; (with_reducible refine (span_Near.calls a0_0 a0_1 a3 t300 _ A26.out).mono ?_); rintro e w32 ⟨rfl, hb⟩; refine ⟨_, rfl, ?_⟩; have n0_ := Aside0.mk (blk_below (g := gb296) (o := .cells #[.int .i64 a0_0, .int .i64 a0_1] 23 (0, 0)) (by (with_reducible repeat (first | refine blk_drewN ?_ _ | refine blk_drew ?_ | refine blk_alloc ?_ _)); exact BK296.out) hb); have n1_ := Aside0.mk (blk_below (g := gb297) (o := .cells #[.int .i64 a1_0, .int .i64 a1_1] 23 (0, 0)) (by (with_reducible repeat (first | refine blk_drewN ?_ _ | refine blk_drew ?_ | refine blk_alloc ?_ _)); exact BK297.out) hb); have n2_ := Aside0.mk (blk_below (g := gb298) (o := .cells #[.int .i64 a2_0, .int .i64 a2_1] 23 (0, 0)) (by (with_reducible repeat (first | refine blk_drewN ?_ _ | refine blk_drew ?_ | refine blk_alloc ?_ _)); exact BK298.out) hb); have n3_ := Aside0.mk (below_step (by repeat (first | (with_reducible first | exact HB.out | apply below_alloc | apply pw_below_drewN | apply below_drew1 | refine below_set ?_ GE296.out | refine below_set ?_ GE297.out | refine below_set ?_ GE298.out) | exact HB.out)) hb); clear BK296; clear BK297; clear BK298; clear HB; have BK296 := n0_; have BK297 := n1_; have BK298 := n2_; have HB := n3_; clear n0_ n1_ n2_ n3_; (try clear hb); (try clear hb2); (try clear hk); (try clear hi)))
          (try simp only [Act.put, List.setIfInBounds_toArray, List.set_cons_zero, List.set_cons_succ])
          go_cut [12] (fun v12 wc => ∃ (kq : Nat) (x12_27 : Bool), v12 = .bool x12_27 ∧ Aside0 (valancelaw03_SpanNear.j1 kq true x12_27 a0_0 a0_1 a1_0 a1_1 a2_0 a2_1 = some r) ∧ Aside0 (kq ≤ kj6) ∧ Aside0 (wc.heap[gb296]? = some (.cells #[.int .i64 a0_0, .int .i64 a0_1] 23 (0, 0))) ∧ Aside0 (wc.heap[gb297]? = some (.cells #[.int .i64 a1_0, .int .i64 a1_1] 23 (0, 0))) ∧ Aside0 (wc.heap[gb298]? = some (.cells #[.int .i64 a2_0, .int .i64 a2_1] 23 (0, 0))) ∧ Aside0 (Below w.heap.size w wc))
          case first =>
            have H := HC28.out
            clear HC28
            by_cases c33 : t300 ≥ a0_0
            · rw [if_pos c33] at H
              have c33b0 : decide (a0_0 ≤ t300) = true := decide_eq_true c33
              clear c33
              (first | rw [c33b0] | (simp only [i64_w, i32_w]; rw [c33b0]) | skip)
              by_cases c34 : t300 ≤ a0_1
              · rw [if_pos c34] at H
                have c34b0 : decide (t300 ≤ a0_1) = true := decide_eq_true c34
                clear c34
                obtain ⟨ji35, hji35⟩ : ∃ j_ : Int, (mx (wrap64 (a0_0 - a3)) (wrap64 (a3 - a0_0))) = j_ := ⟨_, rfl⟩
                replace H : (if (ji27) ≤ (ji35) then (valancelaw03_SpanNear.j1 kj6 true (decide ((ji27) ≤ (mx (wrap64 (a0_1 - a3)) (wrap64 (a3 - a0_1))))) a0_0 a0_1 a1_0 a1_1 a2_0 a2_1) else (valancelaw03_SpanNear.j1 kj6 true false a0_0 a0_1 a1_0 a1_1 a2_0 a2_1)) = some r := by first | (rw [hji35] at H; exact H) | (simp only [hji35] at H ⊢; exact H)
                have hji35_ : (if (wrap64 (a0_0 - a3)) < (wrap64 (a3 - a0_0)) then (wrap64 (a3 - a0_0)) else (wrap64 (a0_0 - a3))) = ji35 := hji35
                by_cases c36 : (ji27) ≤ (ji35)
                · rw [if_pos c36] at H
                  have c36b0 : decide ((ji27) ≤ (ji35)) = true := decide_eq_true c36
                  clear c36
                  obtain ⟨ji37, hji37⟩ : ∃ j_ : Int, (mx (wrap64 (a0_1 - a3)) (wrap64 (a3 - a0_1))) = j_ := ⟨_, rfl⟩
                  replace H : (valancelaw03_SpanNear.j1 kj6 true (decide ((ji27) ≤ (ji37))) a0_0 a0_1 a1_0 a1_1 a2_0 a2_1) = some r := by first | (rw [hji37] at H; exact H) | (simp only [hji37] at H ⊢; exact H)
                  have hji37_ : (if (wrap64 (a0_1 - a3)) < (wrap64 (a3 - a0_1)) then (wrap64 (a3 - a0_1)) else (wrap64 (a0_1 - a3))) = ji37 := hji37
                  have H' := Aside0.mk H
                  clear H
                  have hnb38 := NB296_297.out
                  have hnc38 := NB297_296.out
                  have hnb39 := NB296_298.out
                  have hnc39 := NB298_296.out
                  have hcz40_0 : w32.cell? ⟨gb296, 0, none⟩ = some (.int .i64 a0_0) := (blk_cell BK296.out 0).trans rfl
                  have hcz40_1 : w32.cell? ⟨gb296, 1, none⟩ = some (.int .i64 a0_1) := (blk_cell BK296.out 1).trans rfl
                  have hfz40_0 := blk_frozen BK296.out 0
                  have hfz40_1 := blk_frozen BK296.out 1
                  go_wp2
                  go_meet
                  case rel => exact ⟨_, (decide ((ji27) ≤ (ji37))), (by first | rfl | (simp; done) | (simp only [← hji27, ← hji37] <;> (first | rfl | simp)) | (simp [*]; done)), H', ⟨by have := HJ6.out; first | omega | exact Nat.le_refl _⟩, ⟨by (with_reducible repeat (first | refine blk_drewN ?_ _ | refine blk_drew ?_ | refine blk_alloc ?_ _)); exact BK296.out⟩, ⟨by (with_reducible repeat (first | refine blk_drewN ?_ _ | refine blk_drew ?_ | refine blk_alloc ?_ _)); exact BK297.out⟩, ⟨by (with_reducible repeat (first | refine blk_drewN ?_ _ | refine blk_drew ?_ | refine blk_alloc ?_ _)); exact BK298.out⟩, ⟨by repeat (first | (with_reducible first | exact HB.out | apply below_alloc | apply pw_below_drewN | apply below_drew1 | refine below_set ?_ GE296.out | refine below_set ?_ GE297.out | refine below_set ?_ GE298.out) | exact HB.out)⟩⟩
                · rw [if_neg c36] at H
                  have c36b0 : decide ((ji27) ≤ (ji35)) = false := decide_eq_false c36
                  clear c36
                  have H' := Aside0.mk H
                  clear H
                  have hnb41 := NB296_297.out
                  have hnc41 := NB297_296.out
                  have hnb42 := NB296_298.out
                  have hnc42 := NB298_296.out
                  have hcz43_0 : w32.cell? ⟨gb296, 0, none⟩ = some (.int .i64 a0_0) := (blk_cell BK296.out 0).trans rfl
                  have hcz43_1 : w32.cell? ⟨gb296, 1, none⟩ = some (.int .i64 a0_1) := (blk_cell BK296.out 1).trans rfl
                  have hfz43_0 := blk_frozen BK296.out 0
                  have hfz43_1 := blk_frozen BK296.out 1
                  go_wp2
                  go_meet
                  case rel => exact ⟨_, (false), (by first | rfl | (simp; done) | (simp [*]; done)), H', ⟨by have := HJ6.out; first | omega | exact Nat.le_refl _⟩, ⟨by (with_reducible repeat (first | refine blk_drewN ?_ _ | refine blk_drew ?_ | refine blk_alloc ?_ _)); exact BK296.out⟩, ⟨by (with_reducible repeat (first | refine blk_drewN ?_ _ | refine blk_drew ?_ | refine blk_alloc ?_ _)); exact BK297.out⟩, ⟨by (with_reducible repeat (first | refine blk_drewN ?_ _ | refine blk_drew ?_ | refine blk_alloc ?_ _)); exact BK298.out⟩, ⟨by repeat (first | (with_reducible first | exact HB.out | apply below_alloc | apply pw_below_drewN | apply below_drew1 | refine below_set ?_ GE296.out | refine below_set ?_ GE297.out | refine below_set ?_ GE298.out) | exact HB.out)⟩⟩
              · rw [if_neg c34] at H
                have c34b0 : decide (t300 ≤ a0_1) = false := decide_eq_false c34
                clear c34
                have H' := Aside0.mk H
                clear H
                have hnb44 := NB296_297.out
                have hnc44 := NB297_296.out
                have hnb45 := NB296_298.out
                have hnc45 := NB298_296.out
                have hcz46_0 : w32.cell? ⟨gb296, 0, none⟩ = some (.int .i64 a0_0) := (blk_cell BK296.out 0).trans rfl
                have hcz46_1 : w32.cell? ⟨gb296, 1, none⟩ = some (.int .i64 a0_1) := (blk_cell BK296.out 1).trans rfl
                have hfz46_0 := blk_frozen BK296.out 0
                have hfz46_1 := blk_frozen BK296.out 1
                go_wp2
                go_meet
                case rel => exact ⟨_, (false), (by first | rfl | (simp; done) | (simp [*]; done)), H', ⟨by have := HJ6.out; first | omega | exact Nat.le_refl _⟩, ⟨by (with_reducible repeat (first | refine blk_drewN ?_ _ | refine blk_drew ?_ | refine blk_alloc ?_ _)); exact BK296.out⟩, ⟨by (with_reducible repeat (first | refine blk_drewN ?_ _ | refine blk_drew ?_ | refine blk_alloc ?_ _)); exact BK297.out⟩, ⟨by (with_reducible repeat (first | refine blk_drewN ?_ _ | refine blk_drew ?_ | refine blk_alloc ?_ _)); exact BK298.out⟩, ⟨by repeat (first | (with_reducible first | exact HB.out | apply below_alloc | apply pw_below_drewN | apply below_drew1 | refine below_set ?_ GE296.out | refine below_set ?_ GE297.out | refine below_set ?_ GE298.out) | exact HB.out)⟩⟩
            · rw [if_neg c33] at H
              have c33b0 : decide (a0_0 ≤ t300) = false := decide_eq_false c33
              clear c33
              (first | rw [c33b0] | (simp only [i64_w, i32_w]; rw [c33b0]) | skip)
              have H' := Aside0.mk H
              clear H
              have hnb47 := NB296_297.out
              have hnc47 := NB297_296.out
              have hnb48 := NB296_298.out
              have hnc48 := NB298_296.out
              have hcz49_0 : w32.cell? ⟨gb296, 0, none⟩ = some (.int .i64 a0_0) := (blk_cell BK296.out 0).trans rfl
              have hcz49_1 : w32.cell? ⟨gb296, 1, none⟩ = some (.int .i64 a0_1) := (blk_cell BK296.out 1).trans rfl
              have hfz49_0 := blk_frozen BK296.out 0
              have hfz49_1 := blk_frozen BK296.out 1
              go_wp2
              go_meet
              case rel => exact ⟨_, (false), (by first | rfl | (simp; done) | (simp [*]; done)), H', ⟨by have := HJ6.out; first | omega | exact Nat.le_refl _⟩, ⟨by (with_reducible repeat (first | refine blk_drewN ?_ _ | refine blk_drew ?_ | refine blk_alloc ?_ _)); exact BK296.out⟩, ⟨by (with_reducible repeat (first | refine blk_drewN ?_ _ | refine blk_drew ?_ | refine blk_alloc ?_ _)); exact BK297.out⟩, ⟨by (with_reducible repeat (first | refine blk_drewN ?_ _ | refine blk_drew ?_ | refine blk_alloc ?_ _)); exact BK298.out⟩, ⟨by repeat (first | (with_reducible first | exact HB.out | apply below_alloc | apply pw_below_drewN | apply below_drew1 | refine below_set ?_ GE296.out | refine below_set ?_ GE297.out | refine below_set ?_ GE298.out) | exact HB.out)⟩⟩
          case rest =>
            clear HC28
            try clear c1
            try clear c2
            try clear p2
            try clear c3
            try clear c4
            try clear c6
            try clear p6
            try clear c7
            try clear c12
            try clear c12b0
            try clear c13
            try clear c13b0
            try clear c14
            try clear c14b0
            try clear c15
            try clear c16
            try clear c18
            try clear c18b0
            try clear c19
            try clear c20
            try clear c22
            try clear c23
            try clear c25
            try clear c29
            try clear c30
            try clear c32
            try clear c33
            try clear c33b0
            try clear c34
            try clear c34b0
            try clear c36
            try clear c36b0
            try clear c38
            try clear c39
            try clear c41
            try clear c42
            try clear c44
            try clear c45
            try clear c47
            try clear c48
            try clear hcz17_0
            try clear hcz17_1
            try clear hcz21_0
            try clear hcz21_1
            try clear hcz24_0
            try clear hcz24_1
            try clear hcz31_0
            try clear hcz31_1
            try clear hcz40_0
            try clear hcz40_1
            try clear hcz43_0
            try clear hcz43_1
            try clear hcz46_0
            try clear hcz46_1
            try clear hcz49_0
            try clear hcz49_1
            try clear hfz17_0
            try clear hfz17_1
            try clear hfz21_0
            try clear hfz21_1
            try clear hfz24_0
            try clear hfz24_1
            try clear hfz31_0
            try clear hfz31_1
            try clear hfz40_0
            try clear hfz40_1
            try clear hfz43_0
            try clear hfz43_1
            try clear hfz46_0
            try clear hfz46_1
            try clear hfz49_0
            try clear hfz49_1
            try clear p2
            obtain ⟨kq, x12_27, rfl, HA, HJ27, BK296, BK297, BK298, HB⟩ := hcut
            cases kq with
            | zero => exact absurd HA.out (by simp [valancelaw03_SpanNear.j1])
            | succ kj27 =>
              have H := HA.out
              clear HA
              simp only [valancelaw03_SpanNear.j1] at H
              by_cases c50 : true = true
              · clear c50
                have H1 : (if x12_27 = true then ((span_In.f a0_0 a0_1 a1_0 a1_1).bind fun t301 => (if t301 = true then ((span_In.f a1_0 a1_1 a2_0 a2_1).bind fun t302 => (if t302 = true then ((span_In.f a0_0 a0_1 a2_0 a2_1).bind fun t303 => (if t303 = true then ((span_In.f a0_0 a0_1 a0_0 a0_1).bind fun t304 => (some t304)) else (if a1_1 ≤ a1_0 then ((span_In.f a0_0 a0_1 a0_0 a0_1).bind fun t305 => (some t305)) else (none)))) else ((span_In.f a0_0 a0_1 a0_0 a0_1).bind fun t306 => (some t306)))) else ((span_In.f a0_0 a0_1 a0_0 a0_1).bind fun t307 => (some t307)))) else (none)) = some r := by first | (rw [if_pos rfl] at H; exact H) | (rw [if_pos True.intro] at H; exact H)
                clear H
                have H := H1
                clear H1
                by_cases c51 : x12_27 = true
                · subst c51
                  have H1 : ((span_In.f a0_0 a0_1 a1_0 a1_1).bind fun t301 => (if t301 = true then ((span_In.f a1_0 a1_1 a2_0 a2_1).bind fun t302 => (if t302 = true then ((span_In.f a0_0 a0_1 a2_0 a2_1).bind fun t303 => (if t303 = true then ((span_In.f a0_0 a0_1 a0_0 a0_1).bind fun t304 => (some t304)) else (if a1_1 ≤ a1_0 then ((span_In.f a0_0 a0_1 a0_0 a0_1).bind fun t305 => (some t305)) else (none)))) else ((span_In.f a0_0 a0_1 a0_0 a0_1).bind fun t306 => (some t306)))) else ((span_In.f a0_0 a0_1 a0_0 a0_1).bind fun t307 => (some t307)))) = some r := by first | (rw [if_pos rfl] at H; exact H) | (rw [if_pos True.intro] at H; exact H)
                  clear H
                  have H := H1
                  clear H1
                  replace H := Option.bind_eq_some_iff.mp H
                  obtain ⟨t301, A520, H⟩ := H
                  replace H : (if t301 = true then ((span_In.f a1_0 a1_1 a2_0 a2_1).bind fun t302 => (if t302 = true then ((span_In.f a0_0 a0_1 a2_0 a2_1).bind fun t303 => (if t303 = true then ((span_In.f a0_0 a0_1 a0_0 a0_1).bind fun t304 => (some t304)) else (if a1_1 ≤ a1_0 then ((span_In.f a0_0 a0_1 a0_0 a0_1).bind fun t305 => (some t305)) else (none)))) else ((span_In.f a0_0 a0_1 a0_0 a0_1).bind fun t306 => (some t306)))) else ((span_In.f a0_0 a0_1 a0_0 a0_1).bind fun t307 => (some t307))) = some r := H
                  have A52 := Aside0.mk A520
                  clear A520
                  by_cases c53 : t301 = true
                  · subst c53
                    have H1 : ((span_In.f a1_0 a1_1 a2_0 a2_1).bind fun t302 => (if t302 = true then ((span_In.f a0_0 a0_1 a2_0 a2_1).bind fun t303 => (if t303 = true then ((span_In.f a0_0 a0_1 a0_0 a0_1).bind fun t304 => (some t304)) else (if a1_1 ≤ a1_0 then ((span_In.f a0_0 a0_1 a0_0 a0_1).bind fun t305 => (some t305)) else (none)))) else ((span_In.f a0_0 a0_1 a0_0 a0_1).bind fun t306 => (some t306)))) = some r := by first | (rw [if_pos rfl] at H; exact H) | (rw [if_pos True.intro] at H; exact H)
                    clear H
                    have H := H1
                    clear H1
                    replace H := Option.bind_eq_some_iff.mp H
                    obtain ⟨t302, A540, H⟩ := H
                    replace H : (if t302 = true then ((span_In.f a0_0 a0_1 a2_0 a2_1).bind fun t303 => (if t303 = true then ((span_In.f a0_0 a0_1 a0_0 a0_1).bind fun t304 => (some t304)) else (if a1_1 ≤ a1_0 then ((span_In.f a0_0 a0_1 a0_0 a0_1).bind fun t305 => (some t305)) else (none)))) else ((span_In.f a0_0 a0_1 a0_0 a0_1).bind fun t306 => (some t306))) = some r := H
                    have A54 := Aside0.mk A540
                    clear A540
                    by_cases c55 : t302 = true
                    · subst c55
                      have H1 : ((span_In.f a0_0 a0_1 a2_0 a2_1).bind fun t303 => (if t303 = true then ((span_In.f a0_0 a0_1 a0_0 a0_1).bind fun t304 => (some t304)) else (if a1_1 ≤ a1_0 then ((span_In.f a0_0 a0_1 a0_0 a0_1).bind fun t305 => (some t305)) else (none)))) = some r := by first | (rw [if_pos rfl] at H; exact H) | (rw [if_pos True.intro] at H; exact H)
                      clear H
                      have H := H1
                      clear H1
                      replace H := Option.bind_eq_some_iff.mp H
                      obtain ⟨t303, A560, H⟩ := H
                      replace H : (if t303 = true then ((span_In.f a0_0 a0_1 a0_0 a0_1).bind fun t304 => (some t304)) else (if a1_1 ≤ a1_0 then ((span_In.f a0_0 a0_1 a0_0 a0_1).bind fun t305 => (some t305)) else (none))) = some r := H
                      have A56 := Aside0.mk A560
                      clear A560
                      by_cases c57 : t303 = true
                      · subst c57
                        have H1 : ((span_In.f a0_0 a0_1 a0_0 a0_1).bind fun t304 => (some t304)) = some r := by first | (rw [if_pos rfl] at H; exact H) | (rw [if_pos True.intro] at H; exact H)
                        clear H
                        have H := H1
                        clear H1
                        replace H := Option.bind_eq_some_iff.mp H
                        obtain ⟨t304, A580, H⟩ := H
                        replace H : (some t304) = some r := H
                        have A58 := Aside0.mk A580
                        clear A580
                        obtain rfl := Option.some.inj H
                        have hnb59 := NB297_296.out
                        have hnc59 := NB296_297.out
                        have hnb60 := NB297_298.out
                        have hnc60 := NB298_297.out
                        have hcz61_0 : wc.cell? ⟨gb297, 0, none⟩ = some (.int .i64 a1_0) := (blk_cell BK297.out 0).trans rfl
                        have hcz61_1 : wc.cell? ⟨gb297, 1, none⟩ = some (.int .i64 a1_1) := (blk_cell BK297.out 1).trans rfl
                        have hfz61_0 := blk_frozen BK297.out 0
                        have hfz61_1 := blk_frozen BK297.out 1
                        have hnb62 := NB296_298.out
                        have hnc62 := NB298_296.out
                        have hcz63_0 : wc.cell? ⟨gb296, 0, none⟩ = some (.int .i64 a0_0) := (blk_cell BK296.out 0).trans rfl
                        have hcz63_1 : wc.cell? ⟨gb296, 1, none⟩ = some (.int .i64 a0_1) := (blk_cell BK296.out 1).trans rfl
                        have hfz63_0 := blk_frozen BK296.out 0
                        have hfz63_1 := blk_frozen BK296.out 1
                        go_wp2_with (first | (go_at_call 26; (with_reducible refine (span_In.calls a0_0 a0_1 a1_0 a1_1 true _ A52.out).mono ?_); rintro e w64 ⟨rfl, hb⟩; have n0_ := Aside0.mk (blk_below (g := gb296) (o := .cells #[.int .i64 a0_0, .int .i64 a0_1] 23 (0, 0)) (by (with_reducible repeat (first | refine blk_drewN ?_ _ | refine blk_drew ?_ | refine blk_alloc ?_ _)); exact BK296.out) hb); have n1_ := Aside0.mk (blk_below (g := gb297) (o := .cells #[.int .i64 a1_0, .int .i64 a1_1] 23 (0, 0)) (by (with_reducible repeat (first | refine blk_drewN ?_ _ | refine blk_drew ?_ | refine blk_alloc ?_ _)); exact BK297.out) hb); have n2_ := Aside0.mk (blk_below (g := gb298) (o := .cells #[.int .i64 a2_0, .int .i64 a2_1] 23 (0, 0)) (by (with_reducible repeat (first | refine blk_drewN ?_ _ | refine blk_drew ?_ | refine blk_alloc ?_ _)); exact BK298.out) hb); have n3_ := Aside0.mk (below_step (by repeat (first | (with_reducible first | exact HB.out | apply below_alloc | apply pw_below_drewN | apply below_drew1 | refine below_set ?_ GE296.out | refine below_set ?_ GE297.out | refine below_set ?_ GE298.out) | exact HB.out)) hb); clear BK296; clear BK297; clear BK298; clear HB; have BK296 := n0_; have BK297 := n1_; have BK298 := n2_; have HB := n3_; clear n0_ n1_ n2_ n3_; (try clear hb); (try clear hb2); (try clear hk); (try clear hi); have hcz65_0 : w64.cell? ⟨gb297, 0, none⟩ = some (.int .i64 a1_0) := (blk_cell BK297.out 0).trans rfl; have hcz65_1 : w64.cell? ⟨gb297, 1, none⟩ = some (.int .i64 a1_1) := (blk_cell BK297.out 1).trans rfl; have hfz65_0 := blk_frozen BK297.out 0; have hfz65_1 := blk_frozen BK297.out 1; have hcz66_0 : w64.cell? ⟨gb298, 0, none⟩ = some (.int .i64 a2_0) := (blk_cell BK298.out 0).trans rfl; have hcz66_1 : w64.cell? ⟨gb298, 1, none⟩ = some (.int .i64 a2_1) := (blk_cell BK298.out 1).trans rfl; have hfz66_0 := blk_frozen BK298.out 0; have hfz66_1 := blk_frozen BK298.out 1) | (go_at_call 26; (with_reducible refine (span_In.calls a1_0 a1_1 a2_0 a2_1 true _ A54.out).mono ?_); rintro e w67 ⟨rfl, hb⟩; have n0_ := Aside0.mk (blk_below (g := gb296) (o := .cells #[.int .i64 a0_0, .int .i64 a0_1] 23 (0, 0)) (by (with_reducible repeat (first | refine blk_drewN ?_ _ | refine blk_drew ?_ | refine blk_alloc ?_ _)); exact BK296.out) hb); have n1_ := Aside0.mk (blk_below (g := gb297) (o := .cells #[.int .i64 a1_0, .int .i64 a1_1] 23 (0, 0)) (by (with_reducible repeat (first | refine blk_drewN ?_ _ | refine blk_drew ?_ | refine blk_alloc ?_ _)); exact BK297.out) hb); have n2_ := Aside0.mk (blk_below (g := gb298) (o := .cells #[.int .i64 a2_0, .int .i64 a2_1] 23 (0, 0)) (by (with_reducible repeat (first | refine blk_drewN ?_ _ | refine blk_drew ?_ | refine blk_alloc ?_ _)); exact BK298.out) hb); have n3_ := Aside0.mk (below_step (by repeat (first | (with_reducible first | exact HB.out | apply below_alloc | apply pw_below_drewN | apply below_drew1 | refine below_set ?_ GE296.out | refine below_set ?_ GE297.out | refine below_set ?_ GE298.out) | exact HB.out)) hb); clear BK296; clear BK297; clear BK298; clear HB; have BK296 := n0_; have BK297 := n1_; have BK298 := n2_; have HB := n3_; clear n0_ n1_ n2_ n3_; (try clear hb); (try clear hb2); (try clear hk); (try clear hi); have hcz68_0 : w67.cell? ⟨gb296, 0, none⟩ = some (.int .i64 a0_0) := (blk_cell BK296.out 0).trans rfl; have hcz68_1 : w67.cell? ⟨gb296, 1, none⟩ = some (.int .i64 a0_1) := (blk_cell BK296.out 1).trans rfl; have hfz68_0 := blk_frozen BK296.out 0; have hfz68_1 := blk_frozen BK296.out 1; have hcz69_0 : w67.cell? ⟨gb298, 0, none⟩ = some (.int .i64 a2_0) := (blk_cell BK298.out 0).trans rfl; have hcz69_1 : w67.cell? ⟨gb298, 1, none⟩ = some (.int .i64 a2_1) := (blk_cell BK298.out 1).trans rfl; have hfz69_0 := blk_frozen BK298.out 0; have hfz69_1 := blk_frozen BK298.out 1) | (go_at_call 26; (with_reducible refine (span_In.calls a0_0 a0_1 a2_0 a2_1 true _ A56.out).mono ?_); rintro e w70 ⟨rfl, hb⟩; have n0_ := Aside0.mk (blk_below (g := gb296) (o := .cells #[.int .i64 a0_0, .int .i64 a0_1] 23 (0, 0)) (by (with_reducible repeat (first | refine blk_drewN ?_ _ | refine blk_drew ?_ | refine blk_alloc ?_ _)); exact BK296.out) hb); have n1_ := Aside0.mk (blk_below (g := gb297) (o := .cells #[.int .i64 a1_0, .int .i64 a1_1] 23 (0, 0)) (by (with_reducible repeat (first | refine blk_drewN ?_ _ | refine blk_drew ?_ | refine blk_alloc ?_ _)); exact BK297.out) hb); have n2_ := Aside0.mk (blk_below (g := gb298) (o := .cells #[.int .i64 a2_0, .int .i64 a2_1] 23 (0, 0)) (by (with_reducible repeat (first | refine blk_drewN ?_ _ | refine blk_drew ?_ | refine blk_alloc ?_ _)); exact BK298.out) hb); have n3_ := Aside0.mk (below_step (by repeat (first | (with_reducible first | exact HB.out | apply below_alloc | apply pw_below_drewN | apply below_drew1 | refine below_set ?_ GE296.out | refine below_set ?_ GE297.out | refine below_set ?_ GE298.out) | exact HB.out)) hb); clear BK296; clear BK297; clear BK298; clear HB; have BK296 := n0_; have BK297 := n1_; have BK298 := n2_; have HB := n3_; clear n0_ n1_ n2_ n3_; (try clear hb); (try clear hb2); (try clear hk); (try clear hi); have hcz71_0 : w70.cell? ⟨gb296, 0, none⟩ = some (.int .i64 a0_0) := (blk_cell BK296.out 0).trans rfl; have hcz71_1 : w70.cell? ⟨gb296, 1, none⟩ = some (.int .i64 a0_1) := (blk_cell BK296.out 1).trans rfl; have hfz71_0 := blk_frozen BK296.out 0; have hfz71_1 := blk_frozen BK296.out 1) | (go_at_call 26; (with_reducible refine (span_In.calls a0_0 a0_1 a0_0 a0_1 t304 _ A58.out).mono ?_); rintro e w72 ⟨rfl, hb⟩; have n0_ := Aside0.mk (blk_below (g := gb296) (o := .cells #[.int .i64 a0_0, .int .i64 a0_1] 23 (0, 0)) (by (with_reducible repeat (first | refine blk_drewN ?_ _ | refine blk_drew ?_ | refine blk_alloc ?_ _)); exact BK296.out) hb); have n1_ := Aside0.mk (blk_below (g := gb297) (o := .cells #[.int .i64 a1_0, .int .i64 a1_1] 23 (0, 0)) (by (with_reducible repeat (first | refine blk_drewN ?_ _ | refine blk_drew ?_ | refine blk_alloc ?_ _)); exact BK297.out) hb); have n2_ := Aside0.mk (blk_below (g := gb298) (o := .cells #[.int .i64 a2_0, .int .i64 a2_1] 23 (0, 0)) (by (with_reducible repeat (first | refine blk_drewN ?_ _ | refine blk_drew ?_ | refine blk_alloc ?_ _)); exact BK298.out) hb); have n3_ := Aside0.mk (below_step (by repeat (first | (with_reducible first | exact HB.out | apply below_alloc | apply pw_below_drewN | apply below_drew1 | refine below_set ?_ GE296.out | refine below_set ?_ GE297.out | refine below_set ?_ GE298.out) | exact HB.out)) hb); clear BK296; clear BK297; clear BK298; clear HB; have BK296 := n0_; have BK297 := n1_; have BK298 := n2_; have HB := n3_; clear n0_ n1_ n2_ n3_; (try clear hb); (try clear hb2); (try clear hk); (try clear hi)))
                        go_ret
                        exact ⟨by first | rfl | (cases Option.some.inj (A74.out.symm.trans A58.out); rfl) | (cases Option.some.inj (A89.out.symm.trans A58.out); rfl) | (cases Option.some.inj (A89.out.symm.trans A74.out); rfl) | (cases Option.some.inj (A101.out.symm.trans A58.out); rfl) | (cases Option.some.inj (A101.out.symm.trans A74.out); rfl) | (cases Option.some.inj (A101.out.symm.trans A89.out); rfl) | (cases Option.some.inj (A58.out.symm.trans A74.out); rfl) | (cases Option.some.inj (A58.out.symm.trans A89.out); rfl) | (cases Option.some.inj (A58.out.symm.trans A101.out); rfl) | (cases Option.some.inj (A74.out.symm.trans A89.out); rfl) | (cases Option.some.inj (A74.out.symm.trans A101.out); rfl) | (cases Option.some.inj (A89.out.symm.trans A101.out); rfl) | (simp [errW_none, errW_some] <;> rfl) | (simp only [← hji27]; first | rfl | (simp [errW_none, errW_some] <;> rfl)) | (simp [*, errW_none, errW_some] <;> rfl), by repeat (first | (with_reducible first | exact HB.out | apply below_alloc | apply pw_below_drewN | apply below_drew1 | refine below_set ?_ GE296.out | refine below_set ?_ GE297.out | refine below_set ?_ GE298.out) | exact HB.out)⟩
                      · replace c57 := Bool.eq_false_iff.mpr c57
                        subst c57
                        have H1 : (if a1_1 ≤ a1_0 then ((span_In.f a0_0 a0_1 a0_0 a0_1).bind fun t305 => (some t305)) else (none)) = some r := by rw [if_neg (show ¬ (false = true) by decide)] at H; exact H
                        clear H
                        have H := H1
                        clear H1
                        by_cases c73 : a1_1 ≤ a1_0
                        · rw [if_pos c73] at H
                          have c73b0 : decide (a1_1 ≤ a1_0) = true := decide_eq_true c73
                          clear c73
                          replace H := Option.bind_eq_some_iff.mp H
                          obtain ⟨t305, A740, H⟩ := H
                          replace H : (some t305) = some r := H
                          have A74 := Aside0.mk A740
                          clear A740
                          obtain rfl := Option.some.inj H
                          have hnb75 := NB297_296.out
                          have hnc75 := NB296_297.out
                          have hnb76 := NB297_298.out
                          have hnc76 := NB298_297.out
                          have hcz77_0 : wc.cell? ⟨gb297, 0, none⟩ = some (.int .i64 a1_0) := (blk_cell BK297.out 0).trans rfl
                          have hcz77_1 : wc.cell? ⟨gb297, 1, none⟩ = some (.int .i64 a1_1) := (blk_cell BK297.out 1).trans rfl
                          have hfz77_0 := blk_frozen BK297.out 0
                          have hfz77_1 := blk_frozen BK297.out 1
                          have hnb78 := NB296_298.out
                          have hnc78 := NB298_296.out
                          have hcz79_0 : wc.cell? ⟨gb296, 0, none⟩ = some (.int .i64 a0_0) := (blk_cell BK296.out 0).trans rfl
                          have hcz79_1 : wc.cell? ⟨gb296, 1, none⟩ = some (.int .i64 a0_1) := (blk_cell BK296.out 1).trans rfl
                          have hfz79_0 := blk_frozen BK296.out 0
                          have hfz79_1 := blk_frozen BK296.out 1
                          go_wp2_with (first | (go_at_call 26; (with_reducible refine (span_In.calls a0_0 a0_1 a1_0 a1_1 true _ A52.out).mono ?_); rintro e w80 ⟨rfl, hb⟩; have n0_ := Aside0.mk (blk_below (g := gb296) (o := .cells #[.int .i64 a0_0, .int .i64 a0_1] 23 (0, 0)) (by (with_reducible repeat (first | refine blk_drewN ?_ _ | refine blk_drew ?_ | refine blk_alloc ?_ _)); exact BK296.out) hb); have n1_ := Aside0.mk (blk_below (g := gb297) (o := .cells #[.int .i64 a1_0, .int .i64 a1_1] 23 (0, 0)) (by (with_reducible repeat (first | refine blk_drewN ?_ _ | refine blk_drew ?_ | refine blk_alloc ?_ _)); exact BK297.out) hb); have n2_ := Aside0.mk (blk_below (g := gb298) (o := .cells #[.int .i64 a2_0, .int .i64 a2_1] 23 (0, 0)) (by (with_reducible repeat (first | refine blk_drewN ?_ _ | refine blk_drew ?_ | refine blk_alloc ?_ _)); exact BK298.out) hb); have n3_ := Aside0.mk (below_step (by repeat (first | (with_reducible first | exact HB.out | apply below_alloc | apply pw_below_drewN | apply below_drew1 | refine below_set ?_ GE296.out | refine below_set ?_ GE297.out | refine below_set ?_ GE298.out) | exact HB.out)) hb); clear BK296; clear BK297; clear BK298; clear HB; have BK296 := n0_; have BK297 := n1_; have BK298 := n2_; have HB := n3_; clear n0_ n1_ n2_ n3_; (try clear hb); (try clear hb2); (try clear hk); (try clear hi); have hcz81_0 : w80.cell? ⟨gb297, 0, none⟩ = some (.int .i64 a1_0) := (blk_cell BK297.out 0).trans rfl; have hcz81_1 : w80.cell? ⟨gb297, 1, none⟩ = some (.int .i64 a1_1) := (blk_cell BK297.out 1).trans rfl; have hfz81_0 := blk_frozen BK297.out 0; have hfz81_1 := blk_frozen BK297.out 1; have hcz82_0 : w80.cell? ⟨gb298, 0, none⟩ = some (.int .i64 a2_0) := (blk_cell BK298.out 0).trans rfl; have hcz82_1 : w80.cell? ⟨gb298, 1, none⟩ = some (.int .i64 a2_1) := (blk_cell BK298.out 1).trans rfl; have hfz82_0 := blk_frozen BK298.out 0; have hfz82_1 := blk_frozen BK298.out 1) | (go_at_call 26; (with_reducible refine (span_In.calls a1_0 a1_1 a2_0 a2_1 true _ A54.out).mono ?_); rintro e w83 ⟨rfl, hb⟩; have n0_ := Aside0.mk (blk_below (g := gb296) (o := .cells #[.int .i64 a0_0, .int .i64 a0_1] 23 (0, 0)) (by (with_reducible repeat (first | refine blk_drewN ?_ _ | refine blk_drew ?_ | refine blk_alloc ?_ _)); exact BK296.out) hb); have n1_ := Aside0.mk (blk_below (g := gb297) (o := .cells #[.int .i64 a1_0, .int .i64 a1_1] 23 (0, 0)) (by (with_reducible repeat (first | refine blk_drewN ?_ _ | refine blk_drew ?_ | refine blk_alloc ?_ _)); exact BK297.out) hb); have n2_ := Aside0.mk (blk_below (g := gb298) (o := .cells #[.int .i64 a2_0, .int .i64 a2_1] 23 (0, 0)) (by (with_reducible repeat (first | refine blk_drewN ?_ _ | refine blk_drew ?_ | refine blk_alloc ?_ _)); exact BK298.out) hb); have n3_ := Aside0.mk (below_step (by repeat (first | (with_reducible first | exact HB.out | apply below_alloc | apply pw_below_drewN | apply below_drew1 | refine below_set ?_ GE296.out | refine below_set ?_ GE297.out | refine below_set ?_ GE298.out) | exact HB.out)) hb); clear BK296; clear BK297; clear BK298; clear HB; have BK296 := n0_; have BK297 := n1_; have BK298 := n2_; have HB := n3_; clear n0_ n1_ n2_ n3_; (try clear hb); (try clear hb2); (try clear hk); (try clear hi); have hcz84_0 : w83.cell? ⟨gb296, 0, none⟩ = some (.int .i64 a0_0) := (blk_cell BK296.out 0).trans rfl; have hcz84_1 : w83.cell? ⟨gb296, 1, none⟩ = some (.int .i64 a0_1) := (blk_cell BK296.out 1).trans rfl; have hfz84_0 := blk_frozen BK296.out 0; have hfz84_1 := blk_frozen BK296.out 1; have hcz85_0 : w83.cell? ⟨gb298, 0, none⟩ = some (.int .i64 a2_0) := (blk_cell BK298.out 0).trans rfl; have hcz85_1 : w83.cell? ⟨gb298, 1, none⟩ = some (.int .i64 a2_1) := (blk_cell BK298.out 1).trans rfl; have hfz85_0 := blk_frozen BK298.out 0; have hfz85_1 := blk_frozen BK298.out 1) | (go_at_call 26; (with_reducible refine (span_In.calls a0_0 a0_1 a2_0 a2_1 false _ A56.out).mono ?_); rintro e w86 ⟨rfl, hb⟩; have n0_ := Aside0.mk (blk_below (g := gb296) (o := .cells #[.int .i64 a0_0, .int .i64 a0_1] 23 (0, 0)) (by (with_reducible repeat (first | refine blk_drewN ?_ _ | refine blk_drew ?_ | refine blk_alloc ?_ _)); exact BK296.out) hb); have n1_ := Aside0.mk (blk_below (g := gb297) (o := .cells #[.int .i64 a1_0, .int .i64 a1_1] 23 (0, 0)) (by (with_reducible repeat (first | refine blk_drewN ?_ _ | refine blk_drew ?_ | refine blk_alloc ?_ _)); exact BK297.out) hb); have n2_ := Aside0.mk (blk_below (g := gb298) (o := .cells #[.int .i64 a2_0, .int .i64 a2_1] 23 (0, 0)) (by (with_reducible repeat (first | refine blk_drewN ?_ _ | refine blk_drew ?_ | refine blk_alloc ?_ _)); exact BK298.out) hb); have n3_ := Aside0.mk (below_step (by repeat (first | (with_reducible first | exact HB.out | apply below_alloc | apply pw_below_drewN | apply below_drew1 | refine below_set ?_ GE296.out | refine below_set ?_ GE297.out | refine below_set ?_ GE298.out) | exact HB.out)) hb); clear BK296; clear BK297; clear BK298; clear HB; have BK296 := n0_; have BK297 := n1_; have BK298 := n2_; have HB := n3_; clear n0_ n1_ n2_ n3_; (try clear hb); (try clear hb2); (try clear hk); (try clear hi); have hcz87_0 : w86.cell? ⟨gb296, 0, none⟩ = some (.int .i64 a0_0) := (blk_cell BK296.out 0).trans rfl; have hcz87_1 : w86.cell? ⟨gb296, 1, none⟩ = some (.int .i64 a0_1) := (blk_cell BK296.out 1).trans rfl; have hfz87_0 := blk_frozen BK296.out 0; have hfz87_1 := blk_frozen BK296.out 1) | (go_at_call 26; (with_reducible refine (span_In.calls a0_0 a0_1 a0_0 a0_1 t305 _ A74.out).mono ?_); rintro e w88 ⟨rfl, hb⟩; have n0_ := Aside0.mk (blk_below (g := gb296) (o := .cells #[.int .i64 a0_0, .int .i64 a0_1] 23 (0, 0)) (by (with_reducible repeat (first | refine blk_drewN ?_ _ | refine blk_drew ?_ | refine blk_alloc ?_ _)); exact BK296.out) hb); have n1_ := Aside0.mk (blk_below (g := gb297) (o := .cells #[.int .i64 a1_0, .int .i64 a1_1] 23 (0, 0)) (by (with_reducible repeat (first | refine blk_drewN ?_ _ | refine blk_drew ?_ | refine blk_alloc ?_ _)); exact BK297.out) hb); have n2_ := Aside0.mk (blk_below (g := gb298) (o := .cells #[.int .i64 a2_0, .int .i64 a2_1] 23 (0, 0)) (by (with_reducible repeat (first | refine blk_drewN ?_ _ | refine blk_drew ?_ | refine blk_alloc ?_ _)); exact BK298.out) hb); have n3_ := Aside0.mk (below_step (by repeat (first | (with_reducible first | exact HB.out | apply below_alloc | apply pw_below_drewN | apply below_drew1 | refine below_set ?_ GE296.out | refine below_set ?_ GE297.out | refine below_set ?_ GE298.out) | exact HB.out)) hb); clear BK296; clear BK297; clear BK298; clear HB; have BK296 := n0_; have BK297 := n1_; have BK298 := n2_; have HB := n3_; clear n0_ n1_ n2_ n3_; (try clear hb); (try clear hb2); (try clear hk); (try clear hi)))
                          go_ret
                          exact ⟨by first | rfl | (cases Option.some.inj (A74.out.symm.trans A58.out); rfl) | (cases Option.some.inj (A89.out.symm.trans A58.out); rfl) | (cases Option.some.inj (A89.out.symm.trans A74.out); rfl) | (cases Option.some.inj (A101.out.symm.trans A58.out); rfl) | (cases Option.some.inj (A101.out.symm.trans A74.out); rfl) | (cases Option.some.inj (A101.out.symm.trans A89.out); rfl) | (cases Option.some.inj (A58.out.symm.trans A74.out); rfl) | (cases Option.some.inj (A58.out.symm.trans A89.out); rfl) | (cases Option.some.inj (A58.out.symm.trans A101.out); rfl) | (cases Option.some.inj (A74.out.symm.trans A89.out); rfl) | (cases Option.some.inj (A74.out.symm.trans A101.out); rfl) | (cases Option.some.inj (A89.out.symm.trans A101.out); rfl) | (simp [errW_none, errW_some] <;> rfl) | (simp only [← hji27]; first | rfl | (simp [errW_none, errW_some] <;> rfl)) | (simp [*, errW_none, errW_some] <;> rfl), by repeat (first | (with_reducible first | exact HB.out | apply below_alloc | apply pw_below_drewN | apply below_drew1 | refine below_set ?_ GE296.out | refine below_set ?_ GE297.out | refine below_set ?_ GE298.out) | exact HB.out)⟩
                        · rw [if_neg c73] at H
                          exact absurd H (by simp)
                    · replace c55 := Bool.eq_false_iff.mpr c55
                      subst c55
                      have H1 : ((span_In.f a0_0 a0_1 a0_0 a0_1).bind fun t306 => (some t306)) = some r := by rw [if_neg (show ¬ (false = true) by decide)] at H; exact H
                      clear H
                      have H := H1
                      clear H1
                      replace H := Option.bind_eq_some_iff.mp H
                      obtain ⟨t306, A890, H⟩ := H
                      replace H : (some t306) = some r := H
                      have A89 := Aside0.mk A890
                      clear A890
                      obtain rfl := Option.some.inj H
                      have hnb90 := NB297_296.out
                      have hnc90 := NB296_297.out
                      have hnb91 := NB297_298.out
                      have hnc91 := NB298_297.out
                      have hcz92_0 : wc.cell? ⟨gb297, 0, none⟩ = some (.int .i64 a1_0) := (blk_cell BK297.out 0).trans rfl
                      have hcz92_1 : wc.cell? ⟨gb297, 1, none⟩ = some (.int .i64 a1_1) := (blk_cell BK297.out 1).trans rfl
                      have hfz92_0 := blk_frozen BK297.out 0
                      have hfz92_1 := blk_frozen BK297.out 1
                      have hnb93 := NB296_298.out
                      have hnc93 := NB298_296.out
                      have hcz94_0 : wc.cell? ⟨gb296, 0, none⟩ = some (.int .i64 a0_0) := (blk_cell BK296.out 0).trans rfl
                      have hcz94_1 : wc.cell? ⟨gb296, 1, none⟩ = some (.int .i64 a0_1) := (blk_cell BK296.out 1).trans rfl
                      have hfz94_0 := blk_frozen BK296.out 0
                      have hfz94_1 := blk_frozen BK296.out 1
                      go_wp2_with (first | (go_at_call 26; (with_reducible refine (span_In.calls a0_0 a0_1 a1_0 a1_1 true _ A52.out).mono ?_); rintro e w95 ⟨rfl, hb⟩; have n0_ := Aside0.mk (blk_below (g := gb296) (o := .cells #[.int .i64 a0_0, .int .i64 a0_1] 23 (0, 0)) (by (with_reducible repeat (first | refine blk_drewN ?_ _ | refine blk_drew ?_ | refine blk_alloc ?_ _)); exact BK296.out) hb); have n1_ := Aside0.mk (blk_below (g := gb297) (o := .cells #[.int .i64 a1_0, .int .i64 a1_1] 23 (0, 0)) (by (with_reducible repeat (first | refine blk_drewN ?_ _ | refine blk_drew ?_ | refine blk_alloc ?_ _)); exact BK297.out) hb); have n2_ := Aside0.mk (blk_below (g := gb298) (o := .cells #[.int .i64 a2_0, .int .i64 a2_1] 23 (0, 0)) (by (with_reducible repeat (first | refine blk_drewN ?_ _ | refine blk_drew ?_ | refine blk_alloc ?_ _)); exact BK298.out) hb); have n3_ := Aside0.mk (below_step (by repeat (first | (with_reducible first | exact HB.out | apply below_alloc | apply pw_below_drewN | apply below_drew1 | refine below_set ?_ GE296.out | refine below_set ?_ GE297.out | refine below_set ?_ GE298.out) | exact HB.out)) hb); clear BK296; clear BK297; clear BK298; clear HB; have BK296 := n0_; have BK297 := n1_; have BK298 := n2_; have HB := n3_; clear n0_ n1_ n2_ n3_; (try clear hb); (try clear hb2); (try clear hk); (try clear hi); have hcz96_0 : w95.cell? ⟨gb297, 0, none⟩ = some (.int .i64 a1_0) := (blk_cell BK297.out 0).trans rfl; have hcz96_1 : w95.cell? ⟨gb297, 1, none⟩ = some (.int .i64 a1_1) := (blk_cell BK297.out 1).trans rfl; have hfz96_0 := blk_frozen BK297.out 0; have hfz96_1 := blk_frozen BK297.out 1; have hcz97_0 : w95.cell? ⟨gb298, 0, none⟩ = some (.int .i64 a2_0) := (blk_cell BK298.out 0).trans rfl; have hcz97_1 : w95.cell? ⟨gb298, 1, none⟩ = some (.int .i64 a2_1) := (blk_cell BK298.out 1).trans rfl; have hfz97_0 := blk_frozen BK298.out 0; have hfz97_1 := blk_frozen BK298.out 1) | (go_at_call 26; (with_reducible refine (span_In.calls a1_0 a1_1 a2_0 a2_1 false _ A54.out).mono ?_); rintro e w98 ⟨rfl, hb⟩; have n0_ := Aside0.mk (blk_below (g := gb296) (o := .cells #[.int .i64 a0_0, .int .i64 a0_1] 23 (0, 0)) (by (with_reducible repeat (first | refine blk_drewN ?_ _ | refine blk_drew ?_ | refine blk_alloc ?_ _)); exact BK296.out) hb); have n1_ := Aside0.mk (blk_below (g := gb297) (o := .cells #[.int .i64 a1_0, .int .i64 a1_1] 23 (0, 0)) (by (with_reducible repeat (first | refine blk_drewN ?_ _ | refine blk_drew ?_ | refine blk_alloc ?_ _)); exact BK297.out) hb); have n2_ := Aside0.mk (blk_below (g := gb298) (o := .cells #[.int .i64 a2_0, .int .i64 a2_1] 23 (0, 0)) (by (with_reducible repeat (first | refine blk_drewN ?_ _ | refine blk_drew ?_ | refine blk_alloc ?_ _)); exact BK298.out) hb); have n3_ := Aside0.mk (below_step (by repeat (first | (with_reducible first | exact HB.out | apply below_alloc | apply pw_below_drewN | apply below_drew1 | refine below_set ?_ GE296.out | refine below_set ?_ GE297.out | refine below_set ?_ GE298.out) | exact HB.out)) hb); clear BK296; clear BK297; clear BK298; clear HB; have BK296 := n0_; have BK297 := n1_; have BK298 := n2_; have HB := n3_; clear n0_ n1_ n2_ n3_; (try clear hb); (try clear hb2); (try clear hk); (try clear hi); have hcz99_0 : w98.cell? ⟨gb296, 0, none⟩ = some (.int .i64 a0_0) := (blk_cell BK296.out 0).trans rfl; have hcz99_1 : w98.cell? ⟨gb296, 1, none⟩ = some (.int .i64 a0_1) := (blk_cell BK296.out 1).trans rfl; have hfz99_0 := blk_frozen BK296.out 0; have hfz99_1 := blk_frozen BK296.out 1) | (go_at_call 26; (with_reducible refine (span_In.calls a0_0 a0_1 a0_0 a0_1 t306 _ A89.out).mono ?_); rintro e w100 ⟨rfl, hb⟩; have n0_ := Aside0.mk (blk_below (g := gb296) (o := .cells #[.int .i64 a0_0, .int .i64 a0_1] 23 (0, 0)) (by (with_reducible repeat (first | refine blk_drewN ?_ _ | refine blk_drew ?_ | refine blk_alloc ?_ _)); exact BK296.out) hb); have n1_ := Aside0.mk (blk_below (g := gb297) (o := .cells #[.int .i64 a1_0, .int .i64 a1_1] 23 (0, 0)) (by (with_reducible repeat (first | refine blk_drewN ?_ _ | refine blk_drew ?_ | refine blk_alloc ?_ _)); exact BK297.out) hb); have n2_ := Aside0.mk (blk_below (g := gb298) (o := .cells #[.int .i64 a2_0, .int .i64 a2_1] 23 (0, 0)) (by (with_reducible repeat (first | refine blk_drewN ?_ _ | refine blk_drew ?_ | refine blk_alloc ?_ _)); exact BK298.out) hb); have n3_ := Aside0.mk (below_step (by repeat (first | (with_reducible first | exact HB.out | apply below_alloc | apply pw_below_drewN | apply below_drew1 | refine below_set ?_ GE296.out | refine below_set ?_ GE297.out | refine below_set ?_ GE298.out) | exact HB.out)) hb); clear BK296; clear BK297; clear BK298; clear HB; have BK296 := n0_; have BK297 := n1_; have BK298 := n2_; have HB := n3_; clear n0_ n1_ n2_ n3_; (try clear hb); (try clear hb2); (try clear hk); (try clear hi)))
                      go_ret
                      exact ⟨by first | rfl | (cases Option.some.inj (A74.out.symm.trans A58.out); rfl) | (cases Option.some.inj (A89.out.symm.trans A58.out); rfl) | (cases Option.some.inj (A89.out.symm.trans A74.out); rfl) | (cases Option.some.inj (A101.out.symm.trans A58.out); rfl) | (cases Option.some.inj (A101.out.symm.trans A74.out); rfl) | (cases Option.some.inj (A101.out.symm.trans A89.out); rfl) | (cases Option.some.inj (A58.out.symm.trans A74.out); rfl) | (cases Option.some.inj (A58.out.symm.trans A89.out); rfl) | (cases Option.some.inj (A58.out.symm.trans A101.out); rfl) | (cases Option.some.inj (A74.out.symm.trans A89.out); rfl) | (cases Option.some.inj (A74.out.symm.trans A101.out); rfl) | (cases Option.some.inj (A89.out.symm.trans A101.out); rfl) | (simp [errW_none, errW_some] <;> rfl) | (simp only [← hji27]; first | rfl | (simp [errW_none, errW_some] <;> rfl)) | (simp [*, errW_none, errW_some] <;> rfl), by repeat (first | (with_reducible first | exact HB.out | apply below_alloc | apply pw_below_drewN | apply below_drew1 | refine below_set ?_ GE296.out | refine below_set ?_ GE297.out | refine below_set ?_ GE298.out) | exact HB.out)⟩
                  · replace c53 := Bool.eq_false_iff.mpr c53
                    subst c53
                    have H1 : ((span_In.f a0_0 a0_1 a0_0 a0_1).bind fun t307 => (some t307)) = some r := by rw [if_neg (show ¬ (false = true) by decide)] at H; exact H
                    clear H
                    have H := H1
                    clear H1
                    replace H := Option.bind_eq_some_iff.mp H
                    obtain ⟨t307, A1010, H⟩ := H
                    replace H : (some t307) = some r := H
                    have A101 := Aside0.mk A1010
                    clear A1010
                    obtain rfl := Option.some.inj H
                    have hnb102 := NB297_296.out
                    have hnc102 := NB296_297.out
                    have hnb103 := NB297_298.out
                    have hnc103 := NB298_297.out
                    have hcz104_0 : wc.cell? ⟨gb297, 0, none⟩ = some (.int .i64 a1_0) := (blk_cell BK297.out 0).trans rfl
                    have hcz104_1 : wc.cell? ⟨gb297, 1, none⟩ = some (.int .i64 a1_1) := (blk_cell BK297.out 1).trans rfl
                    have hfz104_0 := blk_frozen BK297.out 0
                    have hfz104_1 := blk_frozen BK297.out 1
                    have hnb105 := NB296_298.out
                    have hnc105 := NB298_296.out
                    have hcz106_0 : wc.cell? ⟨gb296, 0, none⟩ = some (.int .i64 a0_0) := (blk_cell BK296.out 0).trans rfl
                    have hcz106_1 : wc.cell? ⟨gb296, 1, none⟩ = some (.int .i64 a0_1) := (blk_cell BK296.out 1).trans rfl
                    have hfz106_0 := blk_frozen BK296.out 0
                    have hfz106_1 := blk_frozen BK296.out 1
                    go_wp2_with (first | (go_at_call 26; (with_reducible refine (span_In.calls a0_0 a0_1 a1_0 a1_1 false _ A52.out).mono ?_); rintro e w107 ⟨rfl, hb⟩; have n0_ := Aside0.mk (blk_below (g := gb296) (o := .cells #[.int .i64 a0_0, .int .i64 a0_1] 23 (0, 0)) (by (with_reducible repeat (first | refine blk_drewN ?_ _ | refine blk_drew ?_ | refine blk_alloc ?_ _)); exact BK296.out) hb); have n1_ := Aside0.mk (blk_below (g := gb297) (o := .cells #[.int .i64 a1_0, .int .i64 a1_1] 23 (0, 0)) (by (with_reducible repeat (first | refine blk_drewN ?_ _ | refine blk_drew ?_ | refine blk_alloc ?_ _)); exact BK297.out) hb); have n2_ := Aside0.mk (blk_below (g := gb298) (o := .cells #[.int .i64 a2_0, .int .i64 a2_1] 23 (0, 0)) (by (with_reducible repeat (first | refine blk_drewN ?_ _ | refine blk_drew ?_ | refine blk_alloc ?_ _)); exact BK298.out) hb); have n3_ := Aside0.mk (below_step (by repeat (first | (with_reducible first | exact HB.out | apply below_alloc | apply pw_below_drewN | apply below_drew1 | refine below_set ?_ GE296.out | refine below_set ?_ GE297.out | refine below_set ?_ GE298.out) | exact HB.out)) hb); clear BK296; clear BK297; clear BK298; clear HB; have BK296 := n0_; have BK297 := n1_; have BK298 := n2_; have HB := n3_; clear n0_ n1_ n2_ n3_; (try clear hb); (try clear hb2); (try clear hk); (try clear hi); have hcz108_0 : w107.cell? ⟨gb296, 0, none⟩ = some (.int .i64 a0_0) := (blk_cell BK296.out 0).trans rfl; have hcz108_1 : w107.cell? ⟨gb296, 1, none⟩ = some (.int .i64 a0_1) := (blk_cell BK296.out 1).trans rfl; have hfz108_0 := blk_frozen BK296.out 0; have hfz108_1 := blk_frozen BK296.out 1) | (go_at_call 26; (with_reducible refine (span_In.calls a0_0 a0_1 a0_0 a0_1 t307 _ A101.out).mono ?_); rintro e w109 ⟨rfl, hb⟩; have n0_ := Aside0.mk (blk_below (g := gb296) (o := .cells #[.int .i64 a0_0, .int .i64 a0_1] 23 (0, 0)) (by (with_reducible repeat (first | refine blk_drewN ?_ _ | refine blk_drew ?_ | refine blk_alloc ?_ _)); exact BK296.out) hb); have n1_ := Aside0.mk (blk_below (g := gb297) (o := .cells #[.int .i64 a1_0, .int .i64 a1_1] 23 (0, 0)) (by (with_reducible repeat (first | refine blk_drewN ?_ _ | refine blk_drew ?_ | refine blk_alloc ?_ _)); exact BK297.out) hb); have n2_ := Aside0.mk (blk_below (g := gb298) (o := .cells #[.int .i64 a2_0, .int .i64 a2_1] 23 (0, 0)) (by (with_reducible repeat (first | refine blk_drewN ?_ _ | refine blk_drew ?_ | refine blk_alloc ?_ _)); exact BK298.out) hb); have n3_ := Aside0.mk (below_step (by repeat (first | (with_reducible first | exact HB.out | apply below_alloc | apply pw_below_drewN | apply below_drew1 | refine below_set ?_ GE296.out | refine below_set ?_ GE297.out | refine below_set ?_ GE298.out) | exact HB.out)) hb); clear BK296; clear BK297; clear BK298; clear HB; have BK296 := n0_; have BK297 := n1_; have BK298 := n2_; have HB := n3_; clear n0_ n1_ n2_ n3_; (try clear hb); (try clear hb2); (try clear hk); (try clear hi)))
                    go_ret
                    exact ⟨by first | rfl | (cases Option.some.inj (A74.out.symm.trans A58.out); rfl) | (cases Option.some.inj (A89.out.symm.trans A58.out); rfl) | (cases Option.some.inj (A89.out.symm.trans A74.out); rfl) | (cases Option.some.inj (A101.out.symm.trans A58.out); rfl) | (cases Option.some.inj (A101.out.symm.trans A74.out); rfl) | (cases Option.some.inj (A101.out.symm.trans A89.out); rfl) | (cases Option.some.inj (A58.out.symm.trans A74.out); rfl) | (cases Option.some.inj (A58.out.symm.trans A89.out); rfl) | (cases Option.some.inj (A58.out.symm.trans A101.out); rfl) | (cases Option.some.inj (A74.out.symm.trans A89.out); rfl) | (cases Option.some.inj (A74.out.symm.trans A101.out); rfl) | (cases Option.some.inj (A89.out.symm.trans A101.out); rfl) | (simp [errW_none, errW_some] <;> rfl) | (simp only [← hji27]; first | rfl | (simp [errW_none, errW_some] <;> rfl)) | (simp [*, errW_none, errW_some] <;> rfl), by repeat (first | (with_reducible first | exact HB.out | apply below_alloc | apply pw_below_drewN | apply below_drew1 | refine below_set ?_ GE296.out | refine below_set ?_ GE297.out | refine below_set ?_ GE298.out) | exact HB.out)⟩
                · replace c51 := Bool.eq_false_iff.mpr c51
                  subst c51
                  have H1 : (none) = some r := by rw [if_neg (show ¬ (false = true) by decide)] at H; exact H
                  clear H
                  have H := H1
                  clear H1
                  exact absurd H (by simp)
              · exact absurd rfl c50
  · replace c6 := Bool.eq_false_iff.mpr c6
    subst c6
    have H1 : (none) = some r := by rw [if_neg (show ¬ (false = true) by decide)] at H; exact H
    clear H
    have H := H1
    clear H1
    exact absurd H (by simp)

/-- THE ONE PURE STATEMENT of valancelaw03_SpanNear: yours. -/
def valancelaw03_SpanNear.Pure : Prop := ∀ (a0_0 : Int) (a0_1 : Int) (a1_0 : Int) (a1_1 : Int) (a2_0 : Int) (a2_1 : Int) (a3 : Int), (Lit.int .i64 a0_0).wf = true → (Lit.int .i64 a0_1).wf = true → (Lit.int .i64 a1_0).wf = true → (Lit.int .i64 a1_1).wf = true → (Lit.int .i64 a2_0).wf = true → (Lit.int .i64 a2_1).wf = true → (Lit.int .i64 a3).wf = true → ∃ k, valancelaw03_SpanNear.f k a0_0 a0_1 a1_0 a1_1 a2_0 a2_1 a3 = some true
theorem valancelaw03_SpanNear.walk (P : valancelaw03_SpanNear.Pure) (a0_0 : Int) (a0_1 : Int) (a1_0 : Int) (a1_1 : Int) (a2_0 : Int) (a2_1 : Int) (a3 : Int) (w : World) (w0_0 : (Lit.int .i64 a0_0).wf = true) (w0_1 : (Lit.int .i64 a0_1).wf = true) (w1_0 : (Lit.int .i64 a1_0).wf = true) (w1_1 : (Lit.int .i64 a1_1).wf = true) (w2_0 : (Lit.int .i64 a2_0).wf = true) (w2_1 : (Lit.int .i64 a2_1).wf = true) (w3 : (Lit.int .i64 a3).wf = true) :
    Calls Try.prog 7 #[.agg #[.int .i64 a0_0, .int .i64 a0_1], .agg #[.int .i64 a1_0, .int .i64 a1_1], .agg #[.int .i64 a2_0, .int .i64 a2_1], .int .i64 a3] w fun e w' => e = .returned (.bool true) ∧ Below w.heap.size w w' := by
  obtain ⟨k, h⟩ := P a0_0 a0_1 a1_0 a1_1 a2_0 a2_1 a3 w0_0 w0_1 w1_0 w1_1 w2_0 w2_1 w3
  refine (valancelaw03_SpanNear.calls k a0_0 a0_1 a1_0 a1_1 a2_0 a2_1 a3 true w h).mono ?_
  rintro e w' ⟨rfl, hd⟩
  exact ⟨rfl, hd⟩

end Go.Proofs.Ytcadddijlgcnbaa.V
