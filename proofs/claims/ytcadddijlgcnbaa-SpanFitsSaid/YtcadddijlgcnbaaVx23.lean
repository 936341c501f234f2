/- What the functions of this seat answer, as plain Lean functions, and that the calls come to just that (written by a program of this repo, over the kit's printer; Lean checks it). -/
import Derived.Test.YtcadddijlgcnbaaVx0
import Derived.Test.YtcadddijlgcnbaaVx3
import Derived.Test.YtcadddijlgcnbaaVx4
import Derived.Test.YtcadddijlgcnbaaVx7
import Derived.Test.YtcadddijlgcnbaaVx8
import Derived.Test.YtcadddijlgcnbaaVx10
namespace Go.Proofs.Ytcadddijlgcnbaa.V
open Go.RowKit Go.Proofs.YtcadddijlgcnbaaW.PrintWords Go.Proofs.YtcadddijlgcnbaaW.PrintLast Go.Proofs.YtcadddijlgcnbaaW.PrintMore
attribute [local go_sem] max2_int min2_int max_two min_two max_three min_three max_four min_four   -- for this text's walks alone
set_option linter.unusedVariables false
set_option linter.unusedSimpArgs false

/-! ### valancelaw03_SpanFits: function 5 -/
mutual
def valancelaw03_SpanFits.j0 : Nat → Int → Int → Int → Bool → Bool → Int → Int → Option (Bool)
  | 0, _, _, _, _, _, _, _ => none
  | k + 1, x0, x1, x3, x9, x57, x267000, x267001 => if x57 = true then (some x9) else ((span_Of.f x0 x1).bind fun bt268 => ((span_Fit.f bt268.1 bt268.2 x267000 x267001).bind fun t271 => ((span_Move.f bt268.1 bt268.2 t271).bind fun bt272 => (if x1 > (wrap64 (x267001 - x267000)) then (if x9 = true then (some (bt272.1 == x267000)) else (none)) else ((span_Move.f bt268.1 bt268.2 x3).bind fun bt275 => (if bt275.1 ≥ x267000 then (valancelaw03_SpanFits.j1 k x1 x3 x9 t271 (decide (bt275.2 ≤ x267001)) x267000 x267001 bt272.1 bt272.2) else (valancelaw03_SpanFits.j1 k x1 x3 x9 t271 false x267000 x267001 bt272.1 bt272.2)))))))
def valancelaw03_SpanFits.j1 : Nat → Int → Int → Bool → Int → Bool → Int → Int → Int → Int → Option (Bool)
  | 0, _, _, _, _, _, _, _, _, _ => none
  | k + 1, x1, x3, x9, x11, x14, x267000, x267001, x275000, x275001 => if x3 ≥ 0 then (if x11 ≥ 0 then (if x3 < x11 then (valancelaw03_SpanFits.j2 k x1 x9 x14 true x267000 x267001 x275000 x275001) else (if x3 ≤ 0 then (if x11 ≤ 0 then (if x3 > x11 then (valancelaw03_SpanFits.j2 k x1 x9 x14 true x267000 x267001 x275000 x275001) else (if x3 = 0 then (valancelaw03_SpanFits.j2 k x1 x9 x14 (x11 != 0) x267000 x267001 x275000 x275001) else (valancelaw03_SpanFits.j2 k x1 x9 x14 false x267000 x267001 x275000 x275001))) else (if x3 = 0 then (valancelaw03_SpanFits.j2 k x1 x9 x14 (x11 != 0) x267000 x267001 x275000 x275001) else (valancelaw03_SpanFits.j2 k x1 x9 x14 false x267000 x267001 x275000 x275001))) else (if x3 = 0 then (valancelaw03_SpanFits.j2 k x1 x9 x14 (x11 != 0) x267000 x267001 x275000 x275001) else (valancelaw03_SpanFits.j2 k x1 x9 x14 false x267000 x267001 x275000 x275001)))) else (if x3 ≤ 0 then (if x11 ≤ 0 then (if x3 > x11 then (valancelaw03_SpanFits.j2 k x1 x9 x14 true x267000 x267001 x275000 x275001) else (if x3 = 0 then (valancelaw03_SpanFits.j2 k x1 x9 x14 (x11 != 0) x267000 x267001 x275000 x275001) else (valancelaw03_SpanFits.j2 k x1 x9 x14 false x267000 x267001 x275000 x275001))) else (if x3 = 0 then (valancelaw03_SpanFits.j2 k x1 x9 x14 (x11 != 0) x267000 x267001 x275000 x275001) else (valancelaw03_SpanFits.j2 k x1 x9 x14 false x267000 x267001 x275000 x275001))) else (if x3 = 0 then (valancelaw03_SpanFits.j2 k x1 x9 x14 (x11 != 0) x267000 x267001 x275000 x275001) else (valancelaw03_SpanFits.j2 k x1 x9 x14 false x267000 x267001 x275000 x275001)))) else (if x3 ≤ 0 then (if x11 ≤ 0 then (if x3 > x11 then (valancelaw03_SpanFits.j2 k x1 x9 x14 true x267000 x267001 x275000 x275001) else (if x3 = 0 then (valancelaw03_SpanFits.j2 k x1 x9 x14 (x11 != 0) x267000 x267001 x275000 x275001) else (valancelaw03_SpanFits.j2 k x1 x9 x14 false x267000 x267001 x275000 x275001))) else (if x3 = 0 then (valancelaw03_SpanFits.j2 k x1 x9 x14 (x11 != 0) x267000 x267001 x275000 x275001) else (valancelaw03_SpanFits.j2 k x1 x9 x14 false x267000 x267001 x275000 x275001))) else (if x3 = 0 then (valancelaw03_SpanFits.j2 k x1 x9 x14 (x11 != 0) x267000 x267001 x275000 x275001) else (valancelaw03_SpanFits.j2 k x1 x9 x14 false x267000 x267001 x275000 x275001)))
def valancelaw03_SpanFits.j2 : Nat → Int → Bool → Bool → Bool → Int → Int → Int → Int → Option (Bool)
  | 0, _, _, _, _, _, _, _, _ => none
  | k + 1, x1, x9, x14, x15, x267000, x267001, x275000, x275001 => if x9 = true then (if x275000 ≥ x267000 then (if x275001 ≤ x267001 then ((span_Size.f x275000 x275001).bind fun t278 => (if t278 = x1 then (if x14 = true then (if x15 = true then (none) else ((span_Fit.f x275000 x275001 x267000 x267001).bind fun t279 => (some (t279 == 0)))) else ((span_Fit.f x275000 x275001 x267000 x267001).bind fun t280 => (some (t280 == 0)))) else (none))) else (none)) else (none)) else (none)
end
def valancelaw03_SpanFits.f (k : Nat) (a0 : Int) (a1 : Int) (a2_0 : Int) (a2_1 : Int) (a3 : Int) : Option (Bool) := (valancelaw03_works.f).bind fun t267 => (if t267 = true then (if a0 < (-1073741824) then (valancelaw03_SpanFits.j0 k a0 a1 a3 t267 true a2_0 a2_1) else (if a0 > 1073741824 then (valancelaw03_SpanFits.j0 k a0 a1 a3 t267 true a2_0 a2_1) else (if a1 < 0 then (valancelaw03_SpanFits.j0 k a0 a1 a3 t267 true a2_0 a2_1) else (if a1 > 1073741824 then (valancelaw03_SpanFits.j0 k a0 a1 a3 t267 true a2_0 a2_1) else (if a2_0 < (-1073741824) then (valancelaw03_SpanFits.j0 k a0 a1 a3 t267 true a2_0 a2_1) else (if a2_1 > 1073741824 then (valancelaw03_SpanFits.j0 k a0 a1 a3 t267 true a2_0 a2_1) else (if a2_0 > a2_1 then (valancelaw03_SpanFits.j0 k a0 a1 a3 t267 true a2_0 a2_1) else (if a3 < (-4294967296) then (valancelaw03_SpanFits.j0 k a0 a1 a3 t267 true a2_0 a2_1) else (valancelaw03_SpanFits.j0 k a0 a1 a3 t267 (decide (a3 > 4294967296)) a2_0 a2_1))))))))) else (none))
theorem valancelaw03_SpanFits.mono_l : ∀ k, (∀ y0 y1 y2 y3 y4 y5 y6, LeO (valancelaw03_SpanFits.j0 k y0 y1 y2 y3 y4 y5 y6) (valancelaw03_SpanFits.j0 (k + 1) y0 y1 y2 y3 y4 y5 y6)) ∧ (∀ y0 y1 y2 y3 y4 y5 y6 y7 y8, LeO (valancelaw03_SpanFits.j1 k y0 y1 y2 y3 y4 y5 y6 y7 y8) (valancelaw03_SpanFits.j1 (k + 1) y0 y1 y2 y3 y4 y5 y6 y7 y8)) ∧ (∀ y0 y1 y2 y3 y4 y5 y6 y7, LeO (valancelaw03_SpanFits.j2 k y0 y1 y2 y3 y4 y5 y6 y7) (valancelaw03_SpanFits.j2 (k + 1) y0 y1 y2 y3 y4 y5 y6 y7))
  | 0 => ⟨fun _ _ _ _ _ _ _ r h => by simp [valancelaw03_SpanFits.j0] at h, fun _ _ _ _ _ _ _ _ _ r h => by simp [valancelaw03_SpanFits.j1] at h, fun _ _ _ _ _ _ _ _ r h => by simp [valancelaw03_SpanFits.j2] at h⟩
  | k + 1 => by
    obtain ⟨ih0, ih1, ih2⟩ := valancelaw03_SpanFits.mono_l k
    refine ⟨?_, ?_, ?_⟩
    · intro y0 y1 y2 y3 y4 y5 y6
      unfold valancelaw03_SpanFits.j0
      repeat' first
      | (with_reducible exact ih0 _ _ _ _ _ _ _)
      | (with_reducible exact ih1 _ _ _ _ _ _ _ _ _)
      | (with_reducible exact ih2 _ _ _ _ _ _ _ _)
      | (with_reducible exact LeO.refl _)
      | (with_reducible exact LeO.none _)
      | (with_reducible refine LeO.ite ?_ ?_)
      | (with_reducible refine LeO.bind ?_ (fun _ => ?_))
      | exact ih0 _ _ _ _ _ _ _
      | exact ih1 _ _ _ _ _ _ _ _ _
      | exact ih2 _ _ _ _ _ _ _ _
      | exact LeO.none _
      | refine LeO.ite ?_ ?_
      | refine LeO.bind ?_ (fun _ => ?_)
    · intro y0 y1 y2 y3 y4 y5 y6 y7 y8
      unfold valancelaw03_SpanFits.j1
      repeat' first
      | (with_reducible exact ih0 _ _ _ _ _ _ _)
      | (with_reducible exact ih1 _ _ _ _ _ _ _ _ _)
      | (with_reducible exact ih2 _ _ _ _ _ _ _ _)
      | (with_reducible exact LeO.refl _)
      | (with_reducible exact LeO.none _)
      | (with_reducible refine LeO.ite ?_ ?_)
      | (with_reducible refine LeO.bind ?_ (fun _ => ?_))
      | exact ih0 _ _ _ _ _ _ _
      | exact ih1 _ _ _ _ _ _ _ _ _
      | exact ih2 _ _ _ _ _ _ _ _
      | exact LeO.none _
      | refine LeO.ite ?_ ?_
      | refine LeO.bind ?_ (fun _ => ?_)
    · intro y0 y1 y2 y3 y4 y5 y6 y7
      unfold valancelaw03_SpanFits.j2
      repeat' first
      | (with_reducible exact ih0 _ _ _ _ _ _ _)
      | (with_reducible exact ih1 _ _ _ _ _ _ _ _ _)
      | (with_reducible exact ih2 _ _ _ _ _ _ _ _)
      | (with_reducible exact LeO.refl _)
      | (with_reducible exact LeO.none _)
      | (with_reducible refine LeO.ite ?_ ?_)
      | (with_reducible refine LeO.bind ?_ (fun _ => ?_))
      | exact ih0 _ _ _ _ _ _ _
      | exact ih1 _ _ _ _ _ _ _ _ _
      | exact ih2 _ _ _ _ _ _ _ _
      | exact LeO.none _
      | refine LeO.ite ?_ ?_
      | refine LeO.bind ?_ (fun _ => ?_)
theorem valancelaw03_SpanFits.mono : ∀ a0 a1 a2 a3 a4 k, LeO (valancelaw03_SpanFits.f k a0 a1 a2 a3 a4) (valancelaw03_SpanFits.f (k + 1) a0 a1 a2 a3 a4) := by
  intro a0 a1 a2 a3 a4 k
  obtain ⟨ih0, ih1, ih2⟩ := valancelaw03_SpanFits.mono_l k
  unfold valancelaw03_SpanFits.f
  repeat' first
      | (with_reducible exact ih0 _ _ _ _ _ _ _)
      | (with_reducible exact ih1 _ _ _ _ _ _ _ _ _)
      | (with_reducible exact ih2 _ _ _ _ _ _ _ _)
      | (with_reducible exact LeO.refl _)
      | (with_reducible exact LeO.none _)
      | (with_reducible refine LeO.ite ?_ ?_)
      | (with_reducible refine LeO.bind ?_ (fun _ => ?_))
      | exact ih0 _ _ _ _ _ _ _
      | exact ih1 _ _ _ _ _ _ _ _ _
      | exact ih2 _ _ _ _ _ _ _ _
      | exact LeO.none _
      | refine LeO.ite ?_ ?_
      | refine LeO.bind ?_ (fun _ => ?_)
set_option maxHeartbeats 8000000 in
set_option maxRecDepth 100000 in
theorem valancelaw03_SpanFits.calls (k : Nat) (a0 : Int) (a1 : Int) (a2_0 : Int) (a2_1 : Int) (a3 : Int) (r : Bool) (w : World) (h : valancelaw03_SpanFits.f k a0 a1 a2_0 a2_1 a3 = some r) :
    Calls Try.prog 5 #[.int .i64 a0, .int .i64 a1, .agg #[.int .i64 a2_0, .int .i64 a2_1], .int .i64 a3] w fun e w' => e = .returned (.bool r) ∧ Below w.heap.size w w' := by
  have hu23 := Try.underlying23
  have HB := Aside0.mk (Below.refl w.heap.size w)
  have H : ((valancelaw03_works.f).bind fun t267 => (if t267 = true then (if a0 < (-1073741824) then (valancelaw03_SpanFits.j0 k a0 a1 a3 t267 true a2_0 a2_1) else (if a0 > 1073741824 then (valancelaw03_SpanFits.j0 k a0 a1 a3 t267 true a2_0 a2_1) else (if a1 < 0 then (valancelaw03_SpanFits.j0 k a0 a1 a3 t267 true a2_0 a2_1) else (if a1 > 1073741824 then (valancelaw03_SpanFits.j0 k a0 a1 a3 t267 true a2_0 a2_1) else (if a2_0 < (-1073741824) then (valancelaw03_SpanFits.j0 k a0 a1 a3 t267 true a2_0 a2_1) else (if a2_1 > 1073741824 then (valancelaw03_SpanFits.j0 k a0 a1 a3 t267 true a2_0 a2_1) else (if a2_0 > a2_1 then (valancelaw03_SpanFits.j0 k a0 a1 a3 t267 true a2_0 a2_1) else (if a3 < (-4294967296) then (valancelaw03_SpanFits.j0 k a0 a1 a3 t267 true a2_0 a2_1) else (valancelaw03_SpanFits.j0 k a0 a1 a3 t267 (decide (a3 > 4294967296)) a2_0 a2_1))))))))) else (none))) = some r := h
  clear h
  replace H := Option.bind_eq_some_iff.mp H
  obtain ⟨t267, A50, H⟩ := H
  replace H : (if t267 = true then (if a0 < (-1073741824) then (valancelaw03_SpanFits.j0 k a0 a1 a3 t267 true a2_0 a2_1) else (if a0 > 1073741824 then (valancelaw03_SpanFits.j0 k a0 a1 a3 t267 true a2_0 a2_1) else (if a1 < 0 then (valancelaw03_SpanFits.j0 k a0 a1 a3 t267 true a2_0 a2_1) else (if a1 > 1073741824 then (valancelaw03_SpanFits.j0 k a0 a1 a3 t267 true a2_0 a2_1) else (if a2_0 < (-1073741824) then (valancelaw03_SpanFits.j0 k a0 a1 a3 t267 true a2_0 a2_1) else (if a2_1 > 1073741824 then (valancelaw03_SpanFits.j0 k a0 a1 a3 t267 true a2_0 a2_1) else (if a2_0 > a2_1 then (valancelaw03_SpanFits.j0 k a0 a1 a3 t267 true a2_0 a2_1) else (if a3 < (-4294967296) then (valancelaw03_SpanFits.j0 k a0 a1 a3 t267 true a2_0 a2_1) else (valancelaw03_SpanFits.j0 k a0 a1 a3 t267 (decide (a3 > 4294967296)) a2_0 a2_1))))))))) else (none)) = some r := H
  have A5 := Aside0.mk A50
  clear A50
  by_cases c6 : t267 = true
  · subst c6
    have H1 : (if a0 < (-1073741824) then (valancelaw03_SpanFits.j0 k a0 a1 a3 true true a2_0 a2_1) else (if a0 > 1073741824 then (valancelaw03_SpanFits.j0 k a0 a1 a3 true true a2_0 a2_1) else (if a1 < 0 then (valancelaw03_SpanFits.j0 k a0 a1 a3 true true a2_0 a2_1) else (if a1 > 1073741824 then (valancelaw03_SpanFits.j0 k a0 a1 a3 true true a2_0 a2_1) else (if a2_0 < (-1073741824) then (valancelaw03_SpanFits.j0 k a0 a1 a3 true true a2_0 a2_1) else (if a2_1 > 1073741824 then (valancelaw03_SpanFits.j0 k a0 a1 a3 true true a2_0 a2_1) else (if a2_0 > a2_1 then (valancelaw03_SpanFits.j0 k a0 a1 a3 true true a2_0 a2_1) else (if a3 < (-4294967296) then (valancelaw03_SpanFits.j0 k a0 a1 a3 true true a2_0 a2_1) else (valancelaw03_SpanFits.j0 k a0 a1 a3 true (decide (a3 > 4294967296)) a2_0 a2_1))))))))) = some r := by rw [if_pos rfl] at H; exact H
    clear H
    have H := H1
    clear H1
    have HC7 := Aside0.mk H
    clear H
    go_enter Try.func5, Try.ntmps5
    go_upto_region 4 with (first | ((with_reducible refine gate_dst (N := 6) rfl ?_); refine box_event ?hg (N := 6) ?hd (cs := #[.int .i64 a2_0, .int .i64 a2_1]) (t := 23) ?hr ?_; (case hd => rfl); (case hg => rfl); (case hr => first | (go_simp; done) | (go_simp; rfl)); intro gb266 hg w8 hbox hb; have n0_ := Aside0.mk (below_step (by repeat (first | (with_reducible first | exact HB.out | apply below_alloc | apply pw_below_drewN | apply below_drew1) | exact HB.out)) hb); have n1_ := Aside0.mk (hbox); have n2_ := Aside0.mk ((by rw [hg]; exact (below_size (by repeat (first | (with_reducible first | exact HB.out | apply below_alloc | apply pw_below_drewN | apply below_drew1) | exact HB.out))) : w.heap.size ≤ gb266)); have n3_ := Aside0.mk ((by rw [hg]; exact (below_size (by repeat (first | (with_reducible first | exact HB.out | apply below_alloc | apply pw_below_drewN | apply below_drew1) | exact HB.out))) : w.heap.size ≤ gb266)); clear HB; have HB := n0_; have BK266 := n1_; have GW266 := n2_; have GE266 := n3_; clear n0_ n1_ n2_ n3_; clear hb hbox hg) | ((with_reducible refine gate_callee (f := 15) rfl ?_); refine goesL_ (some 16) rfl rfl Try.func15 (by kernel_rfl) rfl #[] rfl (by (try simp only [List.map_toArray, List.map_cons, List.map_nil]); first | done | rfl | (simp only [List.length_drop, List.length_take]; rfl)) ?_; (with_reducible refine (valancelaw03_works.calls  true _ A5.out).mono ?_); rintro e w9 ⟨rfl, hb⟩; refine ⟨_, rfl, ?_⟩; have n0_ := Aside0.mk (blk_below (g := gb266) (o := .cells #[.int .i64 a2_0, .int .i64 a2_1] 23 (0, 0)) (by (with_reducible repeat (first | refine blk_drewN ?_ _ | refine blk_drew ?_ | refine blk_alloc ?_ _)); exact BK266.out) hb); have n1_ := Aside0.mk (below_step (by repeat (first | (with_reducible first | exact HB.out | apply below_alloc | apply pw_below_drewN | apply below_drew1 | refine below_set ?_ GE266.out) | exact HB.out)) hb); clear BK266; clear HB; have BK266 := n0_; have HB := n1_; clear n0_ n1_; (try clear hb); (try clear hb2); (try clear hk); (try clear hi)))
    (try simp only [Act.put, List.setIfInBounds_toArray, List.set_cons_zero, List.set_cons_succ])
    go_cut [57] (fun v57 wc => ∃ (kq : Nat) (x57_6 : Bool), v57 = .bool x57_6 ∧ Aside0 (valancelaw03_SpanFits.j0 kq a0 a1 a3 true x57_6 a2_0 a2_1 = some r) ∧ Aside0 (kq ≤ k) ∧ Aside0 (wc.heap[gb266]? = some (.cells #[.int .i64 a2_0, .int .i64 a2_1] 23 (0, 0))) ∧ Aside0 (Below w.heap.size w wc))
    case first =>
      as_aux_lemma =>
        have H := HC7.out
        clear HC7
        by_cases c10 : a0 < (-1073741824)
        · rw [if_pos c10] at H
          have c10b0 : decide (a0 < (-1073741824)) = true := decide_eq_true c10
          clear c10
          (first | rw [c10b0] | (simp only [i64_w, i32_w]; rw [c10b0]) | skip)
          have H' := Aside0.mk H
          clear H
          go_wp2
          go_meet
          case rel => exact ⟨_, (true), (by first | rfl | (simp; done) | (simp [*]; done)), H', ⟨by first | omega | exact Nat.le_refl _⟩, ⟨by (with_reducible repeat (first | refine blk_drewN ?_ _ | refine blk_drew ?_ | refine blk_alloc ?_ _)); exact BK266.out⟩, ⟨by repeat (first | (with_reducible first | exact HB.out | apply below_alloc | apply pw_below_drewN | apply below_drew1 | refine below_set ?_ GE266.out) | exact HB.out)⟩⟩
        · rw [if_neg c10] at H
          have c10b0 : decide (a0 < (-1073741824)) = false := decide_eq_false c10
          clear c10
          (first | rw [c10b0] | (simp only [i64_w, i32_w]; rw [c10b0]) | skip)
          by_cases c11 : a0 > 1073741824
          · rw [if_pos c11] at H
            have c11b0 : decide (1073741824 < a0) = true := decide_eq_true c11
            clear c11
            have H' := Aside0.mk H
            clear H
            go_wp2
            go_meet
            case rel => exact ⟨_, (true), (by first | rfl | (simp; done) | (simp [*]; done)), H', ⟨by first | omega | exact Nat.le_refl _⟩, ⟨by (with_reducible repeat (first | refine blk_drewN ?_ _ | refine blk_drew ?_ | refine blk_alloc ?_ _)); exact BK266.out⟩, ⟨by repeat (first | (with_reducible first | exact HB.out | apply below_alloc | apply pw_below_drewN | apply below_drew1 | refine below_set ?_ GE266.out) | exact HB.out)⟩⟩
          · rw [if_neg c11] at H
            have c11b0 : decide (1073741824 < a0) = false := decide_eq_false c11
            clear c11
            by_cases c12 : a1 < 0
            · rw [if_pos c12] at H
              have c12b0 : decide (a1 < 0) = true := decide_eq_true c12
              clear c12
              have H' := Aside0.mk H
              clear H
              go_wp2
              go_meet
              case rel => exact ⟨_, (true), (by first | rfl | (simp; done) | (simp [*]; done)), H', ⟨by first | omega | exact Nat.le_refl _⟩, ⟨by (with_reducible repeat (first | refine blk_drewN ?_ _ | refine blk_drew ?_ | refine blk_alloc ?_ _)); exact BK266.out⟩, ⟨by repeat (first | (with_reducible first | exact HB.out | apply below_alloc | apply pw_below_drewN | apply below_drew1 | refine below_set ?_ GE266.out) | exact HB.out)⟩⟩
            · rw [if_neg c12] at H
              have c12b0 : decide (a1 < 0) = false := decide_eq_false c12
              clear c12
              by_cases c13 : a1 > 1073741824
              · rw [if_pos c13] at H
                have c13b0 : decide (1073741824 < a1) = true := decide_eq_true c13
                clear c13
                have H' := Aside0.mk H
                clear H
                go_wp2
                go_meet
                case rel => exact ⟨_, (true), (by first | rfl | (simp; done) | (simp [*]; done)), H', ⟨by first | omega | exact Nat.le_refl _⟩, ⟨by (with_reducible repeat (first | refine blk_drewN ?_ _ | refine blk_drew ?_ | refine blk_alloc ?_ _)); exact BK266.out⟩, ⟨by repeat (first | (with_reducible first | exact HB.out | apply below_alloc | apply pw_below_drewN | apply below_drew1 | refine below_set ?_ GE266.out) | exact HB.out)⟩⟩
              · rw [if_neg c13] at H
                have c13b0 : decide (1073741824 < a1) = false := decide_eq_false c13
                clear c13
                by_cases c14 : a2_0 < (-1073741824)
                · rw [if_pos c14] at H
                  have c14b0 : decide (a2_0 < (-1073741824)) = true := decide_eq_true c14
                  clear c14
                  have H' := Aside0.mk H
                  clear H
                  have hcz15_0 : w9.cell? ⟨gb266, 0, none⟩ = some (.int .i64 a2_0) := (blk_cell BK266.out 0).trans rfl
                  have hcz15_1 : w9.cell? ⟨gb266, 1, none⟩ = some (.int .i64 a2_1) := (blk_cell BK266.out 1).trans rfl
                  have hfz15_0 := blk_frozen BK266.out 0
                  have hfz15_1 := blk_frozen BK266.out 1
                  go_wp2
                  go_meet
                  case rel => exact ⟨_, (true), (by first | rfl | (simp; done) | (simp [*]; done)), H', ⟨by first | omega | exact Nat.le_refl _⟩, ⟨by (with_reducible repeat (first | refine blk_drewN ?_ _ | refine blk_drew ?_ | refine blk_alloc ?_ _)); exact BK266.out⟩, ⟨by repeat (first | (with_reducible first | exact HB.out | apply below_alloc | apply pw_below_drewN | apply below_drew1 | refine below_set ?_ GE266.out) | exact HB.out)⟩⟩
                · rw [if_neg c14] at H
                  have c14b0 : decide (a2_0 < (-1073741824)) = false := decide_eq_false c14
                  clear c14
                  by_cases c16 : a2_1 > 1073741824
                  · rw [if_pos c16] at H
                    have c16b0 : decide (1073741824 < a2_1) = true := decide_eq_true c16
                    clear c16
                    have H' := Aside0.mk H
                    clear H
                    have hcz17_0 : w9.cell? ⟨gb266, 0, none⟩ = some (.int .i64 a2_0) := (blk_cell BK266.out 0).trans rfl
                    have hcz17_1 : w9.cell? ⟨gb266, 1, none⟩ = some (.int .i64 a2_1) := (blk_cell BK266.out 1).trans rfl
                    have hfz17_0 := blk_frozen BK266.out 0
                    have hfz17_1 := blk_frozen BK266.out 1
                    go_wp2
                    go_meet
                    case rel => exact ⟨_, (true), (by first | rfl | (simp; done) | (simp [*]; done)), H', ⟨by first | omega | exact Nat.le_refl _⟩, ⟨by (with_reducible repeat (first | refine blk_drewN ?_ _ | refine blk_drew ?_ | refine blk_alloc ?_ _)); exact BK266.out⟩, ⟨by repeat (first | (with_reducible first | exact HB.out | apply below_alloc | apply pw_below_drewN | apply below_drew1 | refine below_set ?_ GE266.out) | exact HB.out)⟩⟩
                  · rw [if_neg c16] at H
                    have c16b0 : decide (1073741824 < a2_1) = false := decide_eq_false c16
                    clear c16
                    by_cases c18 : a2_0 > a2_1
                    · rw [if_pos c18] at H
                      have c18b0 : decide (a2_1 < a2_0) = true := decide_eq_true c18
                      clear c18
                      have H' := Aside0.mk H
                      clear H
                      have hcz19_0 : w9.cell? ⟨gb266, 0, none⟩ = some (.int .i64 a2_0) := (blk_cell BK266.out 0).trans rfl
                      have hcz19_1 : w9.cell? ⟨gb266, 1, none⟩ = some (.int .i64 a2_1) := (blk_cell BK266.out 1).trans rfl
                      have hfz19_0 := blk_frozen BK266.out 0
                      have hfz19_1 := blk_frozen BK266.out 1
                      go_wp2
                      go_meet
                      case rel => exact ⟨_, (true), (by first | rfl | (simp; done) | (simp [*]; done)), H', ⟨by first | omega | exact Nat.le_refl _⟩, ⟨by (with_reducible repeat (first | refine blk_drewN ?_ _ | refine blk_drew ?_ | refine blk_alloc ?_ _)); exact BK266.out⟩, ⟨by repeat (first | (with_reducible first | exact HB.out | apply below_alloc | apply pw_below_drewN | apply below_drew1 | refine below_set ?_ GE266.out) | exact HB.out)⟩⟩
                    · rw [if_neg c18] at H
                      have c18b0 : decide (a2_1 < a2_0) = false := decide_eq_false c18
                      clear c18
                      by_cases c20 : a3 < (-4294967296)
                      · rw [if_pos c20] at H
                        have c20b0 : decide (a3 < (-4294967296)) = true := decide_eq_true c20
                        clear c20
                        have H' := Aside0.mk H
                        clear H
                        have hcz21_0 : w9.cell? ⟨gb266, 0, none⟩ = some (.int .i64 a2_0) := (blk_cell BK266.out 0).trans rfl
                        have hcz21_1 : w9.cell? ⟨gb266, 1, none⟩ = some (.int .i64 a2_1) := (blk_cell BK266.out 1).trans rfl
                        have hfz21_0 := blk_frozen BK266.out 0
                        have hfz21_1 := blk_frozen BK266.out 1
                        go_wp2
                        go_meet
                        case rel => exact ⟨_, (true), (by first | rfl | (simp; done) | (simp [*]; done)), H', ⟨by first | omega | exact Nat.le_refl _⟩, ⟨by (with_reducible repeat (first | refine blk_drewN ?_ _ | refine blk_drew ?_ | refine blk_alloc ?_ _)); exact BK266.out⟩, ⟨by repeat (first | (with_reducible first | exact HB.out | apply below_alloc | apply pw_below_drewN | apply below_drew1 | refine below_set ?_ GE266.out) | exact HB.out)⟩⟩
                      · rw [if_neg c20] at H
                        have c20b0 : decide (a3 < (-4294967296)) = false := decide_eq_false c20
                        clear c20
                        have H' := Aside0.mk H
                        clear H
                        have hcz22_0 : w9.cell? ⟨gb266, 0, none⟩ = some (.int .i64 a2_0) := (blk_cell BK266.out 0).trans rfl
                        have hcz22_1 : w9.cell? ⟨gb266, 1, none⟩ = some (.int .i64 a2_1) := (blk_cell BK266.out 1).trans rfl
                        have hfz22_0 := blk_frozen BK266.out 0
                        have hfz22_1 := blk_frozen BK266.out 1
                        go_wp2
                        go_meet
                        case rel => exact ⟨_, (decide (a3 > 4294967296)), (by first | rfl | (simp; done) | (simp [*]; done)), H', ⟨by first | omega | exact Nat.le_refl _⟩, ⟨by (with_reducible repeat (first | refine blk_drewN ?_ _ | refine blk_drew ?_ | refine blk_alloc ?_ _)); exact BK266.out⟩, ⟨by repeat (first | (with_reducible first | exact HB.out | apply below_alloc | apply pw_below_drewN | apply below_drew1 | refine below_set ?_ GE266.out) | exact HB.out)⟩⟩
    case rest =>
      as_aux_lemma =>
        clear HC7
        try clear c1
        try clear c2
        try clear p2
        try clear c5
        try clear c6
        try clear c10
        try clear c10b0
        try clear c11
        try clear c11b0
        try clear c12
        try clear c12b0
        try clear c13
        try clear c13b0
        try clear c14
        try clear c14b0
        try clear c15
        try clear c16
        try clear c16b0
        try clear c18
        try clear c18b0
        try clear c20
        try clear c20b0
        try clear hcz15_0
        try clear hcz15_1
        try clear hcz17_0
        try clear hcz17_1
        try clear hcz19_0
        try clear hcz19_1
        try clear hcz21_0
        try clear hcz21_1
        try clear hcz22_0
        try clear hcz22_1
        try clear hfz15_0
        try clear hfz15_1
        try clear hfz17_0
        try clear hfz17_1
        try clear hfz19_0
        try clear hfz19_1
        try clear hfz21_0
        try clear hfz21_1
        try clear hfz22_0
        try clear hfz22_1
        obtain ⟨kq, x57_6, rfl, HA, HJ6, BK266, HB⟩ := hcut
        cases kq with
        | zero => exact absurd HA.out (by simp [valancelaw03_SpanFits.j0])
        | succ kj6 =>
          have H := HA.out
          clear HA
          simp only [valancelaw03_SpanFits.j0] at H
          by_cases c23 : x57_6 = true
          · subst c23
            have H1 : (some true) = some r := by rw [if_pos rfl] at H; exact H
            clear H
            have H := H1
            clear H1
            obtain rfl := Option.some.inj H
            go_wp2
            go_ret
            exact ⟨by first | rfl | (cases Option.some.inj (A120.out.symm.trans A108.out); rfl) | (cases Option.some.inj (A108.out.symm.trans A120.out); rfl) | (simp [errW_none, errW_some] <;> rfl) | (simp [*, errW_none, errW_some] <;> rfl), by repeat (first | (with_reducible first | exact HB.out | apply below_alloc | apply pw_below_drewN | apply below_drew1 | refine below_set ?_ GE266.out) | exact HB.out)⟩
          · replace c23 := Bool.eq_false_iff.mpr c23
            subst c23
            have H1 : ((span_Of.f a0 a1).bind fun bt268 => ((span_Fit.f bt268.1 bt268.2 a2_0 a2_1).bind fun t271 => ((span_Move.f bt268.1 bt268.2 t271).bind fun bt272 => (if a1 > (wrap64 (a2_1 - a2_0)) then (if true = true then (some (bt272.1 == a2_0)) else (none)) else ((span_Move.f bt268.1 bt268.2 a3).bind fun bt275 => (if bt275.1 ≥ a2_0 then (valancelaw03_SpanFits.j1 kj6 a1 a3 true t271 (decide (bt275.2 ≤ a2_1)) a2_0 a2_1 bt272.1 bt272.2) else (valancelaw03_SpanFits.j1 kj6 a1 a3 true t271 false a2_0 a2_1 bt272.1 bt272.2))))))) = some r := by rw [if_neg (show ¬ (false = true) by decide)] at H; exact H
            clear H
            have H := H1
            clear H1
            replace H := Option.bind_eq_some_iff.mp H
            obtain ⟨⟨t268, t269⟩, A240, H⟩ := H
            replace H : ((span_Fit.f t268 t269 a2_0 a2_1).bind fun t271 => ((span_Move.f t268 t269 t271).bind fun bt272 => (if a1 > (wrap64 (a2_1 - a2_0)) then (if true = true then (some (bt272.1 == a2_0)) else (none)) else ((span_Move.f t268 t269 a3).bind fun bt275 => (if bt275.1 ≥ a2_0 then (valancelaw03_SpanFits.j1 kj6 a1 a3 true t271 (decide (bt275.2 ≤ a2_1)) a2_0 a2_1 bt272.1 bt272.2) else (valancelaw03_SpanFits.j1 kj6 a1 a3 true t271 false a2_0 a2_1 bt272.1 bt272.2)))))) = some r := H
            have A24 := Aside0.mk A240
            clear A240
            replace H := Option.bind_eq_some_iff.mp H
            obtain ⟨t271, A250, H⟩ := H
            replace H : ((span_Move.f t268 t269 t271).bind fun bt272 => (if a1 > (wrap64 (a2_1 - a2_0)) then (if true = true then (some (bt272.1 == a2_0)) else (none)) else ((span_Move.f t268 t269 a3).bind fun bt275 => (if bt275.1 ≥ a2_0 then (valancelaw03_SpanFits.j1 kj6 a1 a3 true t271 (decide (bt275.2 ≤ a2_1)) a2_0 a2_1 bt272.1 bt272.2) else (valancelaw03_SpanFits.j1 kj6 a1 a3 true t271 false a2_0 a2_1 bt272.1 bt272.2))))) = some r := H
            have A25 := Aside0.mk A250
            clear A250
            replace H := Option.bind_eq_some_iff.mp H
            obtain ⟨⟨t272, t273⟩, A260, H⟩ := H
            replace H : (if a1 > (wrap64 (a2_1 - a2_0)) then (if true = true then (some (t272 == a2_0)) else (none)) else ((span_Move.f t268 t269 a3).bind fun bt275 => (if bt275.1 ≥ a2_0 then (valancelaw03_SpanFits.j1 kj6 a1 a3 true t271 (decide (bt275.2 ≤ a2_1)) a2_0 a2_1 t272 t273) else (valancelaw03_SpanFits.j1 kj6 a1 a3 true t271 false a2_0 a2_1 t272 t273)))) = some r := H
            have A26 := Aside0.mk A260
            clear A260
            by_cases c27 : a1 > (wrap64 (a2_1 - a2_0))
            · rw [if_pos c27] at H
              have c27b0 : decide ((wrap64 (a2_1 - a2_0)) < a1) = true := decide_eq_true c27
              clear c27
              by_cases c28 : true = true
              · clear c28
                have H1 : (some (t272 == a2_0)) = some r := by first | (rw [if_pos rfl] at H; exact H) | (rw [if_pos True.intro] at H; exact H)
                clear H
                have H := H1
                clear H1
                obtain rfl := Option.some.inj H
                as_aux_lemma =>
                  go_wp2_with (first | ((with_reducible refine gate_callee (f := 16) rfl ?_); refine goesL_ (some 61) rfl rfl Try.func16 (by kernel_rfl) rfl #[.int .i64 a0, .int .i64 a1] rfl (by (try simp only [List.map_toArray, List.map_cons, List.map_nil]); first | done | rfl | (simp only [List.length_drop, List.length_take]; rfl)) ?_; (with_reducible refine (span_Of.calls a0 a1 t268 t269 _ A24.out).mono ?_); rintro e w29 ⟨rfl, hb⟩; refine ⟨_, rfl, ?_⟩; have n0_ := Aside0.mk (blk_below (g := gb266) (o := .cells #[.int .i64 a2_0, .int .i64 a2_1] 23 (0, 0)) (by (with_reducible repeat (first | refine blk_drewN ?_ _ | refine blk_drew ?_ | refine blk_alloc ?_ _)); exact BK266.out) hb); have n1_ := Aside0.mk (below_step (by repeat (first | (with_reducible first | exact HB.out | apply below_alloc | apply pw_below_drewN | apply below_drew1 | refine below_set ?_ GE266.out) | exact HB.out)) hb); clear BK266; clear HB; have BK266 := n0_; have HB := n1_; clear n0_ n1_; (try clear hb); (try clear hb2); (try clear hk); (try clear hi)) | ((with_reducible refine gate_dst (N := 10) rfl ?_); refine box_event ?hg (N := 10) ?hd (cs := #[.int .i64 0, .int .i64 0]) (t := 23) ?hr ?_; (case hd => rfl); (case hg => rfl); (case hr => first | (go_simp; done) | (go_simp; rfl)); intro gb270 hg w30 hbox hb; have n0_ := Aside0.mk (blk_below (g := gb266) (o := .cells #[.int .i64 a2_0, .int .i64 a2_1] 23 (0, 0)) (by (with_reducible repeat (first | refine blk_drewN ?_ _ | refine blk_drew ?_ | refine blk_alloc ?_ _)); exact BK266.out) hb); have n1_ := Aside0.mk (below_step (by repeat (first | (with_reducible first | exact HB.out | apply below_alloc | apply pw_below_drewN | apply below_drew1 | refine below_set ?_ GE266.out) | exact HB.out)) hb); have n2_ := Aside0.mk (hbox); have n3_ := Aside0.mk ((by rw [hg]; exact (below_size (by repeat (first | (with_reducible first | exact HB.out | apply below_alloc | apply pw_below_drewN | apply below_drew1 | refine below_set ?_ GE266.out) | exact HB.out))) : w.heap.size ≤ gb270)); have n4_ := Aside0.mk ((by rw [hg]; exact (below_size (by repeat (first | (with_reducible first | exact HB.out | apply below_alloc | apply pw_below_drewN | apply below_drew1 | refine below_set ?_ GE266.out) | exact HB.out))) : w.heap.size ≤ gb270)); have n5_ := Aside0.mk ((by rw [hg]; exact Nat.ne_of_lt (blk_lt (g := gb266) (o := .cells #[.int .i64 a2_0, .int .i64 a2_1] 23 (0, 0)) (by (with_reducible repeat (first | refine blk_drewN ?_ _ | refine blk_drew ?_ | refine blk_alloc ?_ _)); exact BK266.out)) : gb266 ≠ gb270)); have n6_ := Aside0.mk ((by rw [hg]; exact Nat.ne_of_gt (blk_lt (g := gb266) (o := .cells #[.int .i64 a2_0, .int .i64 a2_1] 23 (0, 0)) (by (with_reducible repeat (first | refine blk_drewN ?_ _ | refine blk_drew ?_ | refine blk_alloc ?_ _)); exact BK266.out)) : gb270 ≠ gb266)); clear BK266; clear HB; have BK266 := n0_; have HB := n1_; have BK270 := n2_; have GW270 := n3_; have GE270 := n4_; have NB266_270 := n5_; have NB270_266 := n6_; clear n0_ n1_ n2_ n3_ n4_ n5_ n6_; clear hb hbox hg; have hnb31 := NB270_266.out; have hnc31 := NB266_270.out; have hcz32_0 : w30.cell? ⟨gb270, 0, none⟩ = some (.int .i64 0) := (blk_cell BK270.out 0).trans rfl; have hcz32_1 : w30.cell? ⟨gb270, 1, none⟩ = some (.int .i64 0) := (blk_cell BK270.out 1).trans rfl; have hfz32_0 := blk_frozen BK270.out 0; have hfz32_1 := blk_frozen BK270.out 1; have hcz33_0 : w30.cell? ⟨gb266, 0, none⟩ = some (.int .i64 a2_0) := (blk_cell BK266.out 0).trans rfl; have hcz33_1 : w30.cell? ⟨gb266, 1, none⟩ = some (.int .i64 a2_1) := (blk_cell BK266.out 1).trans rfl; have hfz33_0 := blk_frozen BK266.out 0; have hfz33_1 := blk_frozen BK266.out 1) | ((with_reducible refine gate_callee (f := 30) rfl ?_); refine goesL_ (some 64) rfl rfl Try.func30 (by kernel_rfl) rfl #[.agg #[.int .i64 t268, .int .i64 t269], .agg #[.int .i64 a2_0, .int .i64 a2_1]] rfl (by (try simp only [List.map_toArray, List.map_cons, List.map_nil]); first | done | rfl | (simp only [List.length_drop, List.length_take]; rfl)) ?_; (with_reducible refine (span_Fit.calls t268 t269 a2_0 a2_1 t271 _ A25.out).mono ?_); rintro e w34 ⟨rfl, hb⟩; refine ⟨_, rfl, ?_⟩; have n0_ := Aside0.mk (blk_below (g := gb266) (o := .cells #[.int .i64 a2_0, .int .i64 a2_1] 23 (0, 0)) (by (with_reducible repeat (first | refine blk_drewN ?_ _ | refine blk_drew ?_ | refine blk_alloc ?_ _)); refine blk_far ?_ NB266_270.out _; (with_reducible repeat (first | refine blk_drewN ?_ _ | refine blk_drew ?_ | refine blk_alloc ?_ _)); refine blk_far ?_ NB266_270.out _; (with_reducible repeat (first | refine blk_drewN ?_ _ | refine blk_drew ?_ | refine blk_alloc ?_ _)); exact BK266.out) hb); have n1_ := Aside0.mk (blk_below (g := gb270) (o := .cells #[.int .i64 t268, .int .i64 t269] 23 (0, 0)) (by (with_reducible repeat (first | refine blk_drewN ?_ _ | refine blk_drew ?_ | refine blk_alloc ?_ _)); refine blk_put (cs := #[.int .i64 t268, .int .i64 0]) ?_ 1 _ rfl; (with_reducible repeat (first | refine blk_drewN ?_ _ | refine blk_drew ?_ | refine blk_alloc ?_ _)); refine blk_put (cs := #[.int .i64 0, .int .i64 0]) ?_ 0 _ rfl; (with_reducible repeat (first | refine blk_drewN ?_ _ | refine blk_drew ?_ | refine blk_alloc ?_ _)); exact BK270.out) hb); have n2_ := Aside0.mk (below_step (by repeat (first | (with_reducible first | exact HB.out | apply below_alloc | apply pw_below_drewN | apply below_drew1 | refine below_set ?_ GE266.out | refine below_set ?_ GE270.out) | exact HB.out)) hb); clear BK266; clear BK270; clear HB; have BK266 := n0_; have BK270 := n1_; have HB := n2_; clear n0_ n1_ n2_; (try clear hb); (try clear hb2); (try clear hk); (try clear hi); have hcz35_0 : w34.cell? ⟨gb270, 0, none⟩ = some (.int .i64 t268) := (blk_cell BK270.out 0).trans rfl; have hcz35_1 : w34.cell? ⟨gb270, 1, none⟩ = some (.int .i64 t269) := (blk_cell BK270.out 1).trans rfl; have hfz35_0 := blk_frozen BK270.out 0; have hfz35_1 := blk_frozen BK270.out 1) | ((with_reducible refine gate_callee (f := 28) rfl ?_); refine goesL_ (some 67) rfl rfl Try.func28 (by kernel_rfl) rfl #[.agg #[.int .i64 t268, .int .i64 t269], .int .i64 t271] rfl (by (try simp only [List.map_toArray, List.map_cons, List.map_nil]); first | done | rfl | (simp only [List.length_drop, List.length_take]; rfl)) ?_; (with_reducible refine (span_Move.calls t268 t269 t271 t272 t273 _ A26.out).mono ?_); rintro e w36 ⟨rfl, hb⟩; refine ⟨_, rfl, ?_⟩; have n0_ := Aside0.mk (blk_below (g := gb266) (o := .cells #[.int .i64 a2_0, .int .i64 a2_1] 23 (0, 0)) (by (with_reducible repeat (first | refine blk_drewN ?_ _ | refine blk_drew ?_ | refine blk_alloc ?_ _)); exact BK266.out) hb); have n1_ := Aside0.mk (blk_below (g := gb270) (o := .cells #[.int .i64 t268, .int .i64 t269] 23 (0, 0)) (by (with_reducible repeat (first | refine blk_drewN ?_ _ | refine blk_drew ?_ | refine blk_alloc ?_ _)); exact BK270.out) hb); have n2_ := Aside0.mk (below_step (by repeat (first | (with_reducible first | exact HB.out | apply below_alloc | apply pw_below_drewN | apply below_drew1 | refine below_set ?_ GE266.out | refine below_set ?_ GE270.out) | exact HB.out)) hb); clear BK266; clear BK270; clear HB; have BK266 := n0_; have BK270 := n1_; have HB := n2_; clear n0_ n1_ n2_; (try clear hb); (try clear hb2); (try clear hk); (try clear hi)) | ((with_reducible refine gate_dst (N := 12) rfl ?_); refine box_event ?hg (N := 12) ?hd (cs := #[.int .i64 0, .int .i64 0]) (t := 23) ?hr ?_; (case hd => rfl); (case hg => rfl); (case hr => first | (go_simp; done) | (go_simp; rfl)); intro gb274 hg w37 hbox hb; have n0_ := Aside0.mk (blk_below (g := gb266) (o := .cells #[.int .i64 a2_0, .int .i64 a2_1] 23 (0, 0)) (by (with_reducible repeat (first | refine blk_drewN ?_ _ | refine blk_drew ?_ | refine blk_alloc ?_ _)); exact BK266.out) hb); have n1_ := Aside0.mk (blk_below (g := gb270) (o := .cells #[.int .i64 t268, .int .i64 t269] 23 (0, 0)) (by (with_reducible repeat (first | refine blk_drewN ?_ _ | refine blk_drew ?_ | refine blk_alloc ?_ _)); exact BK270.out) hb); have n2_ := Aside0.mk (below_step (by repeat (first | (with_reducible first | exact HB.out | apply below_alloc | apply pw_below_drewN | apply below_drew1 | refine below_set ?_ GE266.out | refine below_set ?_ GE270.out) | exact HB.out)) hb); have n3_ := Aside0.mk (hbox); have n4_ := Aside0.mk ((by rw [hg]; exact (below_size (by repeat (first | (with_reducible first | exact HB.out | apply below_alloc | apply pw_below_drewN | apply below_drew1 | refine below_set ?_ GE266.out | refine below_set ?_ GE270.out) | exact HB.out))) : w.heap.size ≤ gb274)); have n5_ := Aside0.mk ((by rw [hg]; exact (below_size (by repeat (first | (with_reducible first | exact HB.out | apply below_alloc | apply pw_below_drewN | apply below_drew1 | refine below_set ?_ GE266.out | refine below_set ?_ GE270.out) | exact HB.out))) : w.heap.size ≤ gb274)); have n6_ := Aside0.mk ((by rw [hg]; exact Nat.ne_of_lt (blk_lt (g := gb266) (o := .cells #[.int .i64 a2_0, .int .i64 a2_1] 23 (0, 0)) (by (with_reducible repeat (first | refine blk_drewN ?_ _ | refine blk_drew ?_ | refine blk_alloc ?_ _)); exact BK266.out)) : gb266 ≠ gb274)); have n7_ := Aside0.mk ((by rw [hg]; exact Nat.ne_of_gt (blk_lt (g := gb266) (o := .cells #[.int .i64 a2_0, .int .i64 a2_1] 23 (0, 0)) (by (with_reducible repeat (first | refine blk_drewN ?_ _ | refine blk_drew ?_ | refine blk_alloc ?_ _)); exact BK266.out)) : gb274 ≠ gb266)); have n8_ := Aside0.mk ((by rw [hg]; exact Nat.ne_of_lt (blk_lt (g := gb270) (o := .cells #[.int .i64 t268, .int .i64 t269] 23 (0, 0)) (by (with_reducible repeat (first | refine blk_drewN ?_ _ | refine blk_drew ?_ | refine blk_alloc ?_ _)); exact BK270.out)) : gb270 ≠ gb274)); have n9_ := Aside0.mk ((by rw [hg]; exact Nat.ne_of_gt (blk_lt (g := gb270) (o := .cells #[.int .i64 t268, .int .i64 t269] 23 (0, 0)) (by (with_reducible repeat (first | refine blk_drewN ?_ _ | refine blk_drew ?_ | refine blk_alloc ?_ _)); exact BK270.out)) : gb274 ≠ gb270)); clear BK266; clear BK270; clear HB; have BK266 := n0_; have BK270 := n1_; have HB := n2_; have BK274 := n3_; have GW274 := n4_; have GE274 := n5_; have NB266_274 := n6_; have NB274_266 := n7_; have NB270_274 := n8_; have NB274_270 := n9_; clear n0_ n1_ n2_ n3_ n4_ n5_ n6_ n7_ n8_ n9_; clear hb hbox hg; have hnb38 := NB274_266.out; have hnc38 := NB266_274.out; have hnb39 := NB274_270.out; have hnc39 := NB270_274.out; have hcz40_0 : w37.cell? ⟨gb274, 0, none⟩ = some (.int .i64 0) := (blk_cell BK274.out 0).trans rfl; have hcz40_1 : w37.cell? ⟨gb274, 1, none⟩ = some (.int .i64 0) := (blk_cell BK274.out 1).trans rfl; have hfz40_0 := blk_frozen BK274.out 0; have hfz40_1 := blk_frozen BK274.out 1; have hcz41_0 : w37.cell? ⟨gb266, 0, none⟩ = some (.int .i64 a2_0) := (blk_cell BK266.out 0).trans rfl; have hcz41_1 : w37.cell? ⟨gb266, 1, none⟩ = some (.int .i64 a2_1) := (blk_cell BK266.out 1).trans rfl; have hfz41_0 := blk_frozen BK266.out 0; have hfz41_1 := blk_frozen BK266.out 1))
                  go_ret
                  exact ⟨by first | rfl | (cases Option.some.inj (A120.out.symm.trans A108.out); rfl) | (cases Option.some.inj (A108.out.symm.trans A120.out); rfl) | (simp [errW_none, errW_some] <;> rfl) | (simp [*, errW_none, errW_some] <;> rfl), by repeat (first | (with_reducible first | exact HB.out | apply below_alloc | apply pw_below_drewN | apply below_drew1 | refine below_set ?_ GE266.out | refine below_set ?_ GE270.out | refine below_set ?_ GE274.out) | exact HB.out)⟩
              · exact absurd rfl c28
            · rw [if_neg c27] at H
              have c27b0 : decide ((wrap64 (a2_1 - a2_0)) < a1) = false := decide_eq_false c27
              clear c27
              replace H := Option.bind_eq_some_iff.mp H
              obtain ⟨⟨t275, t276⟩, A420, H⟩ := H
              replace H : (if t275 ≥ a2_0 then (valancelaw03_SpanFits.j1 kj6 a1 a3 true t271 (decide (t276 ≤ a2_1)) a2_0 a2_1 t272 t273) else (valancelaw03_SpanFits.j1 kj6 a1 a3 true t271 false a2_0 a2_1 t272 t273)) = some r := H
              have A42 := Aside0.mk A420
              clear A420
              have HC43 := Aside0.mk H
              clear H
              go_upto_region 12 with (first | ((with_reducible refine gate_callee (f := 16) rfl ?_); refine goesL_ (some 61) rfl rfl Try.func16 (by kernel_rfl) rfl #[.int .i64 a0, .int .i64 a1] rfl (by (try simp only [List.map_toArray, List.map_cons, List.map_nil]); first | done | rfl | (simp only [List.length_drop, List.length_take]; rfl)) ?_; (with_reducible refine (span_Of.calls a0 a1 t268 t269 _ A24.out).mono ?_); rintro e w44 ⟨rfl, hb⟩; refine ⟨_, rfl, ?_⟩; have n0_ := Aside0.mk (blk_below (g := gb266) (o := .cells #[.int .i64 a2_0, .int .i64 a2_1] 23 (0, 0)) (by (with_reducible repeat (first | refine blk_drewN ?_ _ | refine blk_drew ?_ | refine blk_alloc ?_ _)); exact BK266.out) hb); have n1_ := Aside0.mk (below_step (by repeat (first | (with_reducible first | exact HB.out | apply below_alloc | apply pw_below_drewN | apply below_drew1 | refine below_set ?_ GE266.out) | exact HB.out)) hb); clear BK266; clear HB; have BK266 := n0_; have HB := n1_; clear n0_ n1_; (try clear hb); (try clear hb2); (try clear hk); (try clear hi)) | ((with_reducible refine gate_dst (N := 10) rfl ?_); refine box_event ?hg (N := 10) ?hd (cs := #[.int .i64 0, .int .i64 0]) (t := 23) ?hr ?_; (case hd => rfl); (case hg => rfl); (case hr => first | (go_simp; done) | (go_simp; rfl)); intro gb270 hg w45 hbox hb; have n0_ := Aside0.mk (blk_below (g := gb266) (o := .cells #[.int .i64 a2_0, .int .i64 a2_1] 23 (0, 0)) (by (with_reducible repeat (first | refine blk_drewN ?_ _ | refine blk_drew ?_ | refine blk_alloc ?_ _)); exact BK266.out) hb); have n1_ := Aside0.mk (below_step (by repeat (first | (with_reducible first | exact HB.out | apply below_alloc | apply pw_below_drewN | apply below_drew1 | refine below_set ?_ GE266.out) | exact HB.out)) hb); have n2_ := Aside0.mk (hbox); have n3_ := Aside0.mk ((by rw [hg]; exact (below_size (by repeat (first | (with_reducible first | exact HB.out | apply below_alloc | apply pw_below_drewN | apply below_drew1 | refine below_set ?_ GE266.out) | exact HB.out))) : w.heap.size ≤ gb270)); have n4_ := Aside0.mk ((by rw [hg]; exact (below_size (by repeat (first | (with_reducible first | exact HB.out | apply below_alloc | apply pw_below_drewN | apply below_drew1 | refine below_set ?_ GE266.out) | exact HB.out))) : w.heap.size ≤ gb270)); have n5_ := Aside0.mk ((by rw [hg]; exact Nat.ne_of_lt (blk_lt (g := gb266) (o := .cells #[.int .i64 a2_0, .int .i64 a2_1] 23 (0, 0)) (by (with_reducible repeat (first | refine blk_drewN ?_ _ | refine blk_drew ?_ | refine blk_alloc ?_ _)); exact BK266.out)) : gb266 ≠ gb270)); have n6_ := Aside0.mk ((by rw [hg]; exact Nat.ne_of_gt (blk_lt (g := gb266) (o := .cells #[.int .i64 a2_0, .int .i64 a2_1] 23 (0, 0)) (by (with_reducible repeat (first | refine blk_drewN ?_ _ | refine blk_drew ?_ | refine blk_alloc ?_ _)); exact BK266.out)) : gb270 ≠ gb266)); clear BK266; clear HB; have BK266 := n0_; have HB := n1_; have BK270 := n2_; have GW270 := n3_; have GE270 := n4_; have NB266_270 := n5_; have NB270_266 := n6_; clear n0_ n1_ n2_ n3_ n4_ n5_ n6_; clear hb hbox hg; have hnb46 := NB270_266.out; have hnc46 := NB266_270.out; have hcz47_0 : w45.cell? ⟨gb270, 0, none⟩ = some (.int .i64 0) := (blk_cell BK270.out 0).trans rfl; have hcz47_1 : w45.cell? ⟨gb270, 1, none⟩ = some (.int .i64 0) := (blk_cell BK270.out 1).trans rfl; have hfz47_0 := blk_frozen BK270.out 0; have hfz47_1 := blk_frozen BK270.out 1; have hcz48_0 : w45.cell? ⟨gb266, 0, none⟩ = some (.int .i64 a2_0) := (blk_cell BK266.out 0).trans rfl; have hcz48_1 : w45.cell? ⟨gb266, 1, none⟩ = some (.int .i64 a2_1) := (blk_cell BK266.out 1).trans rfl; have hfz48_0 := blk_frozen BK266.out 0; have hfz48_1 := blk_frozen BK266.out 1) | ((with_reducible refine gate_callee (f := 30) rfl ?_); refine goesL_ (some 64) rfl rfl Try.func30 (by kernel_rfl) rfl #[.agg #[.int .i64 t268, .int .i64 t269], .agg #[.int .i64 a2_0, .int .i64 a2_1]] rfl (by (try simp only [List.map_toArray, List.map_cons, List.map_nil]); first | done | rfl | (simp only [List.length_drop, List.length_take]; rfl)) ?_; (with_reducible refine (span_Fit.calls t268 t269 a2_0 a2_1 t271 _ A25.out).mono ?_); rintro e w49 ⟨rfl, hb⟩; refine ⟨_, rfl, ?_⟩; have n0_ := Aside0.mk (blk_below (g := gb266) (o := .cells #[.int .i64 a2_0, .int .i64 a2_1] 23 (0, 0)) (by (with_reducible repeat (first | refine blk_drewN ?_ _ | refine blk_drew ?_ | refine blk_alloc ?_ _)); refine blk_far ?_ NB266_270.out _; (with_reducible repeat (first | refine blk_drewN ?_ _ | refine blk_drew ?_ | refine blk_alloc ?_ _)); refine blk_far ?_ NB266_270.out _; (with_reducible repeat (first | refine blk_drewN ?_ _ | refine blk_drew ?_ | refine blk_alloc ?_ _)); exact BK266.out) hb); have n1_ := Aside0.mk (blk_below (g := gb270) (o := .cells #[.int .i64 t268, .int .i64 t269] 23 (0, 0)) (by (with_reducible repeat (first | refine blk_drewN ?_ _ | refine blk_drew ?_ | refine blk_alloc ?_ _)); refine blk_put (cs := #[.int .i64 t268, .int .i64 0]) ?_ 1 _ rfl; (with_reducible repeat (first | refine blk_drewN ?_ _ | refine blk_drew ?_ | refine blk_alloc ?_ _)); refine blk_put (cs := #[.int .i64 0, .int .i64 0]) ?_ 0 _ rfl; (with_reducible repeat (first | refine blk_drewN ?_ _ | refine blk_drew ?_ | refine blk_alloc ?_ _)); exact BK270.out) hb); have n2_ := Aside0.mk (below_step (by repeat (first | (with_reducible first | exact HB.out | apply below_alloc | apply pw_below_drewN | apply below_drew1 | refine below_set ?_ GE266.out | refine below_set ?_ GE270.out) | exact HB.out)) hb); clear BK266; clear BK270; clear HB; have BK266 := n0_; have BK270 := n1_; have HB := n2_; clear n0_ n1_ n2_; (try clear hb); (try clear hb2); (try clear hk); (try clear hi); have hcz50_0 : w49.cell? ⟨gb270, 0, none⟩ = some (.int .i64 t268) := (blk_cell BK270.out 0).trans rfl; have hcz50_1 : w49.cell? ⟨gb270, 1, none⟩ = some (.int .i64 t269) := (blk_cell BK270.out 1).trans rfl; have hfz50_0 := blk_frozen BK270.out 0; have hfz50_1 := blk_frozen BK270.out 1) | ((with_reducible refine gate_callee (f := 28) rfl ?_); refine goesL_ (some 67) rfl rfl Try.func28 (by kernel_rfl) rfl #[.agg #[.int .i64 t268, .int .i64 t269], .int .i64 t271] rfl (by (try simp only [List.map_toArray, List.map_cons, List.map_nil]); first | done | rfl | (simp only [List.length_drop, List.length_take]; rfl)) ?_; (with_reducible refine (span_Move.calls t268 t269 t271 t272 t273 _ A26.out).mono ?_); rintro e w51 ⟨rfl, hb⟩; refine ⟨_, rfl, ?_⟩; have n0_ := Aside0.mk (blk_below (g := gb266) (o := .cells #[.int .i64 a2_0, .int .i64 a2_1] 23 (0, 0)) (by (with_reducible repeat (first | refine blk_drewN ?_ _ | refine blk_drew ?_ | refine blk_alloc ?_ _)); exact BK266.out) hb); have n1_ := Aside0.mk (blk_below (g := gb270) (o := .cells #[.int .i64 t268, .int .i64 t269] 23 (0, 0)) (by (with_reducible repeat (first | refine blk_drewN ?_ _ | refine blk_drew ?_ | refine blk_alloc ?_ _)); exact BK270.out) hb); have n2_ := Aside0.mk (below_step (by repeat (first | (with_reducible first | exact HB.out | apply below_alloc | apply pw_below_drewN | apply below_drew1 | refine below_set ?_ GE266.out | refine below_set ?_ GE270.out) | exact HB.out)) hb); clear BK266; clear BK270; clear HB; have BK266 := n0_; have BK270 := n1_; have HB := n2_; clear n0_ n1_ n2_; (try clear hb); (try clear hb2); (try clear hk); (try clear hi)) | ((with_reducible refine gate_dst (N := 12) rfl ?_); refine box_event ?hg (N := 12) ?hd (cs := #[.int .i64 0, .int .i64 0]) (t := 23) ?hr ?_; (case hd => rfl); (case hg => rfl); (case hr => first | (go_simp; done) | (go_simp; rfl)); intro gb274 hg w52 hbox hb; have n0_ := Aside0.mk (blk_below (g := gb266) (o := .cells #[.int .i64 a2_0, .int .i64 a2_1] 23 (0, 0)) (by (with_reducible repeat (first | refine blk_drewN ?_ _ | refine blk_drew ?_ | refine blk_alloc ?_ _)); exact BK266.out) hb); have n1_ := Aside0.mk (blk_below (g := gb270) (o := .cells #[.int .i64 t268, .int .i64 t269] 23 (0, 0)) (by (with_reducible repeat (first | refine blk_drewN ?_ _ | refine blk_drew ?_ | refine blk_alloc ?_ _)); exact BK270.out) hb); have n2_ := Aside0.mk (below_step (by repeat (first | (with_reducible first | exact HB.out | apply below_alloc | apply pw_below_drewN | apply below_drew1 | refine below_set ?_ GE266.out | refine below_set ?_ GE270.out) | exact HB.out)) hb); have n3_ := Aside0.mk (hbox); have n4_ := Aside0.mk ((by rw [hg]; exact (below_size (by repeat (first | (with_reducible first | exact HB.out | apply below_alloc | apply pw_below_drewN | apply below_drew1 | refine below_set ?_ GE266.out | refine below_set ?_ GE270.out) | exact HB.out))) : w.heap.size ≤ gb274)); have n5_ := Aside0.mk ((by rw [hg]; exact (below_size (by repeat (first | (with_reducible first | exact HB.out | apply below_alloc | apply pw_below_drewN | apply below_drew1 | refine below_set ?_ GE266.out | refine below_set ?_ GE270.out) | exact HB.out))) : w.heap.size ≤ gb274)); have n6_ := Aside0.mk ((by rw [hg]; exact Nat.ne_of_lt (blk_lt (g := gb266) (o := .cells #[.int .i64 a2_0, .int .i64 a2_1] 23 (0, 0)) (by (with_reducible repeat (first | refine blk_drewN ?_ _ | refine blk_drew ?_ | refine blk_alloc ?_ _)); exact BK266.out)) : gb266 ≠ gb274)); have n7_ := Aside0.mk ((by rw [hg]; exact Nat.ne_of_gt (blk_lt (g := gb266) (o := .cells #[.int .i64 a2_0, .int .i64 a2_1] 23 (0, 0)) (by (with_reducible repeat (first | refine blk_drewN ?_ _ | refine blk_drew ?_ | refine blk_alloc ?_ _)); exact BK266.out)) : gb274 ≠ gb266)); have n8_ := Aside0.mk ((by rw [hg]; exact Nat.ne_of_lt (blk_lt (g := gb270) (o := .cells #[.int .i64 t268, .int .i64 t269] 23 (0, 0)) (by (with_reducible repeat (first | refine blk_drewN ?_ _ | refine blk_drew ?_ | refine blk_alloc ?_ _)); exact BK270.out)) : gb270 ≠ gb274)); have n9_ := Aside0.mk ((by rw [hg]; exact Nat.ne_of_gt (blk_lt (g := gb270) (o := .cells #[.int .i64 t268, .int .i64 t269] 23 (0, 0)) (by (with_reducible repeat (first | refine blk_drewN ?_ _ | refine blk_drew ?_ | refine blk_alloc ?_ _)); exact BK270.out)) : gb274 ≠ gb270)); clear BK266; clear BK270; clear HB; have BK266 := n0_; have BK270 := n1_; have HB := n2_; have BK274 := n3_; have GW274 := n4_; have GE274 := n5_; have NB266_274 := n6_; have NB274_266 := n7_; have NB270_274 := n8_; have NB274_270 := n9_; clear n0_ n1_ n2_ n3_ n4_ n5_ n6_ n7_ n8_ n9_; clear hb hbox hg; have hnb53 := NB274_266.out; have hnc53 := NB266_274.out; have hnb54 := NB274_270.out; have hnc54 := NB270_274.out; have hcz55_0 : w52.cell? ⟨gb274, 0, none⟩ = some (.int .i64 0) := (blk_cell BK274.out 0).trans rfl; have hcz55_1 : w52.cell? ⟨gb274, 1, none⟩ = some (.int .i64 0) := (blk_cell BK274.out 1).trans rfl; have hfz55_0 := blk_frozen BK274.out 0; have hfz55_1 := blk_frozen BK274.out 1; have hcz56_0 : w52.cell? ⟨gb266, 0, none⟩ = some (.int .i64 a2_0) := (blk_cell BK266.out 0).trans rfl; have hcz56_1 : w52.cell? ⟨gb266, 1, none⟩ = some (.int .i64 a2_1) := (blk_cell BK266.out 1).trans rfl; have hfz56_0 := blk_frozen BK266.out 0; have hfz56_1 := blk_frozen BK266.out 1; have hcz57_0 : w52.cell? ⟨gb270, 0, none⟩ = some (.int .i64 t268) := (blk_cell BK270.out 0).trans rfl; have hcz57_1 : w52.cell? ⟨gb270, 1, none⟩ = some (.int .i64 t269) := (blk_cell BK270.out 1).trans rfl; have hfz57_0 := blk_frozen BK270.out 0; have hfz57_1 := blk_frozen BK270.out 1) | ((with_reducible refine gate_callee (f := 28) rfl ?_); refine goesL_ (some 85) rfl rfl Try.func28 (by kernel_rfl) rfl #[.agg #[.int .i64 t268, .int .i64 t269], .int .i64 a3] rfl (by (try simp only [List.map_toArray, List.map_cons, List.map_nil]); first | done | rfl | (simp only [List.length_drop, List.length_take]; rfl)) ?_; (with_reducible refine (span_Move.calls t268 t269 a3 t275 t276 _ A42.out).mono ?_); rintro e w58 ⟨rfl, hb⟩; refine ⟨_, rfl, ?_⟩; have n0_ := Aside0.mk (blk_below (g := gb266) (o := .cells #[.int .i64 a2_0, .int .i64 a2_1] 23 (0, 0)) (by (with_reducible repeat (first | refine blk_drewN ?_ _ | refine blk_drew ?_ | refine blk_alloc ?_ _)); refine blk_far ?_ NB266_274.out _; (with_reducible repeat (first | refine blk_drewN ?_ _ | refine blk_drew ?_ | refine blk_alloc ?_ _)); refine blk_far ?_ NB266_274.out _; (with_reducible repeat (first | refine blk_drewN ?_ _ | refine blk_drew ?_ | refine blk_alloc ?_ _)); exact BK266.out) hb); have n1_ := Aside0.mk (blk_below (g := gb270) (o := .cells #[.int .i64 t268, .int .i64 t269] 23 (0, 0)) (by (with_reducible repeat (first | refine blk_drewN ?_ _ | refine blk_drew ?_ | refine blk_alloc ?_ _)); refine blk_far ?_ NB270_274.out _; (with_reducible repeat (first | refine blk_drewN ?_ _ | refine blk_drew ?_ | refine blk_alloc ?_ _)); refine blk_far ?_ NB270_274.out _; (with_reducible repeat (first | refine blk_drewN ?_ _ | refine blk_drew ?_ | refine blk_alloc ?_ _)); exact BK270.out) hb); have n2_ := Aside0.mk (blk_below (g := gb274) (o := .cells #[.int .i64 t272, .int .i64 t273] 23 (0, 0)) (by (with_reducible repeat (first | refine blk_drewN ?_ _ | refine blk_drew ?_ | refine blk_alloc ?_ _)); refine blk_put (cs := #[.int .i64 t272, .int .i64 0]) ?_ 1 _ rfl; (with_reducible repeat (first | refine blk_drewN ?_ _ | refine blk_drew ?_ | refine blk_alloc ?_ _)); refine blk_put (cs := #[.int .i64 0, .int .i64 0]) ?_ 0 _ rfl; (with_reducible repeat (first | refine blk_drewN ?_ _ | refine blk_drew ?_ | refine blk_alloc ?_ _)); exact BK274.out) hb); have n3_ := Aside0.mk (below_step (by repeat (first | (with_reducible first | exact HB.out | apply below_alloc | apply pw_below_drewN | apply below_drew1 | refine below_set ?_ GE266.out | refine below_set ?_ GE270.out | refine below_set ?_ GE274.out) | exact HB.out)) hb); clear BK266; clear BK270; clear BK274; clear HB; have BK266 := n0_; have BK270 := n1_; have BK274 := n2_; have HB := n3_; clear n0_ n1_ n2_ n3_; (try clear hb); (try clear hb2); (try clear hk); (try clear hi)) | ((with_reducible refine gate_dst (N := 13) rfl ?_); refine box_event ?hg (N := 13) ?hd (cs := #[.int .i64 0, .int .i64 0]) (t := 23) ?hr ?_; (case hd => rfl); (case hg => rfl); (case hr => first | (go_simp; done) | (go_simp; rfl)); intro gb277 hg w59 hbox hb; have n0_ := Aside0.mk (blk_below (g := gb266) (o := .cells #[.int .i64 a2_0, .int .i64 a2_1] 23 (0, 0)) (by (with_reducible repeat (first | refine blk_drewN ?_ _ | refine blk_drew ?_ | refine blk_alloc ?_ _)); exact BK266.out) hb); have n1_ := Aside0.mk (blk_below (g := gb270) (o := .cells #[.int .i64 t268, .int .i64 t269] 23 (0, 0)) (by (with_reducible repeat (first | refine blk_drewN ?_ _ | refine blk_drew ?_ | refine blk_alloc ?_ _)); exact BK270.out) hb); have n2_ := Aside0.mk (blk_below (g := gb274) (o := .cells #[.int .i64 t272, .int .i64 t273] 23 (0, 0)) (by (with_reducible repeat (first | refine blk_drewN ?_ _ | refine blk_drew ?_ | refine blk_alloc ?_ _)); exact BK274.out) hb); have n3_ := Aside0.mk (below_step (by repeat (first | (with_reducible first | exact HB.out | apply below_alloc | apply pw_below_drewN | apply below_drew1 | refine below_set ?_ GE266.out | refine below_set ?_ GE270.out | refine below_set ?_ GE274.out) | exact HB.out)) hb); have n4_ := Aside0.mk (hbox); have n5_ := Aside0.mk ((by rw [hg]; exact (below_size (by repeat (first | (with_reducible first | exact HB.out | apply below_alloc | apply pw_below_drewN | apply below_drew1 | refine below_set ?_ GE266.out | refine below_set ?_ GE270.out | refine below_set ?_ GE274.out) | exact HB.out))) : w.heap.size ≤ gb277)); have n6_ := Aside0.mk ((by rw [hg]; exact (below_size (by repeat (first | (with_reducible first | exact HB.out | apply below_alloc | apply pw_below_drewN | apply below_drew1 | refine below_set ?_ GE266.out | refine below_set ?_ GE270.out | refine below_set ?_ GE274.out) | exact HB.out))) : w.heap.size ≤ gb277)); have n7_ := Aside0.mk ((by rw [hg]; exact Nat.ne_of_lt (blk_lt (g := gb266) (o := .cells #[.int .i64 a2_0, .int .i64 a2_1] 23 (0, 0)) (by (with_reducible repeat (first | refine blk_drewN ?_ _ | refine blk_drew ?_ | refine blk_alloc ?_ _)); exact BK266.out)) : gb266 ≠ gb277)); have n8_ := Aside0.mk ((by rw [hg]; exact Nat.ne_of_gt (blk_lt (g := gb266) (o := .cells #[.int .i64 a2_0, .int .i64 a2_1] 23 (0, 0)) (by (with_reducible repeat (first | refine blk_drewN ?_ _ | refine blk_drew ?_ | refine blk_alloc ?_ _)); exact BK266.out)) : gb277 ≠ gb266)); have n9_ := Aside0.mk ((by rw [hg]; exact Nat.ne_of_lt (blk_lt (g := gb270) (o := .cells #[.int .i64 t268, .int .i64 t269] 23 (0, 0)) (by (with_reducible repeat (first | refine blk_drewN ?_ _ | refine blk_drew ?_ | refine blk_alloc ?_ _)); exact BK270.out)) : gb270 ≠ gb277)); have n10_ := Aside0.mk ((by rw [hg]; exact Nat.ne_of_gt (blk_lt (g := gb270) (o := .cells #[.int .i64 t268, .int .i64 t269] 23 (0, 0)) (by (with_reducible repeat (first | refine blk_drewN ?_ _ | refine blk_drew ?_ | refine blk_alloc ?_ _)); exact BK270.out)) : gb277 ≠ gb270)); have n11_ := Aside0.mk ((by rw [hg]; exact Nat.ne_of_lt (blk_lt (g := gb274) (o := .cells #[.int .i64 t272, .int .i64 t273] 23 (0, 0)) (by (with_reducible repeat (first | refine blk_drewN ?_ _ | refine blk_drew ?_ | refine blk_alloc ?_ _)); exact BK274.out)) : gb274 ≠ gb277)); have n12_ := Aside0.mk ((by rw [hg]; exact Nat.ne_of_gt (blk_lt (g := gb274) (o := .cells #[.int .i64 t272, .int .i64 t273] 23 (0, 0)) (by (with_reducible repeat (first | refine blk_drewN ?_ _ | refine blk_drew ?_ | refine blk_alloc ?_ _)); exact BK274.out)) : gb277 ≠ gb274)); clear BK266; clear BK270; clear BK274; clear HB; have BK266 := n0_; have BK270 := n1_; have BK274 := n2_; have HB := n3_; have BK277 := n4_; have GW277 := n5_; have GE277 := n6_; have NB266_277 := n7_; have NB277_266 := n8_; have NB270_277 := n9_; have NB277_270 := n10_; have NB274_277 := n11_; have NB277_274 := n12_; clear n0_ n1_ n2_ n3_ n4_ n5_ n6_ n7_ n8_ n9_ n10_ n11_ n12_; clear hb hbox hg; have hnb60 := NB277_266.out; have hnc60 := NB266_277.out; have hnb61 := NB277_270.out; have hnc61 := NB270_277.out; have hnb62 := NB277_274.out; have hnc62 := NB274_277.out; have hcz63_0 : w59.cell? ⟨gb277, 0, none⟩ = some (.int .i64 0) := (blk_cell BK277.out 0).trans rfl; have hcz63_1 : w59.cell? ⟨gb277, 1, none⟩ = some (.int .i64 0) := (blk_cell BK277.out 1).trans rfl; have hfz63_0 := blk_frozen BK277.out 0; have hfz63_1 := blk_frozen BK277.out 1))
              (try simp only [Act.put, List.setIfInBounds_toArray, List.set_cons_zero, List.set_cons_succ])
              go_cut [14] (fun v14 wc => ∃ (kq : Nat) (x14_42 : Bool), v14 = .bool x14_42 ∧ Aside0 (valancelaw03_SpanFits.j1 kq a1 a3 true t271 x14_42 a2_0 a2_1 t272 t273 = some r) ∧ Aside0 (kq ≤ kj6) ∧ Aside0 (wc.heap[gb266]? = some (.cells #[.int .i64 a2_0, .int .i64 a2_1] 23 (0, 0))) ∧ Aside0 (wc.heap[gb270]? = some (.cells #[.int .i64 t268, .int .i64 t269] 23 (0, 0))) ∧ Aside0 (wc.heap[gb274]? = some (.cells #[.int .i64 t272, .int .i64 t273] 23 (0, 0))) ∧ Aside0 (wc.heap[gb277]? = some (.cells #[.int .i64 t275, .int .i64 t276] 23 (0, 0))) ∧ Aside0 (Below w.heap.size w wc))
              case first =>
                as_aux_lemma =>
                  have H := HC43.out
                  clear HC43
                  by_cases c64 : t275 ≥ a2_0
                  · rw [if_pos c64] at H
                    have c64b0 : decide (a2_0 ≤ t275) = true := decide_eq_true c64
                    clear c64
                    (first | rw [c64b0] | (simp only [i64_w, i32_w]; rw [c64b0]) | skip)
                    have H' := Aside0.mk H
                    clear H
                    have hnb65 := NB277_266.out
                    have hnc65 := NB266_277.out
                    have hnb66 := NB277_270.out
                    have hnc66 := NB270_277.out
                    have hnb67 := NB277_274.out
                    have hnc67 := NB274_277.out
                    have hcz68_0 : w59.cell? ⟨gb277, 0, none⟩ = some (.int .i64 0) := (blk_cell BK277.out 0).trans rfl
                    have hcz68_1 : w59.cell? ⟨gb277, 1, none⟩ = some (.int .i64 0) := (blk_cell BK277.out 1).trans rfl
                    have hfz68_0 := blk_frozen BK277.out 0
                    have hfz68_1 := blk_frozen BK277.out 1
                    have hnb69 := NB266_270.out
                    have hnc69 := NB270_266.out
                    have hnb70 := NB266_274.out
                    have hnc70 := NB274_266.out
                    have hcz71_0 : w59.cell? ⟨gb266, 0, none⟩ = some (.int .i64 a2_0) := (blk_cell BK266.out 0).trans rfl
                    have hcz71_1 : w59.cell? ⟨gb266, 1, none⟩ = some (.int .i64 a2_1) := (blk_cell BK266.out 1).trans rfl
                    have hfz71_0 := blk_frozen BK266.out 0
                    have hfz71_1 := blk_frozen BK266.out 1
                    go_wp2
                    go_meet
                    case rel => exact ⟨_, (decide (t276 ≤ a2_1)), (by first | rfl | (simp; done) | (simp [*]; done)), H', ⟨by have := HJ6.out; first | omega | exact Nat.le_refl _⟩, ⟨by (with_reducible repeat (first | refine blk_drewN ?_ _ | refine blk_drew ?_ | refine blk_alloc ?_ _)); refine blk_far ?_ NB266_277.out _; (with_reducible repeat (first | refine blk_drewN ?_ _ | refine blk_drew ?_ | refine blk_alloc ?_ _)); refine blk_far ?_ NB266_277.out _; (with_reducible repeat (first | refine blk_drewN ?_ _ | refine blk_drew ?_ | refine blk_alloc ?_ _)); exact BK266.out⟩, ⟨by (with_reducible repeat (first | refine blk_drewN ?_ _ | refine blk_drew ?_ | refine blk_alloc ?_ _)); refine blk_far ?_ NB270_277.out _; (with_reducible repeat (first | refine blk_drewN ?_ _ | refine blk_drew ?_ | refine blk_alloc ?_ _)); refine blk_far ?_ NB270_277.out _; (with_reducible repeat (first | refine blk_drewN ?_ _ | refine blk_drew ?_ | refine blk_alloc ?_ _)); exact BK270.out⟩, ⟨by (with_reducible repeat (first | refine blk_drewN ?_ _ | refine blk_drew ?_ | refine blk_alloc ?_ _)); refine blk_far ?_ NB274_277.out _; (with_reducible repeat (first | refine blk_drewN ?_ _ | refine blk_drew ?_ | refine blk_alloc ?_ _)); refine blk_far ?_ NB274_277.out _; (with_reducible repeat (first | refine blk_drewN ?_ _ | refine blk_drew ?_ | refine blk_alloc ?_ _)); exact BK274.out⟩, ⟨by (with_reducible repeat (first | refine blk_drewN ?_ _ | refine blk_drew ?_ | refine blk_alloc ?_ _)); refine blk_put (cs := #[.int .i64 t275, .int .i64 0]) ?_ 1 _ rfl; (with_reducible repeat (first | refine blk_drewN ?_ _ | refine blk_drew ?_ | refine blk_alloc ?_ _)); refine blk_put (cs := #[.int .i64 0, .int .i64 0]) ?_ 0 _ rfl; (with_reducible repeat (first | refine blk_drewN ?_ _ | refine blk_drew ?_ | refine blk_alloc ?_ _)); exact BK277.out⟩, ⟨by repeat (first | (with_reducible first | exact HB.out | apply below_alloc | apply pw_below_drewN | apply below_drew1 | refine below_set ?_ GE266.out | refine below_set ?_ GE270.out | refine below_set ?_ GE274.out | refine below_set ?_ GE277.out) | exact HB.out)⟩⟩
                  · rw [if_neg c64] at H
                    have c64b0 : decide (a2_0 ≤ t275) = false := decide_eq_false c64
                    clear c64
                    (first | rw [c64b0] | (simp only [i64_w, i32_w]; rw [c64b0]) | skip)
                    have H' := Aside0.mk H
                    clear H
                    have hnb72 := NB277_266.out
                    have hnc72 := NB266_277.out
                    have hnb73 := NB277_270.out
                    have hnc73 := NB270_277.out
                    have hnb74 := NB277_274.out
                    have hnc74 := NB274_277.out
                    have hcz75_0 : w59.cell? ⟨gb277, 0, none⟩ = some (.int .i64 0) := (blk_cell BK277.out 0).trans rfl
                    have hcz75_1 : w59.cell? ⟨gb277, 1, none⟩ = some (.int .i64 0) := (blk_cell BK277.out 1).trans rfl
                    have hfz75_0 := blk_frozen BK277.out 0
                    have hfz75_1 := blk_frozen BK277.out 1
                    have hnb76 := NB266_270.out
                    have hnc76 := NB270_266.out
                    have hnb77 := NB266_274.out
                    have hnc77 := NB274_266.out
                    have hcz78_0 : w59.cell? ⟨gb266, 0, none⟩ = some (.int .i64 a2_0) := (blk_cell BK266.out 0).trans rfl
                    have hcz78_1 : w59.cell? ⟨gb266, 1, none⟩ = some (.int .i64 a2_1) := (blk_cell BK266.out 1).trans rfl
                    have hfz78_0 := blk_frozen BK266.out 0
                    have hfz78_1 := blk_frozen BK266.out 1
                    go_wp2
                    go_meet
                    case rel => exact ⟨_, (false), (by first | rfl | (simp; done) | (simp [*]; done)), H', ⟨by have := HJ6.out; first | omega | exact Nat.le_refl _⟩, ⟨by (with_reducible repeat (first | refine blk_drewN ?_ _ | refine blk_drew ?_ | refine blk_alloc ?_ _)); refine blk_far ?_ NB266_277.out _; (with_reducible repeat (first | refine blk_drewN ?_ _ | refine blk_drew ?_ | refine blk_alloc ?_ _)); refine blk_far ?_ NB266_277.out _; (with_reducible repeat (first | refine blk_drewN ?_ _ | refine blk_drew ?_ | refine blk_alloc ?_ _)); exact BK266.out⟩, ⟨by (with_reducible repeat (first | refine blk_drewN ?_ _ | refine blk_drew ?_ | refine blk_alloc ?_ _)); refine blk_far ?_ NB270_277.out _; (with_reducible repeat (first | refine blk_drewN ?_ _ | refine blk_drew ?_ | refine blk_alloc ?_ _)); refine blk_far ?_ NB270_277.out _; (with_reducible repeat (first | refine blk_drewN ?_ _ | refine blk_drew ?_ | refine blk_alloc ?_ _)); exact BK270.out⟩, ⟨by (with_reducible repeat (first | refine blk_drewN ?_ _ | refine blk_drew ?_ | refine blk_alloc ?_ _)); refine blk_far ?_ NB274_277.out _; (with_reducible repeat (first | refine blk_drewN ?_ _ | refine blk_drew ?_ | refine blk_alloc ?_ _)); refine blk_far ?_ NB274_277.out _; (with_reducible repeat (first | refine blk_drewN ?_ _ | refine blk_drew ?_ | refine blk_alloc ?_ _)); exact BK274.out⟩, ⟨by (with_reducible repeat (first | refine blk_drewN ?_ _ | refine blk_drew ?_ | refine blk_alloc ?_ _)); refine blk_put (cs := #[.int .i64 t275, .int .i64 0]) ?_ 1 _ rfl; (with_reducible repeat (first | refine blk_drewN ?_ _ | refine blk_drew ?_ | refine blk_alloc ?_ _)); refine blk_put (cs := #[.int .i64 0, .int .i64 0]) ?_ 0 _ rfl; (with_reducible repeat (first | refine blk_drewN ?_ _ | refine blk_drew ?_ | refine blk_alloc ?_ _)); exact BK277.out⟩, ⟨by repeat (first | (with_reducible first | exact HB.out | apply below_alloc | apply pw_below_drewN | apply below_drew1 | refine below_set ?_ GE266.out | refine below_set ?_ GE270.out | refine below_set ?_ GE274.out | refine below_set ?_ GE277.out) | exact HB.out)⟩⟩
              case rest =>
                as_aux_lemma =>
                  clear HC43
                  try clear c1
                  try clear c2
                  try clear p2
                  try clear c3
                  try clear c4
                  try clear c5
                  try clear c6
                  try clear p6
                  try clear c7
                  try clear c10
                  try clear c10b0
                  try clear c11
                  try clear c11b0
                  try clear c12
                  try clear c12b0
                  try clear c13
                  try clear c13b0
                  try clear c14
                  try clear c14b0
                  try clear c15
                  try clear c16
                  try clear c16b0
                  try clear c18
                  try clear c18b0
                  try clear c20
                  try clear c20b0
                  try clear c23
                  try clear c27
                  try clear c27b0
                  try clear c28
                  try clear c30
                  try clear c31
                  try clear c38
                  try clear c39
                  try clear c46
                  try clear c53
                  try clear c54
                  try clear c60
                  try clear c61
                  try clear c62
                  try clear c64
                  try clear c64b0
                  try clear p64
                  try clear c65
                  try clear c66
                  try clear c67
                  try clear c69
                  try clear c70
                  try clear c72
                  try clear c73
                  try clear c74
                  try clear c76
                  try clear c77
                  try clear hcz15_0
                  try clear hcz15_1
                  try clear hcz17_0
                  try clear hcz17_1
                  try clear hcz19_0
                  try clear hcz19_1
                  try clear hcz21_0
                  try clear hcz21_1
                  try clear hcz22_0
                  try clear hcz22_1
                  try clear hcz32_0
                  try clear hcz32_1
                  try clear hcz33_0
                  try clear hcz33_1
                  try clear hcz35_0
                  try clear hcz35_1
                  try clear hcz40_0
                  try clear hcz40_1
                  try clear hcz41_0
                  try clear hcz41_1
                  try clear hcz47_0
                  try clear hcz47_1
                  try clear hcz48_0
                  try clear hcz48_1
                  try clear hcz50_0
                  try clear hcz50_1
                  try clear hcz55_0
                  try clear hcz55_1
                  try clear hcz56_0
                  try clear hcz56_1
                  try clear hcz57_0
                  try clear hcz57_1
                  try clear hcz63_0
                  try clear hcz63_1
                  try clear hcz68_0
                  try clear hcz68_1
                  try clear hcz71_0
                  try clear hcz71_1
                  try clear hcz75_0
                  try clear hcz75_1
                  try clear hcz78_0
                  try clear hcz78_1
                  try clear hfz15_0
                  try clear hfz15_1
                  try clear hfz17_0
                  try clear hfz17_1
                  try clear hfz19_0
                  try clear hfz19_1
                  try clear hfz21_0
                  try clear hfz21_1
                  try clear hfz22_0
                  try clear hfz22_1
                  try clear hfz32_0
                  try clear hfz32_1
                  try clear hfz33_0
                  try clear hfz33_1
                  try clear hfz35_0
                  try clear hfz35_1
                  try clear hfz40_0
                  try clear hfz40_1
                  try clear hfz41_0
                  try clear hfz41_1
                  try clear hfz47_0
                  try clear hfz47_1
                  try clear hfz48_0
                  try clear hfz48_1
                  try clear hfz50_0
                  try clear hfz50_1
                  try clear hfz55_0
                  try clear hfz55_1
                  try clear hfz56_0
                  try clear hfz56_1
                  try clear hfz57_0
                  try clear hfz57_1
                  try clear hfz63_0
                  try clear hfz63_1
                  try clear hfz68_0
                  try clear hfz68_1
                  try clear hfz71_0
                  try clear hfz71_1
                  try clear hfz75_0
                  try clear hfz75_1
                  try clear hfz78_0
                  try clear hfz78_1
                  try clear p2
                  obtain ⟨kq, x14_42, rfl, HA, HJ42, BK266, BK270, BK274, BK277, HB⟩ := hcut
                  cases kq with
                  | zero => exact absurd HA.out (by simp [valancelaw03_SpanFits.j1])
                  | succ kj42 =>
                    have H := HA.out
                    clear HA
                    simp only [valancelaw03_SpanFits.j1] at H
                    have HC79 := Aside0.mk H
                    clear H
                    go_upto_region 13 with (fail)
                    go_cut [15] (fun v15 wc => ∃ (kq : Nat) (x15_78 : Bool), v15 = .bool x15_78 ∧ Aside0 (valancelaw03_SpanFits.j2 kq a1 true x14_42 x15_78 a2_0 a2_1 t272 t273 = some r) ∧ Aside0 (kq ≤ kj42) ∧ Aside0 (wc.heap[gb266]? = some (.cells #[.int .i64 a2_0, .int .i64 a2_1] 23 (0, 0))) ∧ Aside0 (wc.heap[gb270]? = some (.cells #[.int .i64 t268, .int .i64 t269] 23 (0, 0))) ∧ Aside0 (wc.heap[gb274]? = some (.cells #[.int .i64 t272, .int .i64 t273] 23 (0, 0))) ∧ Aside0 (wc.heap[gb277]? = some (.cells #[.int .i64 t275, .int .i64 t276] 23 (0, 0))) ∧ Aside0 (Below w.heap.size w wc))
                    case first =>
                      as_aux_lemma =>
                        have H := HC79.out
                        clear HC79
                        by_cases c80 : a3 ≥ 0
                        · rw [if_pos c80] at H
                          have c80b0 : decide (0 ≤ a3) = true := decide_eq_true c80
                          clear c80
                          (first | rw [c80b0] | (simp only [i64_w, i32_w]; rw [c80b0]) | skip)
                          by_cases c81 : t271 ≥ 0
                          · rw [if_pos c81] at H
                            have c81b0 : decide (0 ≤ t271) = true := decide_eq_true c81
                            clear c81
                            by_cases c82 : a3 < t271
                            · rw [if_pos c82] at H
                              have c82b0 : decide (a3 < t271) = true := decide_eq_true c82
                              clear c82
                              have H' := Aside0.mk H
                              clear H
                              go_wp2
                              go_meet
                              case rel => exact ⟨_, (true), (by first | rfl | (simp; done) | (simp [*]; done)), H', ⟨by have := HJ6.out; have := HJ42.out; first | omega | exact Nat.le_refl _⟩, ⟨by (with_reducible repeat (first | refine blk_drewN ?_ _ | refine blk_drew ?_ | refine blk_alloc ?_ _)); exact BK266.out⟩, ⟨by (with_reducible repeat (first | refine blk_drewN ?_ _ | refine blk_drew ?_ | refine blk_alloc ?_ _)); exact BK270.out⟩, ⟨by (with_reducible repeat (first | refine blk_drewN ?_ _ | refine blk_drew ?_ | refine blk_alloc ?_ _)); exact BK274.out⟩, ⟨by (with_reducible repeat (first | refine blk_drewN ?_ _ | refine blk_drew ?_ | refine blk_alloc ?_ _)); exact BK277.out⟩, ⟨by repeat (first | (with_reducible first | exact HB.out | apply below_alloc | apply pw_below_drewN | apply below_drew1 | refine below_set ?_ GE266.out | refine below_set ?_ GE270.out | refine below_set ?_ GE274.out | refine below_set ?_ GE277.out) | exact HB.out)⟩⟩
                            · rw [if_neg c82] at H
                              have c82b0 : decide (a3 < t271) = false := decide_eq_false c82
                              clear c82
                              by_cases c83 : a3 ≤ 0
                              · rw [if_pos c83] at H
                                have c83b0 : decide (a3 ≤ 0) = true := decide_eq_true c83
                                clear c83
                                by_cases c84 : t271 ≤ 0
                                · rw [if_pos c84] at H
                                  have c84b0 : decide (t271 ≤ 0) = true := decide_eq_true c84
                                  clear c84
                                  by_cases c85 : a3 > t271
                                  · rw [if_pos c85] at H
                                    have c85b0 : decide (t271 < a3) = true := decide_eq_true c85
                                    clear c85
                                    have H' := Aside0.mk H
                                    clear H
                                    go_wp2
                                    go_meet
                                    case rel => exact ⟨_, (true), (by first | rfl | (simp; done) | (simp [*]; done)), H', ⟨by have := HJ6.out; have := HJ42.out; first | omega | exact Nat.le_refl _⟩, ⟨by (with_reducible repeat (first | refine blk_drewN ?_ _ | refine blk_drew ?_ | refine blk_alloc ?_ _)); exact BK266.out⟩, ⟨by (with_reducible repeat (first | refine blk_drewN ?_ _ | refine blk_drew ?_ | refine blk_alloc ?_ _)); exact BK270.out⟩, ⟨by (with_reducible repeat (first | refine blk_drewN ?_ _ | refine blk_drew ?_ | refine blk_alloc ?_ _)); exact BK274.out⟩, ⟨by (with_reducible repeat (first | refine blk_drewN ?_ _ | refine blk_drew ?_ | refine blk_alloc ?_ _)); exact BK277.out⟩, ⟨by repeat (first | (with_reducible first | exact HB.out | apply below_alloc | apply pw_below_drewN | apply below_drew1 | refine below_set ?_ GE266.out | refine below_set ?_ GE270.out | refine below_set ?_ GE274.out | refine below_set ?_ GE277.out) | exact HB.out)⟩⟩
                                  · rw [if_neg c85] at H
                                    have c85b0 : decide (t271 < a3) = false := decide_eq_false c85
                                    clear c85
                                    by_cases c86 : a3 = 0
                                    · rw [if_pos c86] at H
                                      have c86b0 : (a3 == 0) = true := beq_iff_eq.mpr c86
                                      have c86b1 : (a3 != 0) = false := bne_eq_false_iff_eq.mpr c86
                                      clear c86
                                      have H' := Aside0.mk H
                                      clear H
                                      go_wp2
                                      go_meet
                                      case rel => exact ⟨_, ((t271 != 0)), (by first | rfl | (simp; done) | (simp [*]; done)), H', ⟨by have := HJ6.out; have := HJ42.out; first | omega | exact Nat.le_refl _⟩, ⟨by (with_reducible repeat (first | refine blk_drewN ?_ _ | refine blk_drew ?_ | refine blk_alloc ?_ _)); exact BK266.out⟩, ⟨by (with_reducible repeat (first | refine blk_drewN ?_ _ | refine blk_drew ?_ | refine blk_alloc ?_ _)); exact BK270.out⟩, ⟨by (with_reducible repeat (first | refine blk_drewN ?_ _ | refine blk_drew ?_ | refine blk_alloc ?_ _)); exact BK274.out⟩, ⟨by (with_reducible repeat (first | refine blk_drewN ?_ _ | refine blk_drew ?_ | refine blk_alloc ?_ _)); exact BK277.out⟩, ⟨by repeat (first | (with_reducible first | exact HB.out | apply below_alloc | apply pw_below_drewN | apply below_drew1 | refine below_set ?_ GE266.out | refine below_set ?_ GE270.out | refine below_set ?_ GE274.out | refine below_set ?_ GE277.out) | exact HB.out)⟩⟩
                                    · rw [if_neg c86] at H
                                      have c86b0 : (a3 == 0) = false := beq_eq_false_iff_ne.mpr c86
                                      have c86b1 : (a3 != 0) = true := bne_iff_ne.mpr c86
                                      have H' := Aside0.mk H
                                      clear H
                                      go_wp2
                                      go_meet
                                      case rel => exact ⟨_, (false), (by first | rfl | (simp; done) | (simp [*]; done)), H', ⟨by have := HJ6.out; have := HJ42.out; first | omega | exact Nat.le_refl _⟩, ⟨by (with_reducible repeat (first | refine blk_drewN ?_ _ | refine blk_drew ?_ | refine blk_alloc ?_ _)); exact BK266.out⟩, ⟨by (with_reducible repeat (first | refine blk_drewN ?_ _ | refine blk_drew ?_ | refine blk_alloc ?_ _)); exact BK270.out⟩, ⟨by (with_reducible repeat (first | refine blk_drewN ?_ _ | refine blk_drew ?_ | refine blk_alloc ?_ _)); exact BK274.out⟩, ⟨by (with_reducible repeat (first | refine blk_drewN ?_ _ | refine blk_drew ?_ | refine blk_alloc ?_ _)); exact BK277.out⟩, ⟨by repeat (first | (with_reducible first | exact HB.out | apply below_alloc | apply pw_below_drewN | apply below_drew1 | refine below_set ?_ GE266.out | refine below_set ?_ GE270.out | refine below_set ?_ GE274.out | refine below_set ?_ GE277.out) | exact HB.out)⟩⟩
                                · rw [if_neg c84] at H
                                  have c84b0 : decide (t271 ≤ 0) = false := decide_eq_false c84
                                  clear c84
                                  by_cases c87 : a3 = 0
                                  · rw [if_pos c87] at H
                                    have c87b0 : (a3 == 0) = true := beq_iff_eq.mpr c87
                                    have c87b1 : (a3 != 0) = false := bne_eq_false_iff_eq.mpr c87
                                    clear c87
                                    have H' := Aside0.mk H
                                    clear H
                                    go_wp2
                                    go_meet
                                    case rel => exact ⟨_, ((t271 != 0)), (by first | rfl | (simp; done) | (simp [*]; done)), H', ⟨by have := HJ6.out; have := HJ42.out; first | omega | exact Nat.le_refl _⟩, ⟨by (with_reducible repeat (first | refine blk_drewN ?_ _ | refine blk_drew ?_ | refine blk_alloc ?_ _)); exact BK266.out⟩, ⟨by (with_reducible repeat (first | refine blk_drewN ?_ _ | refine blk_drew ?_ | refine blk_alloc ?_ _)); exact BK270.out⟩, ⟨by (with_reducible repeat (first | refine blk_drewN ?_ _ | refine blk_drew ?_ | refine blk_alloc ?_ _)); exact BK274.out⟩, ⟨by (with_reducible repeat (first | refine blk_drewN ?_ _ | refine blk_drew ?_ | refine blk_alloc ?_ _)); exact BK277.out⟩, ⟨by repeat (first | (with_reducible first | exact HB.out | apply below_alloc | apply pw_below_drewN | apply below_drew1 | refine below_set ?_ GE266.out | refine below_set ?_ GE270.out | refine below_set ?_ GE274.out | refine below_set ?_ GE277.out) | exact HB.out)⟩⟩
                                  · rw [if_neg c87] at H
                                    have c87b0 : (a3 == 0) = false := beq_eq_false_iff_ne.mpr c87
                                    have c87b1 : (a3 != 0) = true := bne_iff_ne.mpr c87
                                    have H' := Aside0.mk H
                                    clear H
                                    go_wp2
                                    go_meet
                                    case rel => exact ⟨_, (false), (by first | rfl | (simp; done) | (simp [*]; done)), H', ⟨by have := HJ6.out; have := HJ42.out; first | omega | exact Nat.le_refl _⟩, ⟨by (with_reducible repeat (first | refine blk_drewN ?_ _ | refine blk_drew ?_ | refine blk_alloc ?_ _)); exact BK266.out⟩, ⟨by (with_reducible repeat (first | refine blk_drewN ?_ _ | refine blk_drew ?_ | refine blk_alloc ?_ _)); exact BK270.out⟩, ⟨by (with_reducible repeat (first | refine blk_drewN ?_ _ | refine blk_drew ?_ | refine blk_alloc ?_ _)); exact BK274.out⟩, ⟨by (with_reducible repeat (first | refine blk_drewN ?_ _ | refine blk_drew ?_ | refine blk_alloc ?_ _)); exact BK277.out⟩, ⟨by repeat (first | (with_reducible first | exact HB.out | apply below_alloc | apply pw_below_drewN | apply below_drew1 | refine below_set ?_ GE266.out | refine below_set ?_ GE270.out | refine below_set ?_ GE274.out | refine below_set ?_ GE277.out) | exact HB.out)⟩⟩
                              · rw [if_neg c83] at H
                                have c83b0 : decide (a3 ≤ 0) = false := decide_eq_false c83
                                clear c83
                                by_cases c88 : a3 = 0
                                · rw [if_pos c88] at H
                                  have c88b0 : (a3 == 0) = true := beq_iff_eq.mpr c88
                                  have c88b1 : (a3 != 0) = false := bne_eq_false_iff_eq.mpr c88
                                  clear c88
                                  have H' := Aside0.mk H
                                  clear H
                                  go_wp2
                                  go_meet
                                  case rel => exact ⟨_, ((t271 != 0)), (by first | rfl | (simp; done) | (simp [*]; done)), H', ⟨by have := HJ6.out; have := HJ42.out; first | omega | exact Nat.le_refl _⟩, ⟨by (with_reducible repeat (first | refine blk_drewN ?_ _ | refine blk_drew ?_ | refine blk_alloc ?_ _)); exact BK266.out⟩, ⟨by (with_reducible repeat (first | refine blk_drewN ?_ _ | refine blk_drew ?_ | refine blk_alloc ?_ _)); exact BK270.out⟩, ⟨by (with_reducible repeat (first | refine blk_drewN ?_ _ | refine blk_drew ?_ | refine blk_alloc ?_ _)); exact BK274.out⟩, ⟨by (with_reducible repeat (first | refine blk_drewN ?_ _ | refine blk_drew ?_ | refine blk_alloc ?_ _)); exact BK277.out⟩, ⟨by repeat (first | (with_reducible first | exact HB.out | apply below_alloc | apply pw_below_drewN | apply below_drew1 | refine below_set ?_ GE266.out | refine below_set ?_ GE270.out | refine below_set ?_ GE274.out | refine below_set ?_ GE277.out) | exact HB.out)⟩⟩
                                · rw [if_neg c88] at H
                                  have c88b0 : (a3 == 0) = false := beq_eq_false_iff_ne.mpr c88
                                  have c88b1 : (a3 != 0) = true := bne_iff_ne.mpr c88
                                  have H' := Aside0.mk H
                                  clear H
                                  go_wp2
                                  go_meet
                                  case rel => exact ⟨_, (false), (by first | rfl | (simp; done) | (simp [*]; done)), H', ⟨by have := HJ6.out; have := HJ42.out; first | omega | exact Nat.le_refl _⟩, ⟨by (with_reducible repeat (first | refine blk_drewN ?_ _ | refine blk_drew ?_ | refine blk_alloc ?_ _)); exact BK266.out⟩, ⟨by (with_reducible repeat (first | refine blk_drewN ?_ _ | refine blk_drew ?_ | refine blk_alloc ?_ _)); exact BK270.out⟩, ⟨by (with_reducible repeat (first | refine blk_drewN ?_ _ | refine blk_drew ?_ | refine blk_alloc ?_ _)); exact BK274.out⟩, ⟨by (with_reducible repeat (first | refine blk_drewN ?_ _ | refine blk_drew ?_ | refine blk_alloc ?_ _)); exact BK277.out⟩, ⟨by repeat (first | (with_reducible first | exact HB.out | apply below_alloc | apply pw_below_drewN | apply below_drew1 | refine below_set ?_ GE266.out | refine below_set ?_ GE270.out | refine below_set ?_ GE274.out | refine below_set ?_ GE277.out) | exact HB.out)⟩⟩
                          · rw [if_neg c81] at H
                            have c81b0 : decide (0 ≤ t271) = false := decide_eq_false c81
                            clear c81
                            by_cases c89 : a3 ≤ 0
                            · rw [if_pos c89] at H
                              have c89b0 : decide (a3 ≤ 0) = true := decide_eq_true c89
                              clear c89
                              by_cases c90 : t271 ≤ 0
                              · rw [if_pos c90] at H
                                have c90b0 : decide (t271 ≤ 0) = true := decide_eq_true c90
                                clear c90
                                by_cases c91 : a3 > t271
                                · rw [if_pos c91] at H
                                  have c91b0 : decide (t271 < a3) = true := decide_eq_true c91
                                  clear c91
                                  have H' := Aside0.mk H
                                  clear H
                                  go_wp2
                                  go_meet
                                  case rel => exact ⟨_, (true), (by first | rfl | (simp; done) | (simp [*]; done)), H', ⟨by have := HJ6.out; have := HJ42.out; first | omega | exact Nat.le_refl _⟩, ⟨by (with_reducible repeat (first | refine blk_drewN ?_ _ | refine blk_drew ?_ | refine blk_alloc ?_ _)); exact BK266.out⟩, ⟨by (with_reducible repeat (first | refine blk_drewN ?_ _ | refine blk_drew ?_ | refine blk_alloc ?_ _)); exact BK270.out⟩, ⟨by (with_reducible repeat (first | refine blk_drewN ?_ _ | refine blk_drew ?_ | refine blk_alloc ?_ _)); exact BK274.out⟩, ⟨by (with_reducible repeat (first | refine blk_drewN ?_ _ | refine blk_drew ?_ | refine blk_alloc ?_ _)); exact BK277.out⟩, ⟨by repeat (first | (with_reducible first | exact HB.out | apply below_alloc | apply pw_below_drewN | apply below_drew1 | refine below_set ?_ GE266.out | refine below_set ?_ GE270.out | refine below_set ?_ GE274.out | refine below_set ?_ GE277.out) | exact HB.out)⟩⟩
                                · rw [if_neg c91] at H
                                  have c91b0 : decide (t271 < a3) = false := decide_eq_false c91
                                  clear c91
                                  by_cases c92 : a3 = 0
                                  · rw [if_pos c92] at H
                                    have c92b0 : (a3 == 0) = true := beq_iff_eq.mpr c92
                                    have c92b1 : (a3 != 0) = false := bne_eq_false_iff_eq.mpr c92
                                    clear c92
                                    have H' := Aside0.mk H
                                    clear H
                                    go_wp2
                                    go_meet
                                    case rel => exact ⟨_, ((t271 != 0)), (by first | rfl | (simp; done) | (simp [*]; done)), H', ⟨by have := HJ6.out; have := HJ42.out; first | omega | exact Nat.le_refl _⟩, ⟨by (with_reducible repeat (first | refine blk_drewN ?_ _ | refine blk_drew ?_ | refine blk_alloc ?_ _)); exact BK266.out⟩, ⟨by (with_reducible repeat (first | refine blk_drewN ?_ _ | refine blk_drew ?_ | refine blk_alloc ?_ _)); exact BK270.out⟩, ⟨by (with_reducible repeat (first | refine blk_drewN ?_ _ | refine blk_drew ?_ | refine blk_alloc ?_ _)); exact BK274.out⟩, ⟨by (with_reducible repeat (first | refine blk_drewN ?_ _ | refine blk_drew ?_ | refine blk_alloc ?_ _)); exact BK277.out⟩, ⟨by repeat (first | (with_reducible first | exact HB.out | apply below_alloc | apply pw_below_drewN | apply below_drew1 | refine below_set ?_ GE266.out | refine below_set ?_ GE270.out | refine below_set ?_ GE274.out | refine below_set ?_ GE277.out) | exact HB.out)⟩⟩
                                  · rw [if_neg c92] at H
                                    have c92b0 : (a3 == 0) = false := beq_eq_false_iff_ne.mpr c92
                                    have c92b1 : (a3 != 0) = true := bne_iff_ne.mpr c92
                                    have H' := Aside0.mk H
                                    clear H
                                    go_wp2
                                    go_meet
                                    case rel => exact ⟨_, (false), (by first | rfl | (simp; done) | (simp [*]; done)), H', ⟨by have := HJ6.out; have := HJ42.out; first | omega | exact Nat.le_refl _⟩, ⟨by (with_reducible repeat (first | refine blk_drewN ?_ _ | refine blk_drew ?_ | refine blk_alloc ?_ _)); exact BK266.out⟩, ⟨by (with_reducible repeat (first | refine blk_drewN ?_ _ | refine blk_drew ?_ | refine blk_alloc ?_ _)); exact BK270.out⟩, ⟨by (with_reducible repeat (first | refine blk_drewN ?_ _ | refine blk_drew ?_ | refine blk_alloc ?_ _)); exact BK274.out⟩, ⟨by (with_reducible repeat (first | refine blk_drewN ?_ _ | refine blk_drew ?_ | refine blk_alloc ?_ _)); exact BK277.out⟩, ⟨by repeat (first | (with_reducible first | exact HB.out | apply below_alloc | apply pw_below_drewN | apply below_drew1 | refine below_set ?_ GE266.out | refine below_set ?_ GE270.out | refine below_set ?_ GE274.out | refine below_set ?_ GE277.out) | exact HB.out)⟩⟩
                              · rw [if_neg c90] at H
                                have c90b0 : decide (t271 ≤ 0) = false := decide_eq_false c90
                                clear c90
                                by_cases c93 : a3 = 0
                                · rw [if_pos c93] at H
                                  have c93b0 : (a3 == 0) = true := beq_iff_eq.mpr c93
                                  have c93b1 : (a3 != 0) = false := bne_eq_false_iff_eq.mpr c93
                                  clear c93
                                  have H' := Aside0.mk H
                                  clear H
                                  go_wp2
                                  go_meet
                                  case rel => exact ⟨_, ((t271 != 0)), (by first | rfl | (simp; done) | (simp [*]; done)), H', ⟨by have := HJ6.out; have := HJ42.out; first | omega | exact Nat.le_refl _⟩, ⟨by (with_reducible repeat (first | refine blk_drewN ?_ _ | refine blk_drew ?_ | refine blk_alloc ?_ _)); exact BK266.out⟩, ⟨by (with_reducible repeat (first | refine blk_drewN ?_ _ | refine blk_drew ?_ | refine blk_alloc ?_ _)); exact BK270.out⟩, ⟨by (with_reducible repeat (first | refine blk_drewN ?_ _ | refine blk_drew ?_ | refine blk_alloc ?_ _)); exact BK274.out⟩, ⟨by (with_reducible repeat (first | refine blk_drewN ?_ _ | refine blk_drew ?_ | refine blk_alloc ?_ _)); exact BK277.out⟩, ⟨by repeat (first | (with_reducible first | exact HB.out | apply below_alloc | apply pw_below_drewN | apply below_drew1 | refine below_set ?_ GE266.out | refine below_set ?_ GE270.out | refine below_set ?_ GE274.out | refine below_set ?_ GE277.out) | exact HB.out)⟩⟩
                                · rw [if_neg c93] at H
                                  have c93b0 : (a3 == 0) = false := beq_eq_false_iff_ne.mpr c93
                                  have c93b1 : (a3 != 0) = true := bne_iff_ne.mpr c93
                                  have H' := Aside0.mk H
                                  clear H
                                  go_wp2
                                  go_meet
                                  case rel => exact ⟨_, (false), (by first | rfl | (simp; done) | (simp [*]; done)), H', ⟨by have := HJ6.out; have := HJ42.out; first | omega | exact Nat.le_refl _⟩, ⟨by (with_reducible repeat (first | refine blk_drewN ?_ _ | refine blk_drew ?_ | refine blk_alloc ?_ _)); exact BK266.out⟩, ⟨by (with_reducible repeat (first | refine blk_drewN ?_ _ | refine blk_drew ?_ | refine blk_alloc ?_ _)); exact BK270.out⟩, ⟨by (with_reducible repeat (first | refine blk_drewN ?_ _ | refine blk_drew ?_ | refine blk_alloc ?_ _)); exact BK274.out⟩, ⟨by (with_reducible repeat (first | refine blk_drewN ?_ _ | refine blk_drew ?_ | refine blk_alloc ?_ _)); exact BK277.out⟩, ⟨by repeat (first | (with_reducible first | exact HB.out | apply below_alloc | apply pw_below_drewN | apply below_drew1 | refine below_set ?_ GE266.out | refine below_set ?_ GE270.out | refine below_set ?_ GE274.out | refine below_set ?_ GE277.out) | exact HB.out)⟩⟩
                            · rw [if_neg c89] at H
                              have c89b0 : decide (a3 ≤ 0) = false := decide_eq_false c89
                              clear c89
                              by_cases c94 : a3 = 0
                              · rw [if_pos c94] at H
                                have c94b0 : (a3 == 0) = true := beq_iff_eq.mpr c94
                                have c94b1 : (a3 != 0) = false := bne_eq_false_iff_eq.mpr c94
                                clear c94
                                have H' := Aside0.mk H
                                clear H
                                go_wp2
                                go_meet
                                case rel => exact ⟨_, ((t271 != 0)), (by first | rfl | (simp; done) | (simp [*]; done)), H', ⟨by have := HJ6.out; have := HJ42.out; first | omega | exact Nat.le_refl _⟩, ⟨by (with_reducible repeat (first | refine blk_drewN ?_ _ | refine blk_drew ?_ | refine blk_alloc ?_ _)); exact BK266.out⟩, ⟨by (with_reducible repeat (first | refine blk_drewN ?_ _ | refine blk_drew ?_ | refine blk_alloc ?_ _)); exact BK270.out⟩, ⟨by (with_reducible repeat (first | refine blk_drewN ?_ _ | refine blk_drew ?_ | refine blk_alloc ?_ _)); exact BK274.out⟩, ⟨by (with_reducible repeat (first | refine blk_drewN ?_ _ | refine blk_drew ?_ | refine blk_alloc ?_ _)); exact BK277.out⟩, ⟨by repeat (first | (with_reducible first | exact HB.out | apply below_alloc | apply pw_below_drewN | apply below_drew1 | refine below_set ?_ GE266.out | refine below_set ?_ GE270.out | refine below_set ?_ GE274.out | refine below_set ?_ GE277.out) | exact HB.out)⟩⟩
                              · rw [if_neg c94] at H
                                have c94b0 : (a3 == 0) = false := beq_eq_false_iff_ne.mpr c94
                                have c94b1 : (a3 != 0) = true := bne_iff_ne.mpr c94
                                have H' := Aside0.mk H
                                clear H
                                go_wp2
                                go_meet
                                case rel => exact ⟨_, (false), (by first | rfl | (simp; done) | (simp [*]; done)), H', ⟨by have := HJ6.out; have := HJ42.out; first | omega | exact Nat.le_refl _⟩, ⟨by (with_reducible repeat (first | refine blk_drewN ?_ _ | refine blk_drew ?_ | refine blk_alloc ?_ _)); exact BK266.out⟩, ⟨by (with_reducible repeat (first | refine blk_drewN ?_ _ | refine blk_drew ?_ | refine blk_alloc ?_ _)); exact BK270.out⟩, ⟨by (with_reducible repeat (first | refine blk_drewN ?_ _ | refine blk_drew ?_ | refine blk_alloc ?_ _)); exact BK274.out⟩, ⟨by (with_reducible repeat (first | refine blk_drewN ?_ _ | refine blk_drew ?_ | refine blk_alloc ?_ _)); exact BK277.out⟩, ⟨by repeat (first | (with_reducible first | exact HB.out | apply below_alloc | apply pw_below_drewN | apply below_drew1 | refine below_set ?_ GE266.out | refine below_set ?_ GE270.out | refine below_set ?_ GE274.out | refine below_set ?_ GE277.out) | exact HB.out)⟩⟩
                        · rw [if_neg c80] at H
                          have c80b0 : decide (0 ≤ a3) = false := decide_eq_false c80
                          clear c80
                          (first | rw [c80b0] | (simp only [i64_w, i32_w]; rw [c80b0]) | skip)
                          by_cases c95 : a3 ≤ 0
                          · rw [if_pos c95] at H
                            have c95b0 : decide (a3 ≤ 0) = true := decide_eq_true c95
                            clear c95
                            by_cases c96 : t271 ≤ 0
                            · rw [if_pos c96] at H
                              have c96b0 : decide (t271 ≤ 0) = true := decide_eq_true c96
                              clear c96
                              by_cases c97 : a3 > t271
                              · rw [if_pos c97] at H
                                have c97b0 : decide (t271 < a3) = true := decide_eq_true c97
                                clear c97
                                have H' := Aside0.mk H
                                clear H
                                go_wp2
                                go_meet
                                case rel => exact ⟨_, (true), (by first | rfl | (simp; done) | (simp [*]; done)), H', ⟨by have := HJ6.out; have := HJ42.out; first | omega | exact Nat.le_refl _⟩, ⟨by (with_reducible repeat (first | refine blk_drewN ?_ _ | refine blk_drew ?_ | refine blk_alloc ?_ _)); exact BK266.out⟩, ⟨by (with_reducible repeat (first | refine blk_drewN ?_ _ | refine blk_drew ?_ | refine blk_alloc ?_ _)); exact BK270.out⟩, ⟨by (with_reducible repeat (first | refine blk_drewN ?_ _ | refine blk_drew ?_ | refine blk_alloc ?_ _)); exact BK274.out⟩, ⟨by (with_reducible repeat (first | refine blk_drewN ?_ _ | refine blk_drew ?_ | refine blk_alloc ?_ _)); exact BK277.out⟩, ⟨by repeat (first | (with_reducible first | exact HB.out | apply below_alloc | apply pw_below_drewN | apply below_drew1 | refine below_set ?_ GE266.out | refine below_set ?_ GE270.out | refine below_set ?_ GE274.out | refine below_set ?_ GE277.out) | exact HB.out)⟩⟩
                              · rw [if_neg c97] at H
                                have c97b0 : decide (t271 < a3) = false := decide_eq_false c97
                                clear c97
                                by_cases c98 : a3 = 0
                                · rw [if_pos c98] at H
                                  have c98b0 : (a3 == 0) = true := beq_iff_eq.mpr c98
                                  have c98b1 : (a3 != 0) = false := bne_eq_false_iff_eq.mpr c98
                                  clear c98
                                  have H' := Aside0.mk H
                                  clear H
                                  go_wp2
                                  go_meet
                                  case rel => exact ⟨_, ((t271 != 0)), (by first | rfl | (simp; done) | (simp [*]; done)), H', ⟨by have := HJ6.out; have := HJ42.out; first | omega | exact Nat.le_refl _⟩, ⟨by (with_reducible repeat (first | refine blk_drewN ?_ _ | refine blk_drew ?_ | refine blk_alloc ?_ _)); exact BK266.out⟩, ⟨by (with_reducible repeat (first | refine blk_drewN ?_ _ | refine blk_drew ?_ | refine blk_alloc ?_ _)); exact BK270.out⟩, ⟨by (with_reducible repeat (first | refine blk_drewN ?_ _ | refine blk_drew ?_ | refine blk_alloc ?_ _)); exact BK274.out⟩, ⟨by (with_reducible repeat (first | refine blk_drewN ?_ _ | refine blk_drew ?_ | refine blk_alloc ?_ _)); exact BK277.out⟩, ⟨by repeat (first | (with_reducible first | exact HB.out | apply below_alloc | apply pw_below_drewN | apply below_drew1 | refine below_set ?_ GE266.out | refine below_set ?_ GE270.out | refine below_set ?_ GE274.out | refine below_set ?_ GE277.out) | exact HB.out)⟩⟩
                                · rw [if_neg c98] at H
                                  have c98b0 : (a3 == 0) = false := beq_eq_false_iff_ne.mpr c98
                                  have c98b1 : (a3 != 0) = true := bne_iff_ne.mpr c98
                                  have H' := Aside0.mk H
                                  clear H
                                  go_wp2
                                  go_meet
                                  case rel => exact ⟨_, (false), (by first | rfl | (simp; done) | (simp [*]; done)), H', ⟨by have := HJ6.out; have := HJ42.out; first | omega | exact Nat.le_refl _⟩, ⟨by (with_reducible repeat (first | refine blk_drewN ?_ _ | refine blk_drew ?_ | refine blk_alloc ?_ _)); exact BK266.out⟩, ⟨by (with_reducible repeat (first | refine blk_drewN ?_ _ | refine blk_drew ?_ | refine blk_alloc ?_ _)); exact BK270.out⟩, ⟨by (with_reducible repeat (first | refine blk_drewN ?_ _ | refine blk_drew ?_ | refine blk_alloc ?_ _)); exact BK274.out⟩, ⟨by (with_reducible repeat (first | refine blk_drewN ?_ _ | refine blk_drew ?_ | refine blk_alloc ?_ _)); exact BK277.out⟩, ⟨by repeat (first | (with_reducible first | exact HB.out | apply below_alloc | apply pw_below_drewN | apply below_drew1 | refine below_set ?_ GE266.out | refine below_set ?_ GE270.out | refine below_set ?_ GE274.out | refine below_set ?_ GE277.out) | exact HB.out)⟩⟩
                            · rw [if_neg c96] at H
                              have c96b0 : decide (t271 ≤ 0) = false := decide_eq_false c96
                              clear c96
                              by_cases c99 : a3 = 0
                              · rw [if_pos c99] at H
                                have c99b0 : (a3 == 0) = true := beq_iff_eq.mpr c99
                                have c99b1 : (a3 != 0) = false := bne_eq_false_iff_eq.mpr c99
                                clear c99
                                have H' := Aside0.mk H
                                clear H
                                go_wp2
                                go_meet
                                case rel => exact ⟨_, ((t271 != 0)), (by first | rfl | (simp; done) | (simp [*]; done)), H', ⟨by have := HJ6.out; have := HJ42.out; first | omega | exact Nat.le_refl _⟩, ⟨by (with_reducible repeat (first | refine blk_drewN ?_ _ | refine blk_drew ?_ | refine blk_alloc ?_ _)); exact BK266.out⟩, ⟨by (with_reducible repeat (first | refine blk_drewN ?_ _ | refine blk_drew ?_ | refine blk_alloc ?_ _)); exact BK270.out⟩, ⟨by (with_reducible repeat (first | refine blk_drewN ?_ _ | refine blk_drew ?_ | refine blk_alloc ?_ _)); exact BK274.out⟩, ⟨by (with_reducible repeat (first | refine blk_drewN ?_ _ | refine blk_drew ?_ | refine blk_alloc ?_ _)); exact BK277.out⟩, ⟨by repeat (first | (with_reducible first | exact HB.out | apply below_alloc | apply pw_below_drewN | apply below_drew1 | refine below_set ?_ GE266.out | refine below_set ?_ GE270.out | refine below_set ?_ GE274.out | refine below_set ?_ GE277.out) | exact HB.out)⟩⟩
                              · rw [if_neg c99] at H
                                have c99b0 : (a3 == 0) = false := beq_eq_false_iff_ne.mpr c99
                                have c99b1 : (a3 != 0) = true := bne_iff_ne.mpr c99
                                have H' := Aside0.mk H
                                clear H
                                go_wp2
                                go_meet
                                case rel => exact ⟨_, (false), (by first | rfl | (simp; done) | (simp [*]; done)), H', ⟨by have := HJ6.out; have := HJ42.out; first | omega | exact Nat.le_refl _⟩, ⟨by (with_reducible repeat (first | refine blk_drewN ?_ _ | refine blk_drew ?_ | refine blk_alloc ?_ _)); exact BK266.out⟩, ⟨by (with_reducible repeat (first | refine blk_drewN ?_ _ | refine blk_drew ?_ | refine blk_alloc ?_ _)); exact BK270.out⟩, ⟨by (with_reducible repeat (first | refine blk_drewN ?_ _ | refine blk_drew ?_ | refine blk_alloc ?_ _)); exact BK274.out⟩, ⟨by (with_reducible repeat (first | refine blk_drewN ?_ _ | refine blk_drew ?_ | refine blk_alloc ?_ _)); exact BK277.out⟩, ⟨by repeat (first | (with_reducible first | exact HB.out | apply below_alloc | apply pw_below_drewN | apply below_drew1 | refine below_set ?_ GE266.out | refine below_set ?_ GE270.out | refine below_set ?_ GE274.out | refine below_set ?_ GE277.out) | exact HB.out)⟩⟩
                          · rw [if_neg c95] at H
                            have c95b0 : decide (a3 ≤ 0) = false := decide_eq_false c95
                            clear c95
                            by_cases c100 : a3 = 0
                            · rw [if_pos c100] at H
                              have c100b0 : (a3 == 0) = true := beq_iff_eq.mpr c100
                              have c100b1 : (a3 != 0) = false := bne_eq_false_iff_eq.mpr c100
                              clear c100
                              have H' := Aside0.mk H
                              clear H
                              go_wp2
                              go_meet
                              case rel => exact ⟨_, ((t271 != 0)), (by first | rfl | (simp; done) | (simp [*]; done)), H', ⟨by have := HJ6.out; have := HJ42.out; first | omega | exact Nat.le_refl _⟩, ⟨by (with_reducible repeat (first | refine blk_drewN ?_ _ | refine blk_drew ?_ | refine blk_alloc ?_ _)); exact BK266.out⟩, ⟨by (with_reducible repeat (first | refine blk_drewN ?_ _ | refine blk_drew ?_ | refine blk_alloc ?_ _)); exact BK270.out⟩, ⟨by (with_reducible repeat (first | refine blk_drewN ?_ _ | refine blk_drew ?_ | refine blk_alloc ?_ _)); exact BK274.out⟩, ⟨by (with_reducible repeat (first | refine blk_drewN ?_ _ | refine blk_drew ?_ | refine blk_alloc ?_ _)); exact BK277.out⟩, ⟨by repeat (first | (with_reducible first | exact HB.out | apply below_alloc | apply pw_below_drewN | apply below_drew1 | refine below_set ?_ GE266.out | refine below_set ?_ GE270.out | refine below_set ?_ GE274.out | refine below_set ?_ GE277.out) | exact HB.out)⟩⟩
                            · rw [if_neg c100] at H
                              have c100b0 : (a3 == 0) = false := beq_eq_false_iff_ne.mpr c100
                              have c100b1 : (a3 != 0) = true := bne_iff_ne.mpr c100
                              have H' := Aside0.mk H
                              clear H
                              go_wp2
                              go_meet
                              case rel => exact ⟨_, (false), (by first | rfl | (simp; done) | (simp [*]; done)), H', ⟨by have := HJ6.out; have := HJ42.out; first | omega | exact Nat.le_refl _⟩, ⟨by (with_reducible repeat (first | refine blk_drewN ?_ _ | refine blk_drew ?_ | refine blk_alloc ?_ _)); exact BK266.out⟩, ⟨by (with_reducible repeat (first | refine blk_drewN ?_ _ | refine blk_drew ?_ | refine blk_alloc ?_ _)); exact BK270.out⟩, ⟨by (with_reducible repeat (first | refine blk_drewN ?_ _ | refine blk_drew ?_ | refine blk_alloc ?_ _)); exact BK274.out⟩, ⟨by (with_reducible repeat (first | refine blk_drewN ?_ _ | refine blk_drew ?_ | refine blk_alloc ?_ _)); exact BK277.out⟩, ⟨by repeat (first | (with_reducible first | exact HB.out | apply below_alloc | apply pw_below_drewN | apply below_drew1 | refine below_set ?_ GE266.out | refine below_set ?_ GE270.out | refine below_set ?_ GE274.out | refine below_set ?_ GE277.out) | exact HB.out)⟩⟩
                    case rest =>
                      as_aux_lemma =>
                        clear HC79
                        try clear c1
                        try clear c2
                        try clear p2
                        try clear c3
                        try clear c4
                        try clear c5
                        try clear c6
                        try clear p6
                        try clear c7
                        try clear c8
                        try clear c9
                        try clear c10
                        try clear c10b0
                        try clear c11
                        try clear c11b0
                        try clear c12
                        try clear c12b0
                        try clear c13
                        try clear c13b0
                        try clear c14
                        try clear c14b0
                        try clear c15
                        try clear c16
                        try clear c16b0
                        try clear c18
                        try clear c18b0
                        try clear c20
                        try clear c20b0
                        try clear c23
                        try clear c27
                        try clear c27b0
                        try clear c28
                        try clear c30
                        try clear c31
                        try clear c38
                        try clear c39
                        try clear c46
                        try clear c53
                        try clear c54
                        try clear c60
                        try clear c61
                        try clear c62
                        try clear c64
                        try clear c64b0
                        try clear p64
                        try clear c65
                        try clear c66
                        try clear c67
                        try clear c69
                        try clear c70
                        try clear c72
                        try clear c73
                        try clear c74
                        try clear c76
                        try clear c77
                        try clear c80
                        try clear c80b0
                        try clear c81
                        try clear c81b0
                        try clear c82
                        try clear c82b0
                        try clear c83
                        try clear c83b0
                        try clear c84
                        try clear c84b0
                        try clear c85
                        try clear c85b0
                        try clear c86
                        try clear c86b0
                        try clear c86b1
                        try clear c87
                        try clear c87b0
                        try clear c87b1
                        try clear c88
                        try clear c88b0
                        try clear c88b1
                        try clear c89
                        try clear c89b0
                        try clear c90
                        try clear c90b0
                        try clear c91
                        try clear c91b0
                        try clear c92
                        try clear c92b0
                        try clear c92b1
                        try clear c93
                        try clear c93b0
                        try clear c93b1
                        try clear c94
                        try clear c94b0
                        try clear c94b1
                        try clear c95
                        try clear c95b0
                        try clear c96
                        try clear c96b0
                        try clear c97
                        try clear c97b0
                        try clear c98
                        try clear c98b0
                        try clear c98b1
                        try clear c99
                        try clear c99b0
                        try clear c99b1
                        try clear c100
                        try clear c100b0
                        try clear c100b1
                        try clear hcz15_0
                        try clear hcz15_1
                        try clear hcz17_0
                        try clear hcz17_1
                        try clear hcz19_0
                        try clear hcz19_1
                        try clear hcz21_0
                        try clear hcz21_1
                        try clear hcz22_0
                        try clear hcz22_1
                        try clear hcz32_0
                        try clear hcz32_1
                        try clear hcz33_0
                        try clear hcz33_1
                        try clear hcz35_0
                        try clear hcz35_1
                        try clear hcz40_0
                        try clear hcz40_1
                        try clear hcz41_0
                        try clear hcz41_1
                        try clear hcz47_0
                        try clear hcz47_1
                        try clear hcz48_0
                        try clear hcz48_1
                        try clear hcz50_0
                        try clear hcz50_1
                        try clear hcz55_0
                        try clear hcz55_1
                        try clear hcz56_0
                        try clear hcz56_1
                        try clear hcz57_0
                        try clear hcz57_1
                        try clear hcz63_0
                        try clear hcz63_1
                        try clear hcz68_0
                        try clear hcz68_1
                        try clear hcz71_0
                        try clear hcz71_1
                        try clear hcz75_0
                        try clear hcz75_1
                        try clear hcz78_0
                        try clear hcz78_1
                        try clear hfz15_0
                        try clear hfz15_1
                        try clear hfz17_0
                        try clear hfz17_1
                        try clear hfz19_0
                        try clear hfz19_1
                        try clear hfz21_0
                        try clear hfz21_1
                        try clear hfz22_0
                        try clear hfz22_1
                        try clear hfz32_0
                        try clear hfz32_1
                        try clear hfz33_0
                        try clear hfz33_1
                        try clear hfz35_0
                        try clear hfz35_1
                        try clear hfz40_0
                        try clear hfz40_1
                        try clear hfz41_0
                        try clear hfz41_1
                        try clear hfz47_0
                        try clear hfz47_1
                        try clear hfz48_0
                        try clear hfz48_1
                        try clear hfz50_0
                        try clear hfz50_1
                        try clear hfz55_0
                        try clear hfz55_1
                        try clear hfz56_0
                        try clear hfz56_1
                        try clear hfz57_0
                        try clear hfz57_1
                        try clear hfz63_0
                        try clear hfz63_1
                        try clear hfz68_0
                        try clear hfz68_1
                        try clear hfz71_0
                        try clear hfz71_1
                        try clear hfz75_0
                        try clear hfz75_1
                        try clear hfz78_0
                        try clear hfz78_1
                        try clear p2
                        try clear p6
                        try clear p64
                        obtain ⟨kq, x15_78, rfl, HA, HJ78, BK266, BK270, BK274, BK277, HB⟩ := hcut
                        cases kq with
                        | zero => exact absurd HA.out (by simp [valancelaw03_SpanFits.j2])
                        | succ kj78 =>
                          have H := HA.out
                          clear HA
                          simp only [valancelaw03_SpanFits.j2] at H
                          by_cases c101 : true = true
                          · clear c101
                            have H1 : (if t272 ≥ a2_0 then (if t273 ≤ a2_1 then ((span_Size.f t272 t273).bind fun t278 => (if t278 = a1 then (if x14_42 = true then (if x15_78 = true then (none) else ((span_Fit.f t272 t273 a2_0 a2_1).bind fun t279 => (some (t279 == 0)))) else ((span_Fit.f t272 t273 a2_0 a2_1).bind fun t280 => (some (t280 == 0)))) else (none))) else (none)) else (none)) = some r := by first | (rw [if_pos rfl] at H; exact H) | (rw [if_pos True.intro] at H; exact H)
                            clear H
                            have H := H1
                            clear H1
                            by_cases c102 : t272 ≥ a2_0
                            · rw [if_pos c102] at H
                              have c102b0 : decide (a2_0 ≤ t272) = true := decide_eq_true c102
                              clear c102
                              by_cases c103 : t273 ≤ a2_1
                              · rw [if_pos c103] at H
                                have c103b0 : decide (t273 ≤ a2_1) = true := decide_eq_true c103
                                clear c103
                                replace H := Option.bind_eq_some_iff.mp H
                                obtain ⟨t278, A1040, H⟩ := H
                                replace H : (if t278 = a1 then (if x14_42 = true then (if x15_78 = true then (none) else ((span_Fit.f t272 t273 a2_0 a2_1).bind fun t279 => (some (t279 == 0)))) else ((span_Fit.f t272 t273 a2_0 a2_1).bind fun t280 => (some (t280 == 0)))) else (none)) = some r := H
                                have A104 := Aside0.mk A1040
                                clear A1040
                                by_cases c105 : t278 = a1
                                · rw [if_pos c105] at H
                                  have c105b0 : (t278 == a1) = true := beq_iff_eq.mpr c105
                                  have c105b1 : (t278 != a1) = false := bne_eq_false_iff_eq.mpr c105
                                  clear c105
                                  by_cases c106 : x14_42 = true
                                  · subst c106
                                    have H1 : (if x15_78 = true then (none) else ((span_Fit.f t272 t273 a2_0 a2_1).bind fun t279 => (some (t279 == 0)))) = some r := by first | (rw [if_pos rfl] at H; exact H) | (rw [if_pos True.intro] at H; exact H)
                                    clear H
                                    have H := H1
                                    clear H1
                                    by_cases c107 : x15_78 = true
                                    · subst c107
                                      have H1 : (none) = some r := by first | (rw [if_pos rfl] at H; exact H) | (rw [if_pos True.intro] at H; exact H)
                                      clear H
                                      have H := H1
                                      clear H1
                                      exact absurd H (by simp)
                                    · replace c107 := Bool.eq_false_iff.mpr c107
                                      subst c107
                                      have H1 : ((span_Fit.f t272 t273 a2_0 a2_1).bind fun t279 => (some (t279 == 0))) = some r := by rw [if_neg (show ¬ (false = true) by decide)] at H; exact H
                                      clear H
                                      have H := H1
                                      clear H1
                                      replace H := Option.bind_eq_some_iff.mp H
                                      obtain ⟨t279, A1080, H⟩ := H
                                      replace H : (some (t279 == 0)) = some r := H
                                      have A108 := Aside0.mk A1080
                                      clear A1080
                                      obtain rfl := Option.some.inj H
                                      have hnb109 := NB274_266.out
                                      have hnc109 := NB266_274.out
                                      have hnb110 := NB274_270.out
                                      have hnc110 := NB270_274.out
                                      have hnb111 := NB274_277.out
                                      have hnc111 := NB277_274.out
                                      have hcz112_0 : wc.cell? ⟨gb274, 0, none⟩ = some (.int .i64 t272) := (blk_cell BK274.out 0).trans rfl
                                      have hcz112_1 : wc.cell? ⟨gb274, 1, none⟩ = some (.int .i64 t273) := (blk_cell BK274.out 1).trans rfl
                                      have hfz112_0 := blk_frozen BK274.out 0
                                      have hfz112_1 := blk_frozen BK274.out 1
                                      have hnb113 := NB266_270.out
                                      have hnc113 := NB270_266.out
                                      have hnb114 := NB266_277.out
                                      have hnc114 := NB277_266.out
                                      have hcz115_0 : wc.cell? ⟨gb266, 0, none⟩ = some (.int .i64 a2_0) := (blk_cell BK266.out 0).trans rfl
                                      have hcz115_1 : wc.cell? ⟨gb266, 1, none⟩ = some (.int .i64 a2_1) := (blk_cell BK266.out 1).trans rfl
                                      have hfz115_0 := blk_frozen BK266.out 0
                                      have hfz115_1 := blk_frozen BK266.out 1
                                      as_aux_lemma =>
                                        go_wp2_with (first | (go_at_call 18; (with_reducible refine (span_Size.calls t272 t273 t278 _ A104.out).mono ?_); rintro e w116 ⟨rfl, hb⟩; have n0_ := Aside0.mk (blk_below (g := gb266) (o := .cells #[.int .i64 a2_0, .int .i64 a2_1] 23 (0, 0)) (by (with_reducible repeat (first | refine blk_drewN ?_ _ | refine blk_drew ?_ | refine blk_alloc ?_ _)); exact BK266.out) hb); have n1_ := Aside0.mk (blk_below (g := gb270) (o := .cells #[.int .i64 t268, .int .i64 t269] 23 (0, 0)) (by (with_reducible repeat (first | refine blk_drewN ?_ _ | refine blk_drew ?_ | refine blk_alloc ?_ _)); exact BK270.out) hb); have n2_ := Aside0.mk (blk_below (g := gb274) (o := .cells #[.int .i64 t272, .int .i64 t273] 23 (0, 0)) (by (with_reducible repeat (first | refine blk_drewN ?_ _ | refine blk_drew ?_ | refine blk_alloc ?_ _)); exact BK274.out) hb); have n3_ := Aside0.mk (blk_below (g := gb277) (o := .cells #[.int .i64 t275, .int .i64 t276] 23 (0, 0)) (by (with_reducible repeat (first | refine blk_drewN ?_ _ | refine blk_drew ?_ | refine blk_alloc ?_ _)); exact BK277.out) hb); have n4_ := Aside0.mk (below_step (by repeat (first | (with_reducible first | exact HB.out | apply below_alloc | apply pw_below_drewN | apply below_drew1 | refine below_set ?_ GE266.out | refine below_set ?_ GE270.out | refine below_set ?_ GE274.out | refine below_set ?_ GE277.out) | exact HB.out)) hb); clear BK266; clear BK270; clear BK274; clear BK277; clear HB; have BK266 := n0_; have BK270 := n1_; have BK274 := n2_; have BK277 := n3_; have HB := n4_; clear n0_ n1_ n2_ n3_ n4_; (try clear hb); (try clear hb2); (try clear hk); (try clear hi); have hcz117_0 : w116.cell? ⟨gb274, 0, none⟩ = some (.int .i64 t272) := (blk_cell BK274.out 0).trans rfl; have hcz117_1 : w116.cell? ⟨gb274, 1, none⟩ = some (.int .i64 t273) := (blk_cell BK274.out 1).trans rfl; have hfz117_0 := blk_frozen BK274.out 0; have hfz117_1 := blk_frozen BK274.out 1; have hcz118_0 : w116.cell? ⟨gb266, 0, none⟩ = some (.int .i64 a2_0) := (blk_cell BK266.out 0).trans rfl; have hcz118_1 : w116.cell? ⟨gb266, 1, none⟩ = some (.int .i64 a2_1) := (blk_cell BK266.out 1).trans rfl; have hfz118_0 := blk_frozen BK266.out 0; have hfz118_1 := blk_frozen BK266.out 1) | (go_at_call 30; (with_reducible refine (span_Fit.calls t272 t273 a2_0 a2_1 t279 _ A108.out).mono ?_); rintro e w119 ⟨rfl, hb⟩; have n0_ := Aside0.mk (blk_below (g := gb266) (o := .cells #[.int .i64 a2_0, .int .i64 a2_1] 23 (0, 0)) (by (with_reducible repeat (first | refine blk_drewN ?_ _ | refine blk_drew ?_ | refine blk_alloc ?_ _)); exact BK266.out) hb); have n1_ := Aside0.mk (blk_below (g := gb270) (o := .cells #[.int .i64 t268, .int .i64 t269] 23 (0, 0)) (by (with_reducible repeat (first | refine blk_drewN ?_ _ | refine blk_drew ?_ | refine blk_alloc ?_ _)); exact BK270.out) hb); have n2_ := Aside0.mk (blk_below (g := gb274) (o := .cells #[.int .i64 t272, .int .i64 t273] 23 (0, 0)) (by (with_reducible repeat (first | refine blk_drewN ?_ _ | refine blk_drew ?_ | refine blk_alloc ?_ _)); exact BK274.out) hb); have n3_ := Aside0.mk (blk_below (g := gb277) (o := .cells #[.int .i64 t275, .int .i64 t276] 23 (0, 0)) (by (with_reducible repeat (first | refine blk_drewN ?_ _ | refine blk_drew ?_ | refine blk_alloc ?_ _)); exact BK277.out) hb); have n4_ := Aside0.mk (below_step (by repeat (first | (with_reducible first | exact HB.out | apply below_alloc | apply pw_below_drewN | apply below_drew1 | refine below_set ?_ GE266.out | refine below_set ?_ GE270.out | refine below_set ?_ GE274.out | refine below_set ?_ GE277.out) | exact HB.out)) hb); clear BK266; clear BK270; clear BK274; clear BK277; clear HB; have BK266 := n0_; have BK270 := n1_; have BK274 := n2_; have BK277 := n3_; have HB := n4_; clear n0_ n1_ n2_ n3_ n4_; (try clear hb); (try clear hb2); (try clear hk); (try clear hi)))
                                        go_ret
                                        exact ⟨by first | rfl | (cases Option.some.inj (A120.out.symm.trans A108.out); rfl) | (cases Option.some.inj (A108.out.symm.trans A120.out); rfl) | (simp [errW_none, errW_some] <;> rfl) | (simp [*, errW_none, errW_some] <;> rfl), by repeat (first | (with_reducible first | exact HB.out | apply below_alloc | apply pw_below_drewN | apply below_drew1 | refine below_set ?_ GE266.out | refine below_set ?_ GE270.out | refine below_set ?_ GE274.out | refine below_set ?_ GE277.out) | exact HB.out)⟩
                                  · replace c106 := Bool.eq_false_iff.mpr c106
                                    subst c106
                                    have H1 : ((span_Fit.f t272 t273 a2_0 a2_1).bind fun t280 => (some (t280 == 0))) = some r := by rw [if_neg (show ¬ (false = true) by decide)] at H; exact H
                                    clear H
                                    have H := H1
                                    clear H1
                                    replace H := Option.bind_eq_some_iff.mp H
                                    obtain ⟨t280, A1200, H⟩ := H
                                    replace H : (some (t280 == 0)) = some r := H
                                    have A120 := Aside0.mk A1200
                                    clear A1200
                                    obtain rfl := Option.some.inj H
                                    have hnb121 := NB274_266.out
                                    have hnc121 := NB266_274.out
                                    have hnb122 := NB274_270.out
                                    have hnc122 := NB270_274.out
                                    have hnb123 := NB274_277.out
                                    have hnc123 := NB277_274.out
                                    have hcz124_0 : wc.cell? ⟨gb274, 0, none⟩ = some (.int .i64 t272) := (blk_cell BK274.out 0).trans rfl
                                    have hcz124_1 : wc.cell? ⟨gb274, 1, none⟩ = some (.int .i64 t273) := (blk_cell BK274.out 1).trans rfl
                                    have hfz124_0 := blk_frozen BK274.out 0
                                    have hfz124_1 := blk_frozen BK274.out 1
                                    have hnb125 := NB266_270.out
                                    have hnc125 := NB270_266.out
                                    have hnb126 := NB266_277.out
                                    have hnc126 := NB277_266.out
                                    have hcz127_0 : wc.cell? ⟨gb266, 0, none⟩ = some (.int .i64 a2_0) := (blk_cell BK266.out 0).trans rfl
                                    have hcz127_1 : wc.cell? ⟨gb266, 1, none⟩ = some (.int .i64 a2_1) := (blk_cell BK266.out 1).trans rfl
                                    have hfz127_0 := blk_frozen BK266.out 0
                                    have hfz127_1 := blk_frozen BK266.out 1
                                    as_aux_lemma =>
                                      go_wp2_with (first | (go_at_call 18; (with_reducible refine (span_Size.calls t272 t273 t278 _ A104.out).mono ?_); rintro e w128 ⟨rfl, hb⟩; have n0_ := Aside0.mk (blk_below (g := gb266) (o := .cells #[.int .i64 a2_0, .int .i64 a2_1] 23 (0, 0)) (by (with_reducible repeat (first | refine blk_drewN ?_ _ | refine blk_drew ?_ | refine blk_alloc ?_ _)); exact BK266.out) hb); have n1_ := Aside0.mk (blk_below (g := gb270) (o := .cells #[.int .i64 t268, .int .i64 t269] 23 (0, 0)) (by (with_reducible repeat (first | refine blk_drewN ?_ _ | refine blk_drew ?_ | refine blk_alloc ?_ _)); exact BK270.out) hb); have n2_ := Aside0.mk (blk_below (g := gb274) (o := .cells #[.int .i64 t272, .int .i64 t273] 23 (0, 0)) (by (with_reducible repeat (first | refine blk_drewN ?_ _ | refine blk_drew ?_ | refine blk_alloc ?_ _)); exact BK274.out) hb); have n3_ := Aside0.mk (blk_below (g := gb277) (o := .cells #[.int .i64 t275, .int .i64 t276] 23 (0, 0)) (by (with_reducible repeat (first | refine blk_drewN ?_ _ | refine blk_drew ?_ | refine blk_alloc ?_ _)); exact BK277.out) hb); have n4_ := Aside0.mk (below_step (by repeat (first | (with_reducible first | exact HB.out | apply below_alloc | apply pw_below_drewN | apply below_drew1 | refine below_set ?_ GE266.out | refine below_set ?_ GE270.out | refine below_set ?_ GE274.out | refine below_set ?_ GE277.out) | exact HB.out)) hb); clear BK266; clear BK270; clear BK274; clear BK277; clear HB; have BK266 := n0_; have BK270 := n1_; have BK274 := n2_; have BK277 := n3_; have HB := n4_; clear n0_ n1_ n2_ n3_ n4_; (try clear hb); (try clear hb2); (try clear hk); (try clear hi); have hcz129_0 : w128.cell? ⟨gb274, 0, none⟩ = some (.int .i64 t272) := (blk_cell BK274.out 0).trans rfl; have hcz129_1 : w128.cell? ⟨gb274, 1, none⟩ = some (.int .i64 t273) := (blk_cell BK274.out 1).trans rfl; have hfz129_0 := blk_frozen BK274.out 0; have hfz129_1 := blk_frozen BK274.out 1; have hcz130_0 : w128.cell? ⟨gb266, 0, none⟩ = some (.int .i64 a2_0) := (blk_cell BK266.out 0).trans rfl; have hcz130_1 : w128.cell? ⟨gb266, 1, none⟩ = some (.int .i64 a2_1) := (blk_cell BK266.out 1).trans rfl; have hfz130_0 := blk_frozen BK266.out 0; have hfz130_1 := blk_frozen BK266.out 1) | (go_at_call 30; (with_reducible refine (span_Fit.calls t272 t273 a2_0 a2_1 t280 _ A120.out).mono ?_); rintro e w131 ⟨rfl, hb⟩; have n0_ := Aside0.mk (blk_below (g := gb266) (o := .cells #[.int .i64 a2_0, .int .i64 a2_1] 23 (0, 0)) (by (with_reducible repeat (first | refine blk_drewN ?_ _ | refine blk_drew ?_ | refine blk_alloc ?_ _)); exact BK266.out) hb); have n1_ := Aside0.mk (blk_below (g := gb270) (o := .cells #[.int .i64 t268, .int .i64 t269] 23 (0, 0)) (by (with_reducible repeat (first | refine blk_drewN ?_ _ | refine blk_drew ?_ | refine blk_alloc ?_ _)); exact BK270.out) hb); have n2_ := Aside0.mk (blk_below (g := gb274) (o := .cells #[.int .i64 t272, .int .i64 t273] 23 (0, 0)) (by (with_reducible repeat (first | refine blk_drewN ?_ _ | refine blk_drew ?_ | refine blk_alloc ?_ _)); exact BK274.out) hb); have n3_ := Aside0.mk (blk_below (g := gb277) (o := .cells #[.int .i64 t275, .int .i64 t276] 23 (0, 0)) (by (with_reducible repeat (first | refine blk_drewN ?_ _ | refine blk_drew ?_ | refine blk_alloc ?_ _)); exact BK277.out) hb); have n4_ := Aside0.mk (below_step (by repeat (first | (with_reducible first | exact HB.out | apply below_alloc | apply pw_below_drewN | apply below_drew1 | refine below_set ?_ GE266.out | refine below_set ?_ GE270.out | refine below_set ?_ GE274.out | refine below_set ?_ GE277.out) | exact HB.out)) hb); clear BK266; clear BK270; clear BK274; clear BK277; clear HB; have BK266 := n0_; have BK270 := n1_; have BK274 := n2_; have BK277 := n3_; have HB := n4_; clear n0_ n1_ n2_ n3_ n4_; (try clear hb); (try clear hb2); (try clear hk); (try clear hi)))
                                      go_ret
                                      exact ⟨by first | rfl | (cases Option.some.inj (A120.out.symm.trans A108.out); rfl) | (cases Option.some.inj (A108.out.symm.trans A120.out); rfl) | (simp [errW_none, errW_some] <;> rfl) | (simp [*, errW_none, errW_some] <;> rfl), by repeat (first | (with_reducible first | exact HB.out | apply below_alloc | apply pw_below_drewN | apply below_drew1 | refine below_set ?_ GE266.out | refine below_set ?_ GE270.out | refine below_set ?_ GE274.out | refine below_set ?_ GE277.out) | exact HB.out)⟩
                                · rw [if_neg c105] at H
                                  exact absurd H (by simp)
                              · rw [if_neg c103] at H
                                exact absurd H (by simp)
                            · rw [if_neg c102] at H
                              exact absurd H (by simp)
                          · exact absurd rfl c101
  · replace c6 := Bool.eq_false_iff.mpr c6
    subst c6
    have H1 : (none) = some r := by rw [if_neg (show ¬ (false = true) by decide)] at H; exact H
    clear H
    have H := H1
    clear H1
    exact absurd H (by simp)

/-- THE ONE PURE STATEMENT of valancelaw03_SpanFits: yours. -/
def valancelaw03_SpanFits.Pure : Prop := ∀ (a0 : Int) (a1 : Int) (a2_0 : Int) (a2_1 : Int) (a3 : Int), (Lit.int .i64 a0).wf = true → (Lit.int .i64 a1).wf = true → (Lit.int .i64 a2_0).wf = true → (Lit.int .i64 a2_1).wf = true → (Lit.int .i64 a3).wf = true → ∃ k, valancelaw03_SpanFits.f k a0 a1 a2_0 a2_1 a3 = some true
theorem valancelaw03_SpanFits.walk (P : valancelaw03_SpanFits.Pure) (a0 : Int) (a1 : Int) (a2_0 : Int) (a2_1 : Int) (a3 : Int) (w : World) (w0 : (Lit.int .i64 a0).wf = true) (w1 : (Lit.int .i64 a1).wf = true) (w2_0 : (Lit.int .i64 a2_0).wf = true) (w2_1 : (Lit.int .i64 a2_1).wf = true) (w3 : (Lit.int .i64 a3).wf = true) :
    Calls Try.prog 5 #[.int .i64 a0, .int .i64 a1, .agg #[.int .i64 a2_0, .int .i64 a2_1], .int .i64 a3] w fun e w' => e = .returned (.bool true) ∧ Below w.heap.size w w' := by
  obtain ⟨k, h⟩ := P a0 a1 a2_0 a2_1 a3 w0 w1 w2_0 w2_1 w3
  refine (valancelaw03_SpanFits.calls k a0 a1 a2_0 a2_1 a3 true w h).mono ?_
  rintro e w' ⟨rfl, hd⟩
  exact ⟨rfl, hd⟩

end Go.Proofs.Ytcadddijlgcnbaa.V
