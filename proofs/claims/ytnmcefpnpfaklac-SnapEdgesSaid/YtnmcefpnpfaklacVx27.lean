/- What the functions of this seat answer, as plain Lean functions, and that the calls come to just that (written by a program of this repo, over the kit's printer; Lean checks it). -/
import Derived.Test.YtnmcefpnpfaklacVx0
import Derived.Test.YtnmcefpnpfaklacVx4
import Derived.Test.YtnmcefpnpfaklacVx10
namespace Go.Proofs.Ytnmcefpnpfaklac.V
open Go.RowKit Go.Proofs.YtnmcefpnpfaklacW.PrintWords Go.Proofs.YtnmcefpnpfaklacW.PrintLast Go.Proofs.YtnmcefpnpfaklacW.PrintMore
attribute [local go_sem] max2_int min2_int max_two min_two max_three min_three max_four min_four   -- for this text's walks alone
set_option linter.unusedVariables false
set_option linter.unusedSimpArgs false

/-! ### valancelaw11_SnapEdges: function 7 -/
def valancelaw11_SnapEdges.j0 : Nat → Int → Bool → Bool → Int → Int → Option (Bool)
  | 0, _, _, _, _, _ => none
  | k + 1, x1, x5, x40, x246000, x246001 => if x40 = true then (some x5) else ((snap_At.f x246000 x246001 1 x1).bind fun bt247 => ((snap_At.f x246000 x246001 3 x1).bind fun bt249 => ((snap_At.f x246000 x246001 2 x1).bind fun bt251 => ((snap_At.f x246000 x246001 0 x1).bind fun bt253 => (if x5 = true then (if bt247.2 = true then (if bt249.2 = true then (if bt251.2 = true then (if bt253.2 = true then (none) else (if bt247.1 = x246000 then (if (wrap64 (bt249.1 + x1)) = x246001 then (if (wrap64 ((wrap64 (x246000 + x246001)) - (wrap64 ((wrap64 (bt251.1 + bt251.1)) + x1)))) ≥ 0 then (some (decide ((wrap64 ((wrap64 (x246000 + x246001)) - (wrap64 ((wrap64 (bt251.1 + bt251.1)) + x1)))) ≤ 1))) else (none)) else (none)) else (none))) else (none)) else (none)) else (none)) else (none))))))
def valancelaw11_SnapEdges.f (k : Nat) (a0_0 : Int) (a0_1 : Int) (a1 : Int) : Option (Bool) := (valancelaw11_works.f).bind fun t246 => (if t246 = true then (if a0_0 < (-1073741824) then (valancelaw11_SnapEdges.j0 k a1 t246 true a0_0 a0_1) else (if a0_1 > 1073741824 then (valancelaw11_SnapEdges.j0 k a1 t246 true a0_0 a0_1) else (if a0_0 > a0_1 then (valancelaw11_SnapEdges.j0 k a1 t246 true a0_0 a0_1) else (if a1 < 0 then (valancelaw11_SnapEdges.j0 k a1 t246 true a0_0 a0_1) else (valancelaw11_SnapEdges.j0 k a1 t246 (decide (a1 > 1073741824)) a0_0 a0_1))))) else (none))
theorem valancelaw11_SnapEdges.mono_l : ∀ k, (∀ y0 y1 y2 y3 y4, LeO (valancelaw11_SnapEdges.j0 k y0 y1 y2 y3 y4) (valancelaw11_SnapEdges.j0 (k + 1) y0 y1 y2 y3 y4))
  | 0 => fun _ _ _ _ _ r h => by simp [valancelaw11_SnapEdges.j0] at h
  | k + 1 => by
    have ih0 := valancelaw11_SnapEdges.mono_l k
    · intro y0 y1 y2 y3 y4
      unfold valancelaw11_SnapEdges.j0
      repeat' first
      | (with_reducible exact ih0 _ _ _ _ _)
      | (with_reducible exact LeO.refl _)
      | (with_reducible exact LeO.none _)
      | (with_reducible refine LeO.ite ?_ ?_)
      | (with_reducible refine LeO.bind ?_ (fun _ => ?_))
      | exact ih0 _ _ _ _ _
      | exact LeO.none _
      | refine LeO.ite ?_ ?_
      | refine LeO.bind ?_ (fun _ => ?_)
theorem valancelaw11_SnapEdges.mono : ∀ a0 a1 a2 k, LeO (valancelaw11_SnapEdges.f k a0 a1 a2) (valancelaw11_SnapEdges.f (k + 1) a0 a1 a2) := by
  intro a0 a1 a2 k
  have ih0 := valancelaw11_SnapEdges.mono_l k
  unfold valancelaw11_SnapEdges.f
  repeat' first
      | (with_reducible exact ih0 _ _ _ _ _)
      | (with_reducible exact LeO.refl _)
      | (with_reducible exact LeO.none _)
      | (with_reducible refine LeO.ite ?_ ?_)
      | (with_reducible refine LeO.bind ?_ (fun _ => ?_))
      | exact ih0 _ _ _ _ _
      | exact LeO.none _
      | refine LeO.ite ?_ ?_
      | refine LeO.bind ?_ (fun _ => ?_)
set_option maxHeartbeats 8000000 in
set_option maxRecDepth 100000 in
theorem valancelaw11_SnapEdges.calls (k : Nat) (a0_0 : Int) (a0_1 : Int) (a1 : Int) (r : Bool) (w : World) (h : valancelaw11_SnapEdges.f k a0_0 a0_1 a1 = some r) :
    Calls Try.prog 7 #[.agg #[.int .i64 a0_0, .int .i64 a0_1], .int .i64 a1] w fun e w' => e = .returned (.bool r) ∧ Below w.heap.size w w' := by
  have hu30 := Try.underlying30
  have hu33 := Try.underlying33
  have HB := Aside0.mk (Below.refl w.heap.size w)
  have H : ((valancelaw11_works.f).bind fun t246 => (if t246 = true then (if a0_0 < (-1073741824) then (valancelaw11_SnapEdges.j0 k a1 t246 true a0_0 a0_1) else (if a0_1 > 1073741824 then (valancelaw11_SnapEdges.j0 k a1 t246 true a0_0 a0_1) else (if a0_0 > a0_1 then (valancelaw11_SnapEdges.j0 k a1 t246 true a0_0 a0_1) else (if a1 < 0 then (valancelaw11_SnapEdges.j0 k a1 t246 true a0_0 a0_1) else (valancelaw11_SnapEdges.j0 k a1 t246 (decide (a1 > 1073741824)) a0_0 a0_1))))) else (none))) = some r := h
  clear h
  replace H := Option.bind_eq_some_iff.mp H
  obtain ⟨t246, A30, H⟩ := H
  replace H : (if t246 = true then (if a0_0 < (-1073741824) then (valancelaw11_SnapEdges.j0 k a1 t246 true a0_0 a0_1) else (if a0_1 > 1073741824 then (valancelaw11_SnapEdges.j0 k a1 t246 true a0_0 a0_1) else (if a0_0 > a0_1 then (valancelaw11_SnapEdges.j0 k a1 t246 true a0_0 a0_1) else (if a1 < 0 then (valancelaw11_SnapEdges.j0 k a1 t246 true a0_0 a0_1) else (valancelaw11_SnapEdges.j0 k a1 t246 (decide (a1 > 1073741824)) a0_0 a0_1))))) else (none)) = some r := H
  have A3 := Aside0.mk A30
  clear A30
  by_cases c4 : t246 = true
  · subst c4
    have H1 : (if a0_0 < (-1073741824) then (valancelaw11_SnapEdges.j0 k a1 true true a0_0 a0_1) else (if a0_1 > 1073741824 then (valancelaw11_SnapEdges.j0 k a1 true true a0_0 a0_1) else (if a0_0 > a0_1 then (valancelaw11_SnapEdges.j0 k a1 true true a0_0 a0_1) else (if a1 < 0 then (valancelaw11_SnapEdges.j0 k a1 true true a0_0 a0_1) else (valancelaw11_SnapEdges.j0 k a1 true (decide (a1 > 1073741824)) a0_0 a0_1))))) = some r := by rw [if_pos rfl] at H; exact H
    clear H
    have H := H1
    clear H1
    have HC5 := Aside0.mk H
    clear H
    go_enter Try.func7, Try.ntmps7
    go_upto_region 4 with (first | ((with_reducible refine gate_dst (N := 2) rfl ?_); refine box_event ?hg (N := 2) ?hd (cs := #[.int .i64 a0_0, .int .i64 a0_1]) (t := 30) ?hr ?_; (case hd => rfl); (case hg => rfl); (case hr => first | (go_simp; done) | (go_simp; rfl)); intro gb245 hg w6 hbox hb; have n0_ := Aside0.mk (below_step (by repeat (first | (with_reducible first | exact HB.out | apply below_alloc | apply pw_below_drewN | apply below_drew1) | exact HB.out)) hb); have n1_ := Aside0.mk (hbox); have n2_ := Aside0.mk ((by rw [hg]; exact (below_size (by repeat (first | (with_reducible first | exact HB.out | apply below_alloc | apply pw_below_drewN | apply below_drew1) | exact HB.out))) : w.heap.size ≤ gb245)); have n3_ := Aside0.mk ((by rw [hg]; exact (below_size (by repeat (first | (with_reducible first | exact HB.out | apply below_alloc | apply pw_below_drewN | apply below_drew1) | exact HB.out))) : w.heap.size ≤ gb245)); clear HB; have HB := n0_; have BK245 := n1_; have GW245 := n2_; have GE245 := n3_; clear n0_ n1_ n2_ n3_; clear hb hbox hg) | ((with_reducible refine gate_callee (f := 15) rfl ?_); refine goesL_ (some 15) rfl rfl Try.func15 (by kernel_rfl) rfl #[] rfl (by (try simp only [List.map_toArray, List.map_cons, List.map_nil]); first | done | rfl | (simp only [List.length_drop, List.length_take]; rfl)) ?_; (with_reducible refine (valancelaw11_works.calls  true _ A3.out).mono ?_); rintro e w7 ⟨rfl, hb⟩; refine ⟨_, rfl, ?_⟩; have n0_ := Aside0.mk (blk_below (g := gb245) (o := .cells #[.int .i64 a0_0, .int .i64 a0_1] 30 (0, 0)) (by (with_reducible repeat (first | refine blk_drewN ?_ _ | refine blk_drew ?_ | refine blk_alloc ?_ _)); exact BK245.out) hb); have n1_ := Aside0.mk (below_step (by repeat (first | (with_reducible first | exact HB.out | apply below_alloc | apply pw_below_drewN | apply below_drew1 | refine below_set ?_ GE245.out) | exact HB.out)) hb); clear BK245; clear HB; have BK245 := n0_; have HB := n1_; clear n0_ n1_; (try clear hb); (try clear hb2); (try clear hk); (try clear hi)))
    (try simp only [Act.put, List.setIfInBounds_toArray, List.set_cons_zero, List.set_cons_succ])
    go_cut [40] (fun v40 wc => ∃ (kq : Nat) (x40_4 : Bool), v40 = .bool x40_4 ∧ Aside0 (valancelaw11_SnapEdges.j0 kq a1 true x40_4 a0_0 a0_1 = some r) ∧ Aside0 (kq ≤ k) ∧ Aside0 (wc.heap[gb245]? = some (.cells #[.int .i64 a0_0, .int .i64 a0_1] 30 (0, 0))) ∧ Aside0 (Below w.heap.size w wc))
    case first =>
      have H := HC5.out
      clear HC5
      by_cases c8 : a0_0 < (-1073741824)
      · rw [if_pos c8] at H
        have c8b0 : decide (a0_0 < (-1073741824)) = true := decide_eq_true c8
        clear c8
        (first | rw [c8b0] | (simp only [i64_w, i32_w]; rw [c8b0]) | skip)
        have H' := Aside0.mk H
        clear H
        have hcz9_0 : w7.cell? ⟨gb245, 0, none⟩ = some (.int .i64 a0_0) := (blk_cell BK245.out 0).trans rfl
        have hcz9_1 : w7.cell? ⟨gb245, 1, none⟩ = some (.int .i64 a0_1) := (blk_cell BK245.out 1).trans rfl
        have hfz9_0 := blk_frozen BK245.out 0
        have hfz9_1 := blk_frozen BK245.out 1
        go_wp2
        go_meet
        case rel => exact ⟨_, (true), (by first | rfl | (simp; done) | (simp [*]; done)), H', ⟨by first | omega | exact Nat.le_refl _⟩, ⟨by (with_reducible repeat (first | refine blk_drewN ?_ _ | refine blk_drew ?_ | refine blk_alloc ?_ _)); exact BK245.out⟩, ⟨by repeat (first | (with_reducible first | exact HB.out | apply below_alloc | apply pw_below_drewN | apply below_drew1 | refine below_set ?_ GE245.out) | exact HB.out)⟩⟩
      · rw [if_neg c8] at H
        have c8b0 : decide (a0_0 < (-1073741824)) = false := decide_eq_false c8
        clear c8
        (first | rw [c8b0] | (simp only [i64_w, i32_w]; rw [c8b0]) | skip)
        by_cases c10 : a0_1 > 1073741824
        · rw [if_pos c10] at H
          have c10b0 : decide (1073741824 < a0_1) = true := decide_eq_true c10
          clear c10
          have H' := Aside0.mk H
          clear H
          have hcz11_0 : w7.cell? ⟨gb245, 0, none⟩ = some (.int .i64 a0_0) := (blk_cell BK245.out 0).trans rfl
          have hcz11_1 : w7.cell? ⟨gb245, 1, none⟩ = some (.int .i64 a0_1) := (blk_cell BK245.out 1).trans rfl
          have hfz11_0 := blk_frozen BK245.out 0
          have hfz11_1 := blk_frozen BK245.out 1
          go_wp2
          go_meet
          case rel => exact ⟨_, (true), (by first | rfl | (simp; done) | (simp [*]; done)), H', ⟨by first | omega | exact Nat.le_refl _⟩, ⟨by (with_reducible repeat (first | refine blk_drewN ?_ _ | refine blk_drew ?_ | refine blk_alloc ?_ _)); exact BK245.out⟩, ⟨by repeat (first | (with_reducible first | exact HB.out | apply below_alloc | apply pw_below_drewN | apply below_drew1 | refine below_set ?_ GE245.out) | exact HB.out)⟩⟩
        · rw [if_neg c10] at H
          have c10b0 : decide (1073741824 < a0_1) = false := decide_eq_false c10
          clear c10
          by_cases c12 : a0_0 > a0_1
          · rw [if_pos c12] at H
            have c12b0 : decide (a0_1 < a0_0) = true := decide_eq_true c12
            clear c12
            have H' := Aside0.mk H
            clear H
            have hcz13_0 : w7.cell? ⟨gb245, 0, none⟩ = some (.int .i64 a0_0) := (blk_cell BK245.out 0).trans rfl
            have hcz13_1 : w7.cell? ⟨gb245, 1, none⟩ = some (.int .i64 a0_1) := (blk_cell BK245.out 1).trans rfl
            have hfz13_0 := blk_frozen BK245.out 0
            have hfz13_1 := blk_frozen BK245.out 1
            go_wp2
            go_meet
            case rel => exact ⟨_, (true), (by first | rfl | (simp; done) | (simp [*]; done)), H', ⟨by first | omega | exact Nat.le_refl _⟩, ⟨by (with_reducible repeat (first | refine blk_drewN ?_ _ | refine blk_drew ?_ | refine blk_alloc ?_ _)); exact BK245.out⟩, ⟨by repeat (first | (with_reducible first | exact HB.out | apply below_alloc | apply pw_below_drewN | apply below_drew1 | refine below_set ?_ GE245.out) | exact HB.out)⟩⟩
          · rw [if_neg c12] at H
            have c12b0 : decide (a0_1 < a0_0) = false := decide_eq_false c12
            clear c12
            by_cases c14 : a1 < 0
            · rw [if_pos c14] at H
              have c14b0 : decide (a1 < 0) = true := decide_eq_true c14
              clear c14
              have H' := Aside0.mk H
              clear H
              have hcz15_0 : w7.cell? ⟨gb245, 0, none⟩ = some (.int .i64 a0_0) := (blk_cell BK245.out 0).trans rfl
              have hcz15_1 : w7.cell? ⟨gb245, 1, none⟩ = some (.int .i64 a0_1) := (blk_cell BK245.out 1).trans rfl
              have hfz15_0 := blk_frozen BK245.out 0
              have hfz15_1 := blk_frozen BK245.out 1
              go_wp2
              go_meet
              case rel => exact ⟨_, (true), (by first | rfl | (simp; done) | (simp [*]; done)), H', ⟨by first | omega | exact Nat.le_refl _⟩, ⟨by (with_reducible repeat (first | refine blk_drewN ?_ _ | refine blk_drew ?_ | refine blk_alloc ?_ _)); exact BK245.out⟩, ⟨by repeat (first | (with_reducible first | exact HB.out | apply below_alloc | apply pw_below_drewN | apply below_drew1 | refine below_set ?_ GE245.out) | exact HB.out)⟩⟩
            · rw [if_neg c14] at H
              have c14b0 : decide (a1 < 0) = false := decide_eq_false c14
              clear c14
              have H' := Aside0.mk H
              clear H
              have hcz16_0 : w7.cell? ⟨gb245, 0, none⟩ = some (.int .i64 a0_0) := (blk_cell BK245.out 0).trans rfl
              have hcz16_1 : w7.cell? ⟨gb245, 1, none⟩ = some (.int .i64 a0_1) := (blk_cell BK245.out 1).trans rfl
              have hfz16_0 := blk_frozen BK245.out 0
              have hfz16_1 := blk_frozen BK245.out 1
              go_wp2
              go_meet
              case rel => exact ⟨_, (decide (a1 > 1073741824)), (by first | rfl | (simp; done) | (simp [*]; done)), H', ⟨by first | omega | exact Nat.le_refl _⟩, ⟨by (with_reducible repeat (first | refine blk_drewN ?_ _ | refine blk_drew ?_ | refine blk_alloc ?_ _)); exact BK245.out⟩, ⟨by repeat (first | (with_reducible first | exact HB.out | apply below_alloc | apply pw_below_drewN | apply below_drew1 | refine below_set ?_ GE245.out) | exact HB.out)⟩⟩
    case rest =>
      clear HC5
      try clear c1
      try clear p2
      try clear c4
      try clear c7
      try clear c8
      try clear c8b0
      try clear c10
      try clear c10b0
      try clear c12
      try clear c12b0
      try clear c14
      try clear c14b0
      try clear c15
      try clear hcz11_0
      try clear hcz11_1
      try clear hcz13_0
      try clear hcz13_1
      try clear hcz15_0
      try clear hcz15_1
      try clear hcz16_0
      try clear hcz16_1
      try clear hcz9_0
      try clear hcz9_1
      try clear hfz11_0
      try clear hfz11_1
      try clear hfz13_0
      try clear hfz13_1
      try clear hfz15_0
      try clear hfz15_1
      try clear hfz16_0
      try clear hfz16_1
      try clear hfz9_0
      try clear hfz9_1
      obtain ⟨kq, x40_4, rfl, HA, HJ4, BK245, HB⟩ := hcut
      cases kq with
      | zero => exact absurd HA.out (by simp [valancelaw11_SnapEdges.j0])
      | succ kj4 =>
        have H := HA.out
        clear HA
        simp only [valancelaw11_SnapEdges.j0] at H
        by_cases c17 : x40_4 = true
        · subst c17
          have H1 : (some true) = some r := by rw [if_pos rfl] at H; exact H
          clear H
          have H := H1
          clear H1
          obtain rfl := Option.some.inj H
          go_wp2
          go_ret
          exact ⟨by first | rfl | (simp [errW_none, errW_some] <;> rfl) | (simp [*, errW_none, errW_some] <;> rfl), by repeat (first | (with_reducible first | exact HB.out | apply below_alloc | apply pw_below_drewN | apply below_drew1 | refine below_set ?_ GE245.out) | exact HB.out)⟩
        · replace c17 := Bool.eq_false_iff.mpr c17
          subst c17
          have H1 : ((snap_At.f a0_0 a0_1 1 a1).bind fun bt247 => ((snap_At.f a0_0 a0_1 3 a1).bind fun bt249 => ((snap_At.f a0_0 a0_1 2 a1).bind fun bt251 => ((snap_At.f a0_0 a0_1 0 a1).bind fun bt253 => (if true = true then (if bt247.2 = true then (if bt249.2 = true then (if bt251.2 = true then (if bt253.2 = true then (none) else (if bt247.1 = a0_0 then (if (wrap64 (bt249.1 + a1)) = a0_1 then (if (wrap64 ((wrap64 (a0_0 + a0_1)) - (wrap64 ((wrap64 (bt251.1 + bt251.1)) + a1)))) ≥ 0 then (some (decide ((wrap64 ((wrap64 (a0_0 + a0_1)) - (wrap64 ((wrap64 (bt251.1 + bt251.1)) + a1)))) ≤ 1))) else (none)) else (none)) else (none))) else (none)) else (none)) else (none)) else (none)))))) = some r := by rw [if_neg (show ¬ (false = true) by decide)] at H; exact H
          clear H
          have H := H1
          clear H1
          replace H := Option.bind_eq_some_iff.mp H
          obtain ⟨⟨t247, t248⟩, A180, H⟩ := H
          replace H : ((snap_At.f a0_0 a0_1 3 a1).bind fun bt249 => ((snap_At.f a0_0 a0_1 2 a1).bind fun bt251 => ((snap_At.f a0_0 a0_1 0 a1).bind fun bt253 => (if true = true then (if t248 = true then (if bt249.2 = true then (if bt251.2 = true then (if bt253.2 = true then (none) else (if t247 = a0_0 then (if (wrap64 (bt249.1 + a1)) = a0_1 then (if (wrap64 ((wrap64 (a0_0 + a0_1)) - (wrap64 ((wrap64 (bt251.1 + bt251.1)) + a1)))) ≥ 0 then (some (decide ((wrap64 ((wrap64 (a0_0 + a0_1)) - (wrap64 ((wrap64 (bt251.1 + bt251.1)) + a1)))) ≤ 1))) else (none)) else (none)) else (none))) else (none)) else (none)) else (none)) else (none))))) = some r := H
          have A18 := Aside0.mk A180
          clear A180
          replace H := Option.bind_eq_some_iff.mp H
          obtain ⟨⟨t249, t250⟩, A190, H⟩ := H
          replace H : ((snap_At.f a0_0 a0_1 2 a1).bind fun bt251 => ((snap_At.f a0_0 a0_1 0 a1).bind fun bt253 => (if true = true then (if t248 = true then (if t250 = true then (if bt251.2 = true then (if bt253.2 = true then (none) else (if t247 = a0_0 then (if (wrap64 (t249 + a1)) = a0_1 then (if (wrap64 ((wrap64 (a0_0 + a0_1)) - (wrap64 ((wrap64 (bt251.1 + bt251.1)) + a1)))) ≥ 0 then (some (decide ((wrap64 ((wrap64 (a0_0 + a0_1)) - (wrap64 ((wrap64 (bt251.1 + bt251.1)) + a1)))) ≤ 1))) else (none)) else (none)) else (none))) else (none)) else (none)) else (none)) else (none)))) = some r := H
          have A19 := Aside0.mk A190
          clear A190
          replace H := Option.bind_eq_some_iff.mp H
          obtain ⟨⟨t251, t252⟩, A200, H⟩ := H
          replace H : ((snap_At.f a0_0 a0_1 0 a1).bind fun bt253 => (if true = true then (if t248 = true then (if t250 = true then (if t252 = true then (if bt253.2 = true then (none) else (if t247 = a0_0 then (if (wrap64 (t249 + a1)) = a0_1 then (if (wrap64 ((wrap64 (a0_0 + a0_1)) - (wrap64 ((wrap64 (t251 + t251)) + a1)))) ≥ 0 then (some (decide ((wrap64 ((wrap64 (a0_0 + a0_1)) - (wrap64 ((wrap64 (t251 + t251)) + a1)))) ≤ 1))) else (none)) else (none)) else (none))) else (none)) else (none)) else (none)) else (none))) = some r := H
          have A20 := Aside0.mk A200
          clear A200
          replace H := Option.bind_eq_some_iff.mp H
          obtain ⟨⟨t253, t254⟩, A210, H⟩ := H
          replace H : (if true = true then (if t248 = true then (if t250 = true then (if t252 = true then (if t254 = true then (none) else (if t247 = a0_0 then (if (wrap64 (t249 + a1)) = a0_1 then (if (wrap64 ((wrap64 (a0_0 + a0_1)) - (wrap64 ((wrap64 (t251 + t251)) + a1)))) ≥ 0 then (some (decide ((wrap64 ((wrap64 (a0_0 + a0_1)) - (wrap64 ((wrap64 (t251 + t251)) + a1)))) ≤ 1))) else (none)) else (none)) else (none))) else (none)) else (none)) else (none)) else (none)) = some r := H
          have A21 := Aside0.mk A210
          clear A210
          by_cases c22 : true = true
          · clear c22
            have H1 : (if t248 = true then (if t250 = true then (if t252 = true then (if t254 = true then (none) else (if t247 = a0_0 then (if (wrap64 (t249 + a1)) = a0_1 then (if (wrap64 ((wrap64 (a0_0 + a0_1)) - (wrap64 ((wrap64 (t251 + t251)) + a1)))) ≥ 0 then (some (decide ((wrap64 ((wrap64 (a0_0 + a0_1)) - (wrap64 ((wrap64 (t251 + t251)) + a1)))) ≤ 1))) else (none)) else (none)) else (none))) else (none)) else (none)) else (none)) = some r := by first | (rw [if_pos rfl] at H; exact H) | (rw [if_pos True.intro] at H; exact H)
            clear H
            have H := H1
            clear H1
            by_cases c23 : t248 = true
            · subst c23
              have H1 : (if t250 = true then (if t252 = true then (if t254 = true then (none) else (if t247 = a0_0 then (if (wrap64 (t249 + a1)) = a0_1 then (if (wrap64 ((wrap64 (a0_0 + a0_1)) - (wrap64 ((wrap64 (t251 + t251)) + a1)))) ≥ 0 then (some (decide ((wrap64 ((wrap64 (a0_0 + a0_1)) - (wrap64 ((wrap64 (t251 + t251)) + a1)))) ≤ 1))) else (none)) else (none)) else (none))) else (none)) else (none)) = some r := by first | (rw [if_pos rfl] at H; exact H) | (rw [if_pos True.intro] at H; exact H)
              clear H
              have H := H1
              clear H1
              by_cases c24 : t250 = true
              · subst c24
                have H1 : (if t252 = true then (if t254 = true then (none) else (if t247 = a0_0 then (if (wrap64 (t249 + a1)) = a0_1 then (if (wrap64 ((wrap64 (a0_0 + a0_1)) - (wrap64 ((wrap64 (t251 + t251)) + a1)))) ≥ 0 then (some (decide ((wrap64 ((wrap64 (a0_0 + a0_1)) - (wrap64 ((wrap64 (t251 + t251)) + a1)))) ≤ 1))) else (none)) else (none)) else (none))) else (none)) = some r := by first | (rw [if_pos rfl] at H; exact H) | (rw [if_pos True.intro] at H; exact H)
                clear H
                have H := H1
                clear H1
                by_cases c25 : t252 = true
                · subst c25
                  have H1 : (if t254 = true then (none) else (if t247 = a0_0 then (if (wrap64 (t249 + a1)) = a0_1 then (if (wrap64 ((wrap64 (a0_0 + a0_1)) - (wrap64 ((wrap64 (t251 + t251)) + a1)))) ≥ 0 then (some (decide ((wrap64 ((wrap64 (a0_0 + a0_1)) - (wrap64 ((wrap64 (t251 + t251)) + a1)))) ≤ 1))) else (none)) else (none)) else (none))) = some r := by first | (rw [if_pos rfl] at H; exact H) | (rw [if_pos True.intro] at H; exact H)
                  clear H
                  have H := H1
                  clear H1
                  by_cases c26 : t254 = true
                  · subst c26
                    have H1 : (none) = some r := by first | (rw [if_pos rfl] at H; exact H) | (rw [if_pos True.intro] at H; exact H)
                    clear H
                    have H := H1
                    clear H1
                    exact absurd H (by simp)
                  · replace c26 := Bool.eq_false_iff.mpr c26
                    subst c26
                    have H1 : (if t247 = a0_0 then (if (wrap64 (t249 + a1)) = a0_1 then (if (wrap64 ((wrap64 (a0_0 + a0_1)) - (wrap64 ((wrap64 (t251 + t251)) + a1)))) ≥ 0 then (some (decide ((wrap64 ((wrap64 (a0_0 + a0_1)) - (wrap64 ((wrap64 (t251 + t251)) + a1)))) ≤ 1))) else (none)) else (none)) else (none)) = some r := by rw [if_neg (show ¬ (false = true) by decide)] at H; exact H
                    clear H
                    have H := H1
                    clear H1
                    by_cases c27 : t247 = a0_0
                    · rw [if_pos c27] at H
                      have c27b0 : (t247 == a0_0) = true := beq_iff_eq.mpr c27
                      have c27b1 : (t247 != a0_0) = false := bne_eq_false_iff_eq.mpr c27
                      clear c27
                      by_cases c28 : (wrap64 (t249 + a1)) = a0_1
                      · rw [if_pos c28] at H
                        have c28b0 : ((wrap64 (t249 + a1)) == a0_1) = true := beq_iff_eq.mpr c28
                        have c28b1 : ((wrap64 (t249 + a1)) != a0_1) = false := bne_eq_false_iff_eq.mpr c28
                        clear c28
                        by_cases c29 : (wrap64 ((wrap64 (a0_0 + a0_1)) - (wrap64 ((wrap64 (t251 + t251)) + a1)))) ≥ 0
                        · rw [if_pos c29] at H
                          have c29b0 : decide (0 ≤ (wrap64 ((wrap64 (a0_0 + a0_1)) - (wrap64 ((wrap64 (t251 + t251)) + a1))))) = true := decide_eq_true c29
                          clear c29
                          obtain rfl := Option.some.inj H
                          have hcz30_0 : wc.cell? ⟨gb245, 0, none⟩ = some (.int .i64 a0_0) := (blk_cell BK245.out 0).trans rfl
                          have hcz30_1 : wc.cell? ⟨gb245, 1, none⟩ = some (.int .i64 a0_1) := (blk_cell BK245.out 1).trans rfl
                          have hfz30_0 := blk_frozen BK245.out 0
                          have hfz30_1 := blk_frozen BK245.out 1
                          go_wp2_with (first | ((with_reducible refine gate_callee (f := 17) rfl ?_); refine goesL_ (some 46) rfl rfl Try.func17 (by kernel_rfl) rfl #[.agg #[.int .i64 a0_0, .int .i64 a0_1, .int .i64 1], .int .i64 a1] rfl (by (try simp only [List.map_toArray, List.map_cons, List.map_nil]); first | done | rfl | (simp only [List.length_drop, List.length_take]; rfl)) ?_; (with_reducible refine (snap_At.calls a0_0 a0_1 1 a1 t247 true _ A18.out).mono ?_); rintro e w31 ⟨rfl, hb⟩; refine ⟨_, rfl, ?_⟩; have n0_ := Aside0.mk (blk_below (g := gb245) (o := .cells #[.int .i64 a0_0, .int .i64 a0_1] 30 (0, 0)) (by (with_reducible repeat (first | refine blk_drewN ?_ _ | refine blk_drew ?_ | refine blk_alloc ?_ _)); exact BK245.out) hb); have n1_ := Aside0.mk (below_step (by repeat (first | (with_reducible first | exact HB.out | apply below_alloc | apply pw_below_drewN | apply below_drew1 | refine below_set ?_ GE245.out) | exact HB.out)) hb); clear BK245; clear HB; have BK245 := n0_; have HB := n1_; clear n0_ n1_; (try clear hb); (try clear hb2); (try clear hk); (try clear hi); have hcz32_0 : w31.cell? ⟨gb245, 0, none⟩ = some (.int .i64 a0_0) := (blk_cell BK245.out 0).trans rfl; have hcz32_1 : w31.cell? ⟨gb245, 1, none⟩ = some (.int .i64 a0_1) := (blk_cell BK245.out 1).trans rfl; have hfz32_0 := blk_frozen BK245.out 0; have hfz32_1 := blk_frozen BK245.out 1) | ((with_reducible refine gate_callee (f := 17) rfl ?_); refine goesL_ (some 53) rfl rfl Try.func17 (by kernel_rfl) rfl #[.agg #[.int .i64 a0_0, .int .i64 a0_1, .int .i64 3], .int .i64 a1] rfl (by (try simp only [List.map_toArray, List.map_cons, List.map_nil]); first | done | rfl | (simp only [List.length_drop, List.length_take]; rfl)) ?_; (with_reducible refine (snap_At.calls a0_0 a0_1 3 a1 t249 true _ A19.out).mono ?_); rintro e w33 ⟨rfl, hb⟩; refine ⟨_, rfl, ?_⟩; have n0_ := Aside0.mk (blk_below (g := gb245) (o := .cells #[.int .i64 a0_0, .int .i64 a0_1] 30 (0, 0)) (by (with_reducible repeat (first | refine blk_drewN ?_ _ | refine blk_drew ?_ | refine blk_alloc ?_ _)); exact BK245.out) hb); have n1_ := Aside0.mk (below_step (by repeat (first | (with_reducible first | exact HB.out | apply below_alloc | apply pw_below_drewN | apply below_drew1 | refine below_set ?_ GE245.out) | exact HB.out)) hb); clear BK245; clear HB; have BK245 := n0_; have HB := n1_; clear n0_ n1_; (try clear hb); (try clear hb2); (try clear hk); (try clear hi); have hcz34_0 : w33.cell? ⟨gb245, 0, none⟩ = some (.int .i64 a0_0) := (blk_cell BK245.out 0).trans rfl; have hcz34_1 : w33.cell? ⟨gb245, 1, none⟩ = some (.int .i64 a0_1) := (blk_cell BK245.out 1).trans rfl; have hfz34_0 := blk_frozen BK245.out 0; have hfz34_1 := blk_frozen BK245.out 1) | ((with_reducible refine gate_callee (f := 17) rfl ?_); refine goesL_ (some 60) rfl rfl Try.func17 (by kernel_rfl) rfl #[.agg #[.int .i64 a0_0, .int .i64 a0_1, .int .i64 2], .int .i64 a1] rfl (by (try simp only [List.map_toArray, List.map_cons, List.map_nil]); first | done | rfl | (simp only [List.length_drop, List.length_take]; rfl)) ?_; (with_reducible refine (snap_At.calls a0_0 a0_1 2 a1 t251 true _ A20.out).mono ?_); rintro e w35 ⟨rfl, hb⟩; refine ⟨_, rfl, ?_⟩; have n0_ := Aside0.mk (blk_below (g := gb245) (o := .cells #[.int .i64 a0_0, .int .i64 a0_1] 30 (0, 0)) (by (with_reducible repeat (first | refine blk_drewN ?_ _ | refine blk_drew ?_ | refine blk_alloc ?_ _)); exact BK245.out) hb); have n1_ := Aside0.mk (below_step (by repeat (first | (with_reducible first | exact HB.out | apply below_alloc | apply pw_below_drewN | apply below_drew1 | refine below_set ?_ GE245.out) | exact HB.out)) hb); clear BK245; clear HB; have BK245 := n0_; have HB := n1_; clear n0_ n1_; (try clear hb); (try clear hb2); (try clear hk); (try clear hi); have hcz36_0 : w35.cell? ⟨gb245, 0, none⟩ = some (.int .i64 a0_0) := (blk_cell BK245.out 0).trans rfl; have hcz36_1 : w35.cell? ⟨gb245, 1, none⟩ = some (.int .i64 a0_1) := (blk_cell BK245.out 1).trans rfl; have hfz36_0 := blk_frozen BK245.out 0; have hfz36_1 := blk_frozen BK245.out 1) | ((with_reducible refine gate_callee (f := 17) rfl ?_); refine goesL_ (some 67) rfl rfl Try.func17 (by kernel_rfl) rfl #[.agg #[.int .i64 a0_0, .int .i64 a0_1, .int .i64 0], .int .i64 a1] rfl (by (try simp only [List.map_toArray, List.map_cons, List.map_nil]); first | done | rfl | (simp only [List.length_drop, List.length_take]; rfl)) ?_; (with_reducible refine (snap_At.calls a0_0 a0_1 0 a1 t253 false _ A21.out).mono ?_); rintro e w37 ⟨rfl, hb⟩; refine ⟨_, rfl, ?_⟩; have n0_ := Aside0.mk (blk_below (g := gb245) (o := .cells #[.int .i64 a0_0, .int .i64 a0_1] 30 (0, 0)) (by (with_reducible repeat (first | refine blk_drewN ?_ _ | refine blk_drew ?_ | refine blk_alloc ?_ _)); exact BK245.out) hb); have n1_ := Aside0.mk (below_step (by repeat (first | (with_reducible first | exact HB.out | apply below_alloc | apply pw_below_drewN | apply below_drew1 | refine below_set ?_ GE245.out) | exact HB.out)) hb); clear BK245; clear HB; have BK245 := n0_; have HB := n1_; clear n0_ n1_; (try clear hb); (try clear hb2); (try clear hk); (try clear hi); have hcz38_0 : w37.cell? ⟨gb245, 0, none⟩ = some (.int .i64 a0_0) := (blk_cell BK245.out 0).trans rfl; have hcz38_1 : w37.cell? ⟨gb245, 1, none⟩ = some (.int .i64 a0_1) := (blk_cell BK245.out 1).trans rfl; have hfz38_0 := blk_frozen BK245.out 0; have hfz38_1 := blk_frozen BK245.out 1))
                          go_ret
                          exact ⟨by first | rfl | (simp [errW_none, errW_some] <;> rfl) | (simp [*, errW_none, errW_some] <;> rfl), by repeat (first | (with_reducible first | exact HB.out | apply below_alloc | apply pw_below_drewN | apply below_drew1 | refine below_set ?_ GE245.out) | exact HB.out)⟩
                        · rw [if_neg c29] at H
                          exact absurd H (by simp)
                      · rw [if_neg c28] at H
                        exact absurd H (by simp)
                    · rw [if_neg c27] at H
                      exact absurd H (by simp)
                · replace c25 := Bool.eq_false_iff.mpr c25
                  subst c25
                  have H1 : (none) = some r := by rw [if_neg (show ¬ (false = true) by decide)] at H; exact H
                  clear H
                  have H := H1
                  clear H1
                  exact absurd H (by simp)
              · replace c24 := Bool.eq_false_iff.mpr c24
                subst c24
                have H1 : (none) = some r := by rw [if_neg (show ¬ (false = true) by decide)] at H; exact H
                clear H
                have H := H1
                clear H1
                exact absurd H (by simp)
            · replace c23 := Bool.eq_false_iff.mpr c23
              subst c23
              have H1 : (none) = some r := by rw [if_neg (show ¬ (false = true) by decide)] at H; exact H
              clear H
              have H := H1
              clear H1
              exact absurd H (by simp)
          · exact absurd rfl c22
  · replace c4 := Bool.eq_false_iff.mpr c4
    subst c4
    have H1 : (none) = some r := by rw [if_neg (show ¬ (false = true) by decide)] at H; exact H
    clear H
    have H := H1
    clear H1
    exact absurd H (by simp)

/-- THE ONE PURE STATEMENT of valancelaw11_SnapEdges: yours. -/
def valancelaw11_SnapEdges.Pure : Prop := ∀ (a0_0 : Int) (a0_1 : Int) (a1 : Int), (Lit.int .i64 a0_0).wf = true → (Lit.int .i64 a0_1).wf = true → (Lit.int .i64 a1).wf = true → ∃ k, valancelaw11_SnapEdges.f k a0_0 a0_1 a1 = some true
theorem valancelaw11_SnapEdges.walk (P : valancelaw11_SnapEdges.Pure) (a0_0 : Int) (a0_1 : Int) (a1 : Int) (w : World) (w0_0 : (Lit.int .i64 a0_0).wf = true) (w0_1 : (Lit.int .i64 a0_1).wf = true) (w1 : (Lit.int .i64 a1).wf = true) :
    Calls Try.prog 7 #[.agg #[.int .i64 a0_0, .int .i64 a0_1], .int .i64 a1] w fun e w' => e = .returned (.bool true) ∧ Below w.heap.size w w' := by
  obtain ⟨k, h⟩ := P a0_0 a0_1 a1 w0_0 w0_1 w1
  refine (valancelaw11_SnapEdges.calls k a0_0 a0_1 a1 true w h).mono ?_
  rintro e w' ⟨rfl, hd⟩
  exact ⟨rfl, hd⟩

end Go.Proofs.Ytnmcefpnpfaklac.V
