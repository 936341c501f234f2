/- What the functions of this seat answer, as plain Lean functions, and that the calls come to just that (written by a program of this repo, over the kit's printer; Lean checks it). -/
import Derived.Test.YtnmcefpnpfaklaeVx0
import Derived.Test.YtnmcefpnpfaklaeVx4
import Derived.Test.YtnmcefpnpfaklaeVx5
import Derived.Test.YtnmcefpnpfaklaeVx8
import Derived.Test.YtnmcefpnpfaklaeVx19
import Derived.Test.YtnmcefpnpfaklaeVx20
namespace Go.Proofs.Ytnmcefpnpfaklae.V
open Go.RowKit Go.Proofs.Ytnmcefpnpfaklae.Flt Go.Proofs.YtnmcefpnpfaklaeW.PrintWords Go.Proofs.YtnmcefpnpfaklaeW.PrintLast Go.Proofs.YtnmcefpnpfaklaeW.PrintMore
attribute [local go_sem high] run_eql_vpt2 run_neq_vpt2 eqGuard_vpt2 vpt2_zero run_add_vpt2
attribute [local go_sem] max2_int min2_int max_two min_two max_three min_three max_four min_four   -- for this text's walks alone
set_option linter.unusedVariables false
set_option linter.unusedSimpArgs false

/-! ### valancelaw04_RectSides: function 3 -/
def valancelaw04_RectSides.l0 : Nat → Bool → Int → Int → Int → Int → Int → Int → Int → Int → Int → Option (Bool)
  | 0, _, _, _, _, _, _, _, _, _, _ => none
  | k + 1, x5, x6, x296000, x296001, x296002, x296003, x297000, x297001, x297002, x297003 => if x6 < 4 then (if x6 = 0 then (if x297000 < 0 then (some x5) else (if x297000 > 1073741824 then (some x5) else (valancelaw04_RectSides.l0 k x5 (wrap64 (x6 + 1)) x296000 x296001 x296002 x296003 x297000 x297001 x297002 x297003))) else (if x6 = 1 then (if x297001 < 0 then (some x5) else (if x297001 > 1073741824 then (some x5) else (valancelaw04_RectSides.l0 k x5 (wrap64 (x6 + 1)) x296000 x296001 x296002 x296003 x297000 x297001 x297002 x297003))) else (if x6 = 2 then (if x297002 < 0 then (some x5) else (if x297002 > 1073741824 then (some x5) else (valancelaw04_RectSides.l0 k x5 (wrap64 (x6 + 1)) x296000 x296001 x296002 x296003 x297000 x297001 x297002 x297003))) else (if x6 = 3 then (if x297003 < 0 then (some x5) else (if x297003 > 1073741824 then (some x5) else (valancelaw04_RectSides.l0 k x5 (wrap64 (x6 + 1)) x296000 x296001 x296002 x296003 x297000 x297001 x297002 x297003))) else (none))))) else ((rect_Inset.f x296000 x296001 x296002 x296003 x297000 x297001 x297002 x297003).bind fun bt299 => ((rect_Outset.f x296000 x296001 x296002 x296003 x297000 x297001 x297002 x297003).bind fun bt304 => (if x5 = true then (if bt299.2.2.1 ≥ 0 then (if bt299.2.2.2 ≥ 0 then ((rect_In.f bt299.1 bt299.2.1 bt299.2.2.1 bt299.2.2.2 x296000 x296001 x296002 x296003).bind fun t309 => (if t309 = true then ((rect_In.f x296000 x296001 x296002 x296003 bt304.1 bt304.2.1 bt304.2.2.1 bt304.2.2.2).bind fun t310 => (if t310 = true then (if bt299.2.2.1 = (mx (wrap64 ((wrap64 (x296002 - x297001)) - x297003)) 0) then (if bt304.2.2.2 = (wrap64 ((wrap64 (x296003 + x297000)) + x297002)) then (if bt299.1 = (wrap64 (x296000 + x297003)) then (some (bt304.2.1 == (wrap64 (x296001 - x297000)))) else (none)) else (none)) else (none)) else (none))) else (none))) else (none)) else (none)) else (none))))
def valancelaw04_RectSides.f (k : Nat) (a0_0 : Int) (a0_1 : Int) (a0_2 : Int) (a0_3 : Int) (a1_0 : Int) (a1_1 : Int) (a1_2 : Int) (a1_3 : Int) : Option (Bool) := (valancelaw04_works.f).bind fun t297 => (if t297 = true then ((valancelaw04_small.f a0_0 a0_1 a0_2 a0_3).bind fun t298 => (if t298 = true then (valancelaw04_RectSides.l0 k t297 0 a0_0 a0_1 a0_2 a0_3 a1_0 a1_1 a1_2 a1_3) else (some t297))) else (none))
theorem valancelaw04_RectSides.mono_l : ∀ k, (∀ y0 y1 y2 y3 y4 y5 y6 y7 y8 y9, LeO (valancelaw04_RectSides.l0 k y0 y1 y2 y3 y4 y5 y6 y7 y8 y9) (valancelaw04_RectSides.l0 (k + 1) y0 y1 y2 y3 y4 y5 y6 y7 y8 y9))
  | 0 => fun _ _ _ _ _ _ _ _ _ _ r h => by simp [valancelaw04_RectSides.l0] at h
  | k + 1 => by
    have ih0 := valancelaw04_RectSides.mono_l k
    · intro y0 y1 y2 y3 y4 y5 y6 y7 y8 y9
      unfold valancelaw04_RectSides.l0
      repeat' first
      | (with_reducible exact ih0 _ _ _ _ _ _ _ _ _ _)
      | (with_reducible exact LeO.refl _)
      | (with_reducible exact LeO.none _)
      | (with_reducible refine LeO.ite ?_ ?_)
      | (with_reducible refine LeO.bind ?_ (fun _ => ?_))
      | exact ih0 _ _ _ _ _ _ _ _ _ _
      | exact LeO.none _
      | refine LeO.ite ?_ ?_
      | refine LeO.bind ?_ (fun _ => ?_)
theorem valancelaw04_RectSides.mono : ∀ a0 a1 a2 a3 a4 a5 a6 a7 k, LeO (valancelaw04_RectSides.f k a0 a1 a2 a3 a4 a5 a6 a7) (valancelaw04_RectSides.f (k + 1) a0 a1 a2 a3 a4 a5 a6 a7) := by
  intro a0 a1 a2 a3 a4 a5 a6 a7 k
  have ih0 := valancelaw04_RectSides.mono_l k
  unfold valancelaw04_RectSides.f
  repeat' first
      | (with_reducible exact ih0 _ _ _ _ _ _ _ _ _ _)
      | (with_reducible exact LeO.refl _)
      | (with_reducible exact LeO.none _)
      | (with_reducible refine LeO.ite ?_ ?_)
      | (with_reducible refine LeO.bind ?_ (fun _ => ?_))
      | exact ih0 _ _ _ _ _ _ _ _ _ _
      | exact LeO.none _
      | refine LeO.ite ?_ ?_
      | refine LeO.bind ?_ (fun _ => ?_)
set_option maxHeartbeats 8000000 in
set_option maxRecDepth 100000 in
theorem valancelaw04_RectSides.calls (k : Nat) (a0_0 : Int) (a0_1 : Int) (a0_2 : Int) (a0_3 : Int) (a1_0 : Int) (a1_1 : Int) (a1_2 : Int) (a1_3 : Int) (r : Bool) (w : World) (h : valancelaw04_RectSides.f k a0_0 a0_1 a0_2 a0_3 a1_0 a1_1 a1_2 a1_3 = some r) :
    Calls Try.prog 3 #[.agg #[.int .i64 a0_0, .int .i64 a0_1, .int .i64 a0_2, .int .i64 a0_3], .agg #[.int .i64 a1_0, .int .i64 a1_1, .int .i64 a1_2, .int .i64 a1_3]] w fun e w' => e = .returned (.bool r) ∧ Below w.heap.size w w' := by
  have hu23 := Try.underlying23
  have hu24 := Try.underlying24
  have HB := Aside0.mk (Below.refl w.heap.size w)
  have H : ((valancelaw04_works.f).bind fun t297 => (if t297 = true then ((valancelaw04_small.f a0_0 a0_1 a0_2 a0_3).bind fun t298 => (if t298 = true then (valancelaw04_RectSides.l0 k t297 0 a0_0 a0_1 a0_2 a0_3 a1_0 a1_1 a1_2 a1_3) else (some t297))) else (none))) = some r := h
  clear h
  replace H := Option.bind_eq_some_iff.mp H
  obtain ⟨t297, A30, H⟩ := H
  replace H : (if t297 = true then ((valancelaw04_small.f a0_0 a0_1 a0_2 a0_3).bind fun t298 => (if t298 = true then (valancelaw04_RectSides.l0 k t297 0 a0_0 a0_1 a0_2 a0_3 a1_0 a1_1 a1_2 a1_3) else (some t297))) else (none)) = some r := H
  have A3 := Aside0.mk A30
  clear A30
  by_cases c4 : t297 = true
  · subst c4
    have H1 : ((valancelaw04_small.f a0_0 a0_1 a0_2 a0_3).bind fun t298 => (if t298 = true then (valancelaw04_RectSides.l0 k true 0 a0_0 a0_1 a0_2 a0_3 a1_0 a1_1 a1_2 a1_3) else (some true))) = some r := by rw [if_pos rfl] at H; exact H
    clear H
    have H := H1
    clear H1
    replace H := Option.bind_eq_some_iff.mp H
    obtain ⟨t298, A50, H⟩ := H
    replace H : (if t298 = true then (valancelaw04_RectSides.l0 k true 0 a0_0 a0_1 a0_2 a0_3 a1_0 a1_1 a1_2 a1_3) else (some true)) = some r := H
    have A5 := Aside0.mk A50
    clear A50
    by_cases c6 : t298 = true
    · subst c6
      have H1 : (valancelaw04_RectSides.l0 k true 0 a0_0 a0_1 a0_2 a0_3 a1_0 a1_1 a1_2 a1_3) = some r := by rw [if_pos rfl] at H; exact H
      clear H
      have H := H1
      clear H1
      have H' := Aside0.mk H
      clear H
      go_enter Try.func3, Try.ntmps3
      go_wp2_with (first | ((with_reducible refine gate_dst (N := 2) rfl ?_); (try (refine gate_guard (by rfl) ?_; dsimp only)); refine box_event ?hg (N := 2) ?hd (cs := #[.int .i64 a0_0, .int .i64 a0_1, .int .i64 a0_2, .int .i64 a0_3]) (t := 23) ?hr ?_; (case hd => rfl); (case hg => rfl); (case hr => first | (go_simp; done) | (go_simp; rfl)); intro gb295 hg w7 hbox hb; have n0_ := Aside0.mk (below_step (by repeat (first | (with_reducible first | exact HB.out | apply below_alloc | apply pw_below_drewN | apply below_drew1) | exact HB.out)) hb); have n1_ := Aside0.mk (hbox); have n2_ := Aside0.mk ((by rw [hg]; exact (below_size (by repeat (first | (with_reducible first | exact HB.out | apply below_alloc | apply pw_below_drewN | apply below_drew1) | exact HB.out))) : w.heap.size ≤ gb295)); have n3_ := Aside0.mk ((by rw [hg]; exact (below_size (by repeat (first | (with_reducible first | exact HB.out | apply below_alloc | apply pw_below_drewN | apply below_drew1) | exact HB.out))) : w.heap.size ≤ gb295)); clear HB; have HB := n0_; have BK295 := n1_; have GW295 := n2_; have GE295 := n3_; clear n0_ n1_ n2_ n3_; clear hb hbox hg) | ((with_reducible refine gate_dst (N := 3) rfl ?_); (try (refine gate_guard (by rfl) ?_; dsimp only)); refine box_event ?hg (N := 3) ?hd (cs := #[.int .i64 a1_0, .int .i64 a1_1, .int .i64 a1_2, .int .i64 a1_3]) (t := 24) ?hr ?_; (case hd => rfl); (case hg => rfl); (case hr => first | (go_simp; done) | (go_simp; rfl)); intro gb296 hg w8 hbox hb; have n0_ := Aside0.mk (blk_below (g := gb295) (o := .cells #[.int .i64 a0_0, .int .i64 a0_1, .int .i64 a0_2, .int .i64 a0_3] 23 (0, 0)) (by (with_reducible repeat (first | refine blk_drewN ?_ _ | refine blk_drew ?_ | refine blk_alloc ?_ _)); exact BK295.out) hb); have n1_ := Aside0.mk (below_step (by repeat (first | (with_reducible first | exact HB.out | apply below_alloc | apply pw_below_drewN | apply below_drew1 | refine below_set ?_ GE295.out) | exact HB.out)) hb); have n2_ := Aside0.mk (hbox); have n3_ := Aside0.mk ((by rw [hg]; exact (below_size (by repeat (first | (with_reducible first | exact HB.out | apply below_alloc | apply pw_below_drewN | apply below_drew1 | refine below_set ?_ GE295.out) | exact HB.out))) : w.heap.size ≤ gb296)); have n4_ := Aside0.mk ((by rw [hg]; exact (below_size (by repeat (first | (with_reducible first | exact HB.out | apply below_alloc | apply pw_below_drewN | apply below_drew1 | refine below_set ?_ GE295.out) | exact HB.out))) : w.heap.size ≤ gb296)); have n5_ := Aside0.mk ((by rw [hg]; exact Nat.ne_of_lt (blk_lt (g := gb295) (o := .cells #[.int .i64 a0_0, .int .i64 a0_1, .int .i64 a0_2, .int .i64 a0_3] 23 (0, 0)) (by (with_reducible repeat (first | refine blk_drewN ?_ _ | refine blk_drew ?_ | refine blk_alloc ?_ _)); exact BK295.out)) : gb295 ≠ gb296)); have n6_ := Aside0.mk ((by rw [hg]; exact Nat.ne_of_gt (blk_lt (g := gb295) (o := .cells #[.int .i64 a0_0, .int .i64 a0_1, .int .i64 a0_2, .int .i64 a0_3] 23 (0, 0)) (by (with_reducible repeat (first | refine blk_drewN ?_ _ | refine blk_drew ?_ | refine blk_alloc ?_ _)); exact BK295.out)) : gb296 ≠ gb295)); clear BK295; clear HB; have BK295 := n0_; have HB := n1_; have BK296 := n2_; have GW296 := n3_; have GE296 := n4_; have NB295_296 := n5_; have NB296_295 := n6_; clear n0_ n1_ n2_ n3_ n4_ n5_ n6_; clear hb hbox hg) | ((with_reducible refine gate_callee (f := 6) rfl ?_); refine goesL_ (some 9) rfl rfl Try.func6 (by kernel_rfl) rfl #[] rfl (by (try simp only [List.map_toArray, List.map_cons, List.map_nil]); first | done | rfl | (simp only [List.length_drop, List.length_take]; rfl)) ?_; (with_reducible refine (valancelaw04_works.calls  true _ A3.out).mono ?_); rintro e w9 ⟨rfl, hb⟩; refine ⟨_, rfl, ?_⟩; have n0_ := Aside0.mk (blk_below (g := gb295) (o := .cells #[.int .i64 a0_0, .int .i64 a0_1, .int .i64 a0_2, .int .i64 a0_3] 23 (0, 0)) (by (with_reducible repeat (first | refine blk_drewN ?_ _ | refine blk_drew ?_ | refine blk_alloc ?_ _)); exact BK295.out) hb); have n1_ := Aside0.mk (blk_below (g := gb296) (o := .cells #[.int .i64 a1_0, .int .i64 a1_1, .int .i64 a1_2, .int .i64 a1_3] 24 (0, 0)) (by (with_reducible repeat (first | refine blk_drewN ?_ _ | refine blk_drew ?_ | refine blk_alloc ?_ _)); exact BK296.out) hb); have n2_ := Aside0.mk (below_step (by repeat (first | (with_reducible first | exact HB.out | apply below_alloc | apply pw_below_drewN | apply below_drew1 | refine below_set ?_ GE295.out | refine below_set ?_ GE296.out) | exact HB.out)) hb); clear BK295; clear BK296; clear HB; have BK295 := n0_; have BK296 := n1_; have HB := n2_; clear n0_ n1_ n2_; (try clear hb); (try clear hb2); (try clear hk); (try clear hi); have hnb10 := NB295_296.out; have hnc10 := NB296_295.out; have hcz11_0 : w9.cell? ⟨gb295, 0, none⟩ = some (.int .i64 a0_0) := (blk_cell BK295.out 0).trans rfl; have hcz11_1 : w9.cell? ⟨gb295, 1, none⟩ = some (.int .i64 a0_1) := (blk_cell BK295.out 1).trans rfl; have hcz11_2 : w9.cell? ⟨gb295, 2, none⟩ = some (.int .i64 a0_2) := (blk_cell BK295.out 2).trans rfl; have hcz11_3 : w9.cell? ⟨gb295, 3, none⟩ = some (.int .i64 a0_3) := (blk_cell BK295.out 3).trans rfl; have hfz11_0 := blk_frozen BK295.out 0; have hfz11_1 := blk_frozen BK295.out 1; have hfz11_2 := blk_frozen BK295.out 2; have hfz11_3 := blk_frozen BK295.out 3) | ((with_reducible refine gate_callee (f := 7) rfl ?_); refine goesL_ (some 13) rfl rfl Try.func7 (by kernel_rfl) rfl #[.agg #[.int .i64 a0_0, .int .i64 a0_1, .int .i64 a0_2, .int .i64 a0_3]] rfl (by (try simp only [List.map_toArray, List.map_cons, List.map_nil]); first | done | rfl | (simp only [List.length_drop, List.length_take]; rfl)) ?_; (with_reducible refine (valancelaw04_small.calls a0_0 a0_1 a0_2 a0_3 true _ A5.out).mono ?_); rintro e w12 ⟨rfl, hb⟩; refine ⟨_, rfl, ?_⟩; have n0_ := Aside0.mk (blk_below (g := gb295) (o := .cells #[.int .i64 a0_0, .int .i64 a0_1, .int .i64 a0_2, .int .i64 a0_3] 23 (0, 0)) (by (with_reducible repeat (first | refine blk_drewN ?_ _ | refine blk_drew ?_ | refine blk_alloc ?_ _)); exact BK295.out) hb); have n1_ := Aside0.mk (blk_below (g := gb296) (o := .cells #[.int .i64 a1_0, .int .i64 a1_1, .int .i64 a1_2, .int .i64 a1_3] 24 (0, 0)) (by (with_reducible repeat (first | refine blk_drewN ?_ _ | refine blk_drew ?_ | refine blk_alloc ?_ _)); exact BK296.out) hb); have n2_ := Aside0.mk (below_step (by repeat (first | (with_reducible first | exact HB.out | apply below_alloc | apply pw_below_drewN | apply below_drew1 | refine below_set ?_ GE295.out | refine below_set ?_ GE296.out) | exact HB.out)) hb); clear BK295; clear BK296; clear HB; have BK295 := n0_; have BK296 := n1_; have HB := n2_; clear n0_ n1_ n2_; (try clear hb); (try clear hb2); (try clear hk); (try clear hi)))
      go_loopg [6] k (fun kq v6 w' => ∃ (x6_1 : Int), v6 = .int .i64 x6_1 ∧ Aside0 (valancelaw04_RectSides.l0 kq true x6_1 a0_0 a0_1 a0_2 a0_3 a1_0 a1_1 a1_2 a1_3 = some r) ∧ Aside0 (kq ≤ k) ∧ Aside0 (w'.heap[gb295]? = some (.cells #[.int .i64 a0_0, .int .i64 a0_1, .int .i64 a0_2, .int .i64 a0_3] 23 (0, 0))) ∧ Aside0 (w'.heap[gb296]? = some (.cells #[.int .i64 a1_0, .int .i64 a1_1, .int .i64 a1_2, .int .i64 a1_3] 24 (0, 0))) ∧ Aside0 (Below w.heap.size w w'))
      case atStart => exact ⟨(0), (by first | rfl | (simp; done) | (simp [*]; done)), H', ⟨Nat.le_refl _⟩, ⟨by (with_reducible repeat (first | refine blk_drewN ?_ _ | refine blk_drew ?_ | refine blk_alloc ?_ _)); exact BK295.out⟩, ⟨by (with_reducible repeat (first | refine blk_drewN ?_ _ | refine blk_drew ?_ | refine blk_alloc ?_ _)); exact BK296.out⟩, ⟨by repeat (first | (with_reducible first | exact HB.out | apply below_alloc | apply pw_below_drewN | apply below_drew1 | refine below_set ?_ GE295.out | refine below_set ?_ GE296.out) | exact HB.out)⟩⟩
      case round =>
        clear H'
        try clear c1
        try clear p2
        try clear c3
        try clear c4
        try clear c6
        try clear c7
        try clear c10
        try clear hcz11_0
        try clear hcz11_1
        try clear hcz11_2
        try clear hcz11_3
        try clear hfz11_0
        try clear hfz11_1
        try clear hfz11_2
        try clear hfz11_3
        obtain ⟨x6_1, rfl, HA, HK1, BK295, BK296, HB⟩ := hrel
        cases gk with
        | zero => exact absurd HA.out (by simp [valancelaw04_RectSides.l0])
        | succ k1 =>
          have H := HA.out
          clear HA
          simp only [valancelaw04_RectSides.l0] at H
          by_cases c13 : x6_1 < 4
          · rw [if_pos c13] at H
            have c13b0 : decide (x6_1 < 4) = true := decide_eq_true c13
            clear c13
            by_cases c14 : x6_1 = 0
            · subst c14
              have H1 : (if a1_0 < 0 then (some true) else (if a1_0 > 1073741824 then (some true) else (valancelaw04_RectSides.l0 k1 true (wrap64 (0 + 1)) a0_0 a0_1 a0_2 a0_3 a1_0 a1_1 a1_2 a1_3))) = some r := by rw [if_pos rfl] at H; exact H
              clear H
              have H := H1
              clear H1
              by_cases c15 : a1_0 < 0
              · rw [if_pos c15] at H
                have c15b0 : decide (a1_0 < 0) = true := decide_eq_true c15
                clear c15
                obtain rfl := Option.some.inj H
                have hnb16 := NB296_295.out
                have hnc16 := NB295_296.out
                have hcz17_0 : wr.cell? ⟨gb296, 0, none⟩ = some (.int .i64 a1_0) := (blk_cell BK296.out 0).trans rfl
                have hcz17_1 : wr.cell? ⟨gb296, 1, none⟩ = some (.int .i64 a1_1) := (blk_cell BK296.out 1).trans rfl
                have hcz17_2 : wr.cell? ⟨gb296, 2, none⟩ = some (.int .i64 a1_2) := (blk_cell BK296.out 2).trans rfl
                have hcz17_3 : wr.cell? ⟨gb296, 3, none⟩ = some (.int .i64 a1_3) := (blk_cell BK296.out 3).trans rfl
                have hfz17_0 := blk_frozen BK296.out 0
                have hfz17_1 := blk_frozen BK296.out 1
                have hfz17_2 := blk_frozen BK296.out 2
                have hfz17_3 := blk_frozen BK296.out 3
                go_wp2
                go_ret
                exact ⟨by first | rfl | (simp [errW_none, errW_some] <;> rfl) | (simp [*, errW_none, errW_some] <;> rfl), by repeat (first | (with_reducible first | exact HB.out | apply below_alloc | apply pw_below_drewN | apply below_drew1 | refine below_set ?_ GE295.out | refine below_set ?_ GE296.out) | exact HB.out)⟩
              · rw [if_neg c15] at H
                have c15b0 : decide (a1_0 < 0) = false := decide_eq_false c15
                clear c15
                by_cases c18 : a1_0 > 1073741824
                · rw [if_pos c18] at H
                  have c18b0 : decide (1073741824 < a1_0) = true := decide_eq_true c18
                  clear c18
                  obtain rfl := Option.some.inj H
                  have hnb19 := NB296_295.out
                  have hnc19 := NB295_296.out
                  have hcz20_0 : wr.cell? ⟨gb296, 0, none⟩ = some (.int .i64 a1_0) := (blk_cell BK296.out 0).trans rfl
                  have hcz20_1 : wr.cell? ⟨gb296, 1, none⟩ = some (.int .i64 a1_1) := (blk_cell BK296.out 1).trans rfl
                  have hcz20_2 : wr.cell? ⟨gb296, 2, none⟩ = some (.int .i64 a1_2) := (blk_cell BK296.out 2).trans rfl
                  have hcz20_3 : wr.cell? ⟨gb296, 3, none⟩ = some (.int .i64 a1_3) := (blk_cell BK296.out 3).trans rfl
                  have hfz20_0 := blk_frozen BK296.out 0
                  have hfz20_1 := blk_frozen BK296.out 1
                  have hfz20_2 := blk_frozen BK296.out 2
                  have hfz20_3 := blk_frozen BK296.out 3
                  go_wp2
                  go_ret
                  exact ⟨by first | rfl | (simp [errW_none, errW_some] <;> rfl) | (simp [*, errW_none, errW_some] <;> rfl), by repeat (first | (with_reducible first | exact HB.out | apply below_alloc | apply pw_below_drewN | apply below_drew1 | refine below_set ?_ GE295.out | refine below_set ?_ GE296.out) | exact HB.out)⟩
                · rw [if_neg c18] at H
                  have c18b0 : decide (1073741824 < a1_0) = false := decide_eq_false c18
                  clear c18
                  have H' := Aside0.mk H
                  clear H
                  have hnb21 := NB296_295.out
                  have hnc21 := NB295_296.out
                  have hcz22_0 : wr.cell? ⟨gb296, 0, none⟩ = some (.int .i64 a1_0) := (blk_cell BK296.out 0).trans rfl
                  have hcz22_1 : wr.cell? ⟨gb296, 1, none⟩ = some (.int .i64 a1_1) := (blk_cell BK296.out 1).trans rfl
                  have hcz22_2 : wr.cell? ⟨gb296, 2, none⟩ = some (.int .i64 a1_2) := (blk_cell BK296.out 2).trans rfl
                  have hcz22_3 : wr.cell? ⟨gb296, 3, none⟩ = some (.int .i64 a1_3) := (blk_cell BK296.out 3).trans rfl
                  have hfz22_0 := blk_frozen BK296.out 0
                  have hfz22_1 := blk_frozen BK296.out 1
                  have hfz22_2 := blk_frozen BK296.out 2
                  have hfz22_3 := blk_frozen BK296.out 3
                  go_wp2
                  go_roundg k1
                  case measure => have := HK1.out; omega
                  case rel => exact ⟨(wrap64 (0 + 1)), (by first | rfl | (simp <;> unfold wrap64 <;> omega) | (simp; done) | (simp [*]; done)), H', ⟨by have := HK1.out; omega⟩, ⟨by (with_reducible repeat (first | refine blk_drewN ?_ _ | refine blk_drew ?_ | refine blk_alloc ?_ _)); exact BK295.out⟩, ⟨by (with_reducible repeat (first | refine blk_drewN ?_ _ | refine blk_drew ?_ | refine blk_alloc ?_ _)); exact BK296.out⟩, ⟨by repeat (first | (with_reducible first | exact HB.out | apply below_alloc | apply pw_below_drewN | apply below_drew1 | refine below_set ?_ GE295.out | refine below_set ?_ GE296.out) | exact HB.out)⟩⟩
            · rw [if_neg c14] at H
              by_cases c23 : x6_1 = 1
              · subst c23
                have H1 : (if a1_1 < 0 then (some true) else (if a1_1 > 1073741824 then (some true) else (valancelaw04_RectSides.l0 k1 true (wrap64 (1 + 1)) a0_0 a0_1 a0_2 a0_3 a1_0 a1_1 a1_2 a1_3))) = some r := by rw [if_pos rfl] at H; exact H
                clear H
                have H := H1
                clear H1
                by_cases c24 : a1_1 < 0
                · rw [if_pos c24] at H
                  have c24b0 : decide (a1_1 < 0) = true := decide_eq_true c24
                  clear c24
                  obtain rfl := Option.some.inj H
                  have hnb25 := NB296_295.out
                  have hnc25 := NB295_296.out
                  have hcz26_0 : wr.cell? ⟨gb296, 0, none⟩ = some (.int .i64 a1_0) := (blk_cell BK296.out 0).trans rfl
                  have hcz26_1 : wr.cell? ⟨gb296, 1, none⟩ = some (.int .i64 a1_1) := (blk_cell BK296.out 1).trans rfl
                  have hcz26_2 : wr.cell? ⟨gb296, 2, none⟩ = some (.int .i64 a1_2) := (blk_cell BK296.out 2).trans rfl
                  have hcz26_3 : wr.cell? ⟨gb296, 3, none⟩ = some (.int .i64 a1_3) := (blk_cell BK296.out 3).trans rfl
                  have hfz26_0 := blk_frozen BK296.out 0
                  have hfz26_1 := blk_frozen BK296.out 1
                  have hfz26_2 := blk_frozen BK296.out 2
                  have hfz26_3 := blk_frozen BK296.out 3
                  go_wp2
                  go_ret
                  exact ⟨by first | rfl | (simp [errW_none, errW_some] <;> rfl) | (simp [*, errW_none, errW_some] <;> rfl), by repeat (first | (with_reducible first | exact HB.out | apply below_alloc | apply pw_below_drewN | apply below_drew1 | refine below_set ?_ GE295.out | refine below_set ?_ GE296.out) | exact HB.out)⟩
                · rw [if_neg c24] at H
                  have c24b0 : decide (a1_1 < 0) = false := decide_eq_false c24
                  clear c24
                  by_cases c27 : a1_1 > 1073741824
                  · rw [if_pos c27] at H
                    have c27b0 : decide (1073741824 < a1_1) = true := decide_eq_true c27
                    clear c27
                    obtain rfl := Option.some.inj H
                    have hnb28 := NB296_295.out
                    have hnc28 := NB295_296.out
                    have hcz29_0 : wr.cell? ⟨gb296, 0, none⟩ = some (.int .i64 a1_0) := (blk_cell BK296.out 0).trans rfl
                    have hcz29_1 : wr.cell? ⟨gb296, 1, none⟩ = some (.int .i64 a1_1) := (blk_cell BK296.out 1).trans rfl
                    have hcz29_2 : wr.cell? ⟨gb296, 2, none⟩ = some (.int .i64 a1_2) := (blk_cell BK296.out 2).trans rfl
                    have hcz29_3 : wr.cell? ⟨gb296, 3, none⟩ = some (.int .i64 a1_3) := (blk_cell BK296.out 3).trans rfl
                    have hfz29_0 := blk_frozen BK296.out 0
                    have hfz29_1 := blk_frozen BK296.out 1
                    have hfz29_2 := blk_frozen BK296.out 2
                    have hfz29_3 := blk_frozen BK296.out 3
                    go_wp2
                    go_ret
                    exact ⟨by first | rfl | (simp [errW_none, errW_some] <;> rfl) | (simp [*, errW_none, errW_some] <;> rfl), by repeat (first | (with_reducible first | exact HB.out | apply below_alloc | apply pw_below_drewN | apply below_drew1 | refine below_set ?_ GE295.out | refine below_set ?_ GE296.out) | exact HB.out)⟩
                  · rw [if_neg c27] at H
                    have c27b0 : decide (1073741824 < a1_1) = false := decide_eq_false c27
                    clear c27
                    have H' := Aside0.mk H
                    clear H
                    have hnb30 := NB296_295.out
                    have hnc30 := NB295_296.out
                    have hcz31_0 : wr.cell? ⟨gb296, 0, none⟩ = some (.int .i64 a1_0) := (blk_cell BK296.out 0).trans rfl
                    have hcz31_1 : wr.cell? ⟨gb296, 1, none⟩ = some (.int .i64 a1_1) := (blk_cell BK296.out 1).trans rfl
                    have hcz31_2 : wr.cell? ⟨gb296, 2, none⟩ = some (.int .i64 a1_2) := (blk_cell BK296.out 2).trans rfl
                    have hcz31_3 : wr.cell? ⟨gb296, 3, none⟩ = some (.int .i64 a1_3) := (blk_cell BK296.out 3).trans rfl
                    have hfz31_0 := blk_frozen BK296.out 0
                    have hfz31_1 := blk_frozen BK296.out 1
                    have hfz31_2 := blk_frozen BK296.out 2
                    have hfz31_3 := blk_frozen BK296.out 3
                    go_wp2
                    go_roundg k1
                    case measure => have := HK1.out; omega
                    case rel => exact ⟨(wrap64 (1 + 1)), (by first | rfl | (simp <;> unfold wrap64 <;> omega) | (simp; done) | (simp [*]; done)), H', ⟨by have := HK1.out; omega⟩, ⟨by (with_reducible repeat (first | refine blk_drewN ?_ _ | refine blk_drew ?_ | refine blk_alloc ?_ _)); exact BK295.out⟩, ⟨by (with_reducible repeat (first | refine blk_drewN ?_ _ | refine blk_drew ?_ | refine blk_alloc ?_ _)); exact BK296.out⟩, ⟨by repeat (first | (with_reducible first | exact HB.out | apply below_alloc | apply pw_below_drewN | apply below_drew1 | refine below_set ?_ GE295.out | refine below_set ?_ GE296.out) | exact HB.out)⟩⟩
              · rw [if_neg c23] at H
                by_cases c32 : x6_1 = 2
                · subst c32
                  have H1 : (if a1_2 < 0 then (some true) else (if a1_2 > 1073741824 then (some true) else (valancelaw04_RectSides.l0 k1 true (wrap64 (2 + 1)) a0_0 a0_1 a0_2 a0_3 a1_0 a1_1 a1_2 a1_3))) = some r := by rw [if_pos rfl] at H; exact H
                  clear H
                  have H := H1
                  clear H1
                  by_cases c33 : a1_2 < 0
                  · rw [if_pos c33] at H
                    have c33b0 : decide (a1_2 < 0) = true := decide_eq_true c33
                    clear c33
                    obtain rfl := Option.some.inj H
                    have hnb34 := NB296_295.out
                    have hnc34 := NB295_296.out
                    have hcz35_0 : wr.cell? ⟨gb296, 0, none⟩ = some (.int .i64 a1_0) := (blk_cell BK296.out 0).trans rfl
                    have hcz35_1 : wr.cell? ⟨gb296, 1, none⟩ = some (.int .i64 a1_1) := (blk_cell BK296.out 1).trans rfl
                    have hcz35_2 : wr.cell? ⟨gb296, 2, none⟩ = some (.int .i64 a1_2) := (blk_cell BK296.out 2).trans rfl
                    have hcz35_3 : wr.cell? ⟨gb296, 3, none⟩ = some (.int .i64 a1_3) := (blk_cell BK296.out 3).trans rfl
                    have hfz35_0 := blk_frozen BK296.out 0
                    have hfz35_1 := blk_frozen BK296.out 1
                    have hfz35_2 := blk_frozen BK296.out 2
                    have hfz35_3 := blk_frozen BK296.out 3
                    go_wp2
                    go_ret
                    exact ⟨by first | rfl | (simp [errW_none, errW_some] <;> rfl) | (simp [*, errW_none, errW_some] <;> rfl), by repeat (first | (with_reducible first | exact HB.out | apply below_alloc | apply pw_below_drewN | apply below_drew1 | refine below_set ?_ GE295.out | refine below_set ?_ GE296.out) | exact HB.out)⟩
                  · rw [if_neg c33] at H
                    have c33b0 : decide (a1_2 < 0) = false := decide_eq_false c33
                    clear c33
                    by_cases c36 : a1_2 > 1073741824
                    · rw [if_pos c36] at H
                      have c36b0 : decide (1073741824 < a1_2) = true := decide_eq_true c36
                      clear c36
                      obtain rfl := Option.some.inj H
                      have hnb37 := NB296_295.out
                      have hnc37 := NB295_296.out
                      have hcz38_0 : wr.cell? ⟨gb296, 0, none⟩ = some (.int .i64 a1_0) := (blk_cell BK296.out 0).trans rfl
                      have hcz38_1 : wr.cell? ⟨gb296, 1, none⟩ = some (.int .i64 a1_1) := (blk_cell BK296.out 1).trans rfl
                      have hcz38_2 : wr.cell? ⟨gb296, 2, none⟩ = some (.int .i64 a1_2) := (blk_cell BK296.out 2).trans rfl
                      have hcz38_3 : wr.cell? ⟨gb296, 3, none⟩ = some (.int .i64 a1_3) := (blk_cell BK296.out 3).trans rfl
                      have hfz38_0 := blk_frozen BK296.out 0
                      have hfz38_1 := blk_frozen BK296.out 1
                      have hfz38_2 := blk_frozen BK296.out 2
                      have hfz38_3 := blk_frozen BK296.out 3
                      go_wp2
                      go_ret
                      exact ⟨by first | rfl | (simp [errW_none, errW_some] <;> rfl) | (simp [*, errW_none, errW_some] <;> rfl), by repeat (first | (with_reducible first | exact HB.out | apply below_alloc | apply pw_below_drewN | apply below_drew1 | refine below_set ?_ GE295.out | refine below_set ?_ GE296.out) | exact HB.out)⟩
                    · rw [if_neg c36] at H
                      have c36b0 : decide (1073741824 < a1_2) = false := decide_eq_false c36
                      clear c36
                      have H' := Aside0.mk H
                      clear H
                      have hnb39 := NB296_295.out
                      have hnc39 := NB295_296.out
                      have hcz40_0 : wr.cell? ⟨gb296, 0, none⟩ = some (.int .i64 a1_0) := (blk_cell BK296.out 0).trans rfl
                      have hcz40_1 : wr.cell? ⟨gb296, 1, none⟩ = some (.int .i64 a1_1) := (blk_cell BK296.out 1).trans rfl
                      have hcz40_2 : wr.cell? ⟨gb296, 2, none⟩ = some (.int .i64 a1_2) := (blk_cell BK296.out 2).trans rfl
                      have hcz40_3 : wr.cell? ⟨gb296, 3, none⟩ = some (.int .i64 a1_3) := (blk_cell BK296.out 3).trans rfl
                      have hfz40_0 := blk_frozen BK296.out 0
                      have hfz40_1 := blk_frozen BK296.out 1
                      have hfz40_2 := blk_frozen BK296.out 2
                      have hfz40_3 := blk_frozen BK296.out 3
                      go_wp2
                      go_roundg k1
                      case measure => have := HK1.out; omega
                      case rel => exact ⟨(wrap64 (2 + 1)), (by first | rfl | (simp <;> unfold wrap64 <;> omega) | (simp; done) | (simp [*]; done)), H', ⟨by have := HK1.out; omega⟩, ⟨by (with_reducible repeat (first | refine blk_drewN ?_ _ | refine blk_drew ?_ | refine blk_alloc ?_ _)); exact BK295.out⟩, ⟨by (with_reducible repeat (first | refine blk_drewN ?_ _ | refine blk_drew ?_ | refine blk_alloc ?_ _)); exact BK296.out⟩, ⟨by repeat (first | (with_reducible first | exact HB.out | apply below_alloc | apply pw_below_drewN | apply below_drew1 | refine below_set ?_ GE295.out | refine below_set ?_ GE296.out) | exact HB.out)⟩⟩
                · rw [if_neg c32] at H
                  by_cases c41 : x6_1 = 3
                  · subst c41
                    have H1 : (if a1_3 < 0 then (some true) else (if a1_3 > 1073741824 then (some true) else (valancelaw04_RectSides.l0 k1 true (wrap64 (3 + 1)) a0_0 a0_1 a0_2 a0_3 a1_0 a1_1 a1_2 a1_3))) = some r := by rw [if_pos rfl] at H; exact H
                    clear H
                    have H := H1
                    clear H1
                    by_cases c42 : a1_3 < 0
                    · rw [if_pos c42] at H
                      have c42b0 : decide (a1_3 < 0) = true := decide_eq_true c42
                      clear c42
                      obtain rfl := Option.some.inj H
                      have hnb43 := NB296_295.out
                      have hnc43 := NB295_296.out
                      have hcz44_0 : wr.cell? ⟨gb296, 0, none⟩ = some (.int .i64 a1_0) := (blk_cell BK296.out 0).trans rfl
                      have hcz44_1 : wr.cell? ⟨gb296, 1, none⟩ = some (.int .i64 a1_1) := (blk_cell BK296.out 1).trans rfl
                      have hcz44_2 : wr.cell? ⟨gb296, 2, none⟩ = some (.int .i64 a1_2) := (blk_cell BK296.out 2).trans rfl
                      have hcz44_3 : wr.cell? ⟨gb296, 3, none⟩ = some (.int .i64 a1_3) := (blk_cell BK296.out 3).trans rfl
                      have hfz44_0 := blk_frozen BK296.out 0
                      have hfz44_1 := blk_frozen BK296.out 1
                      have hfz44_2 := blk_frozen BK296.out 2
                      have hfz44_3 := blk_frozen BK296.out 3
                      go_wp2
                      go_ret
                      exact ⟨by first | rfl | (simp [errW_none, errW_some] <;> rfl) | (simp [*, errW_none, errW_some] <;> rfl), by repeat (first | (with_reducible first | exact HB.out | apply below_alloc | apply pw_below_drewN | apply below_drew1 | refine below_set ?_ GE295.out | refine below_set ?_ GE296.out) | exact HB.out)⟩
                    · rw [if_neg c42] at H
                      have c42b0 : decide (a1_3 < 0) = false := decide_eq_false c42
                      clear c42
                      by_cases c45 : a1_3 > 1073741824
                      · rw [if_pos c45] at H
                        have c45b0 : decide (1073741824 < a1_3) = true := decide_eq_true c45
                        clear c45
                        obtain rfl := Option.some.inj H
                        have hnb46 := NB296_295.out
                        have hnc46 := NB295_296.out
                        have hcz47_0 : wr.cell? ⟨gb296, 0, none⟩ = some (.int .i64 a1_0) := (blk_cell BK296.out 0).trans rfl
                        have hcz47_1 : wr.cell? ⟨gb296, 1, none⟩ = some (.int .i64 a1_1) := (blk_cell BK296.out 1).trans rfl
                        have hcz47_2 : wr.cell? ⟨gb296, 2, none⟩ = some (.int .i64 a1_2) := (blk_cell BK296.out 2).trans rfl
                        have hcz47_3 : wr.cell? ⟨gb296, 3, none⟩ = some (.int .i64 a1_3) := (blk_cell BK296.out 3).trans rfl
                        have hfz47_0 := blk_frozen BK296.out 0
                        have hfz47_1 := blk_frozen BK296.out 1
                        have hfz47_2 := blk_frozen BK296.out 2
                        have hfz47_3 := blk_frozen BK296.out 3
                        go_wp2
                        go_ret
                        exact ⟨by first | rfl | (simp [errW_none, errW_some] <;> rfl) | (simp [*, errW_none, errW_some] <;> rfl), by repeat (first | (with_reducible first | exact HB.out | apply below_alloc | apply pw_below_drewN | apply below_drew1 | refine below_set ?_ GE295.out | refine below_set ?_ GE296.out) | exact HB.out)⟩
                      · rw [if_neg c45] at H
                        have c45b0 : decide (1073741824 < a1_3) = false := decide_eq_false c45
                        clear c45
                        have H' := Aside0.mk H
                        clear H
                        have hnb48 := NB296_295.out
                        have hnc48 := NB295_296.out
                        have hcz49_0 : wr.cell? ⟨gb296, 0, none⟩ = some (.int .i64 a1_0) := (blk_cell BK296.out 0).trans rfl
                        have hcz49_1 : wr.cell? ⟨gb296, 1, none⟩ = some (.int .i64 a1_1) := (blk_cell BK296.out 1).trans rfl
                        have hcz49_2 : wr.cell? ⟨gb296, 2, none⟩ = some (.int .i64 a1_2) := (blk_cell BK296.out 2).trans rfl
                        have hcz49_3 : wr.cell? ⟨gb296, 3, none⟩ = some (.int .i64 a1_3) := (blk_cell BK296.out 3).trans rfl
                        have hfz49_0 := blk_frozen BK296.out 0
                        have hfz49_1 := blk_frozen BK296.out 1
                        have hfz49_2 := blk_frozen BK296.out 2
                        have hfz49_3 := blk_frozen BK296.out 3
                        go_wp2
                        go_roundg k1
                        case measure => have := HK1.out; omega
                        case rel => exact ⟨(wrap64 (3 + 1)), (by first | rfl | (simp <;> unfold wrap64 <;> omega) | (simp; done) | (simp [*]; done)), H', ⟨by have := HK1.out; omega⟩, ⟨by (with_reducible repeat (first | refine blk_drewN ?_ _ | refine blk_drew ?_ | refine blk_alloc ?_ _)); exact BK295.out⟩, ⟨by (with_reducible repeat (first | refine blk_drewN ?_ _ | refine blk_drew ?_ | refine blk_alloc ?_ _)); exact BK296.out⟩, ⟨by repeat (first | (with_reducible first | exact HB.out | apply below_alloc | apply pw_below_drewN | apply below_drew1 | refine below_set ?_ GE295.out | refine below_set ?_ GE296.out) | exact HB.out)⟩⟩
                  · rw [if_neg c41] at H
                    exact absurd H (by simp)
          · rw [if_neg c13] at H
            have c13b0 : decide (x6_1 < 4) = false := decide_eq_false c13
            clear c13
            replace H := Option.bind_eq_some_iff.mp H
            obtain ⟨⟨t299, t300, t301, t302⟩, A500, H⟩ := H
            replace H : ((rect_Outset.f a0_0 a0_1 a0_2 a0_3 a1_0 a1_1 a1_2 a1_3).bind fun bt304 => (if true = true then (if t301 ≥ 0 then (if t302 ≥ 0 then ((rect_In.f t299 t300 t301 t302 a0_0 a0_1 a0_2 a0_3).bind fun t309 => (if t309 = true then ((rect_In.f a0_0 a0_1 a0_2 a0_3 bt304.1 bt304.2.1 bt304.2.2.1 bt304.2.2.2).bind fun t310 => (if t310 = true then (if t301 = (mx (wrap64 ((wrap64 (a0_2 - a1_1)) - a1_3)) 0) then (if bt304.2.2.2 = (wrap64 ((wrap64 (a0_3 + a1_0)) + a1_2)) then (if t299 = (wrap64 (a0_0 + a1_3)) then (some (bt304.2.1 == (wrap64 (a0_1 - a1_0)))) else (none)) else (none)) else (none)) else (none))) else (none))) else (none)) else (none)) else (none))) = some r := H
            have A50 := Aside0.mk A500
            clear A500
            replace H := Option.bind_eq_some_iff.mp H
            obtain ⟨⟨t304, t305, t306, t307⟩, A510, H⟩ := H
            replace H : (if true = true then (if t301 ≥ 0 then (if t302 ≥ 0 then ((rect_In.f t299 t300 t301 t302 a0_0 a0_1 a0_2 a0_3).bind fun t309 => (if t309 = true then ((rect_In.f a0_0 a0_1 a0_2 a0_3 t304 t305 t306 t307).bind fun t310 => (if t310 = true then (if t301 = (mx (wrap64 ((wrap64 (a0_2 - a1_1)) - a1_3)) 0) then (if t307 = (wrap64 ((wrap64 (a0_3 + a1_0)) + a1_2)) then (if t299 = (wrap64 (a0_0 + a1_3)) then (some (t305 == (wrap64 (a0_1 - a1_0)))) else (none)) else (none)) else (none)) else (none))) else (none))) else (none)) else (none)) else (none)) = some r := H
            have A51 := Aside0.mk A510
            clear A510
            by_cases c52 : true = true
            · clear c52
              have H1 : (if t301 ≥ 0 then (if t302 ≥ 0 then ((rect_In.f t299 t300 t301 t302 a0_0 a0_1 a0_2 a0_3).bind fun t309 => (if t309 = true then ((rect_In.f a0_0 a0_1 a0_2 a0_3 t304 t305 t306 t307).bind fun t310 => (if t310 = true then (if t301 = (mx (wrap64 ((wrap64 (a0_2 - a1_1)) - a1_3)) 0) then (if t307 = (wrap64 ((wrap64 (a0_3 + a1_0)) + a1_2)) then (if t299 = (wrap64 (a0_0 + a1_3)) then (some (t305 == (wrap64 (a0_1 - a1_0)))) else (none)) else (none)) else (none)) else (none))) else (none))) else (none)) else (none)) = some r := by first | (rw [if_pos rfl] at H; exact H) | (rw [if_pos True.intro] at H; exact H)
              clear H
              have H := H1
              clear H1
              by_cases c53 : t301 ≥ 0
              · rw [if_pos c53] at H
                have c53b0 : decide (0 ≤ t301) = true := decide_eq_true c53
                clear c53
                by_cases c54 : t302 ≥ 0
                · rw [if_pos c54] at H
                  have c54b0 : decide (0 ≤ t302) = true := decide_eq_true c54
                  clear c54
                  replace H := Option.bind_eq_some_iff.mp H
                  obtain ⟨t309, A550, H⟩ := H
                  replace H : (if t309 = true then ((rect_In.f a0_0 a0_1 a0_2 a0_3 t304 t305 t306 t307).bind fun t310 => (if t310 = true then (if t301 = (mx (wrap64 ((wrap64 (a0_2 - a1_1)) - a1_3)) 0) then (if t307 = (wrap64 ((wrap64 (a0_3 + a1_0)) + a1_2)) then (if t299 = (wrap64 (a0_0 + a1_3)) then (some (t305 == (wrap64 (a0_1 - a1_0)))) else (none)) else (none)) else (none)) else (none))) else (none)) = some r := H
                  have A55 := Aside0.mk A550
                  clear A550
                  by_cases c56 : t309 = true
                  · subst c56
                    have H1 : ((rect_In.f a0_0 a0_1 a0_2 a0_3 t304 t305 t306 t307).bind fun t310 => (if t310 = true then (if t301 = (mx (wrap64 ((wrap64 (a0_2 - a1_1)) - a1_3)) 0) then (if t307 = (wrap64 ((wrap64 (a0_3 + a1_0)) + a1_2)) then (if t299 = (wrap64 (a0_0 + a1_3)) then (some (t305 == (wrap64 (a0_1 - a1_0)))) else (none)) else (none)) else (none)) else (none))) = some r := by first | (rw [if_pos rfl] at H; exact H) | (rw [if_pos True.intro] at H; exact H)
                    clear H
                    have H := H1
                    clear H1
                    replace H := Option.bind_eq_some_iff.mp H
                    obtain ⟨t310, A570, H⟩ := H
                    replace H : (if t310 = true then (if t301 = (mx (wrap64 ((wrap64 (a0_2 - a1_1)) - a1_3)) 0) then (if t307 = (wrap64 ((wrap64 (a0_3 + a1_0)) + a1_2)) then (if t299 = (wrap64 (a0_0 + a1_3)) then (some (t305 == (wrap64 (a0_1 - a1_0)))) else (none)) else (none)) else (none)) else (none)) = some r := H
                    have A57 := Aside0.mk A570
                    clear A570
                    by_cases c58 : t310 = true
                    · subst c58
                      have H1 : (if t301 = (mx (wrap64 ((wrap64 (a0_2 - a1_1)) - a1_3)) 0) then (if t307 = (wrap64 ((wrap64 (a0_3 + a1_0)) + a1_2)) then (if t299 = (wrap64 (a0_0 + a1_3)) then (some (t305 == (wrap64 (a0_1 - a1_0)))) else (none)) else (none)) else (none)) = some r := by first | (rw [if_pos rfl] at H; exact H) | (rw [if_pos True.intro] at H; exact H)
                      clear H
                      have H := H1
                      clear H1
                      obtain ⟨ji59, hji59⟩ : ∃ j_ : Int, (mx (wrap64 ((wrap64 (a0_2 - a1_1)) - a1_3)) 0) = j_ := ⟨_, rfl⟩
                      replace H : (if t301 = (ji59) then (if t307 = (wrap64 ((wrap64 (a0_3 + a1_0)) + a1_2)) then (if t299 = (wrap64 (a0_0 + a1_3)) then (some (t305 == (wrap64 (a0_1 - a1_0)))) else (none)) else (none)) else (none)) = some r := by first | (rw [hji59] at H; exact H) | (simp only [hji59] at H ⊢; exact H)
                      (try rw [hji59] at A50)
                      (try rw [hji59] at A51)
                      (try rw [hji59] at A55)
                      (try rw [hji59] at A57)
                      have hji59_ : (if (wrap64 ((wrap64 (a0_2 - a1_1)) - a1_3)) < 0 then 0 else (wrap64 ((wrap64 (a0_2 - a1_1)) - a1_3))) = ji59 := hji59
                      by_cases c60 : t301 = (ji59)
                      · rw [if_pos c60] at H
                        have c60b0 : (t301 == (ji59)) = true := beq_iff_eq.mpr c60
                        have c60b1 : (t301 != (ji59)) = false := bne_eq_false_iff_eq.mpr c60
                        clear c60
                        by_cases c61 : t307 = (wrap64 ((wrap64 (a0_3 + a1_0)) + a1_2))
                        · rw [if_pos c61] at H
                          have c61b0 : (t307 == (wrap64 ((wrap64 (a0_3 + a1_0)) + a1_2))) = true := beq_iff_eq.mpr c61
                          have c61b1 : (t307 != (wrap64 ((wrap64 (a0_3 + a1_0)) + a1_2))) = false := bne_eq_false_iff_eq.mpr c61
                          clear c61
                          by_cases c62 : t299 = (wrap64 (a0_0 + a1_3))
                          · rw [if_pos c62] at H
                            have c62b0 : (t299 == (wrap64 (a0_0 + a1_3))) = true := beq_iff_eq.mpr c62
                            have c62b1 : (t299 != (wrap64 (a0_0 + a1_3))) = false := bne_eq_false_iff_eq.mpr c62
                            clear c62
                            obtain rfl := Option.some.inj H
                            have hnb63 := NB295_296.out
                            have hnc63 := NB296_295.out
                            have hcz64_0 : wr.cell? ⟨gb295, 0, none⟩ = some (.int .i64 a0_0) := (blk_cell BK295.out 0).trans rfl
                            have hcz64_1 : wr.cell? ⟨gb295, 1, none⟩ = some (.int .i64 a0_1) := (blk_cell BK295.out 1).trans rfl
                            have hcz64_2 : wr.cell? ⟨gb295, 2, none⟩ = some (.int .i64 a0_2) := (blk_cell BK295.out 2).trans rfl
                            have hcz64_3 : wr.cell? ⟨gb295, 3, none⟩ = some (.int .i64 a0_3) := (blk_cell BK295.out 3).trans rfl
                            have hfz64_0 := blk_frozen BK295.out 0
                            have hfz64_1 := blk_frozen BK295.out 1
                            have hfz64_2 := blk_frozen BK295.out 2
                            have hfz64_3 := blk_frozen BK295.out 3
                            have hcz65_0 : wr.cell? ⟨gb296, 0, none⟩ = some (.int .i64 a1_0) := (blk_cell BK296.out 0).trans rfl
                            have hcz65_1 : wr.cell? ⟨gb296, 1, none⟩ = some (.int .i64 a1_1) := (blk_cell BK296.out 1).trans rfl
                            have hcz65_2 : wr.cell? ⟨gb296, 2, none⟩ = some (.int .i64 a1_2) := (blk_cell BK296.out 2).trans rfl
                            have hcz65_3 : wr.cell? ⟨gb296, 3, none⟩ = some (.int .i64 a1_3) := (blk_cell BK296.out 3).trans rfl
                            have hfz65_0 := blk_frozen BK296.out 0
                            have hfz65_1 := blk_frozen BK296.out 1
                            have hfz65_2 := blk_frozen BK296.out 2
                            have hfz65_3 := blk_frozen BK296.out 3
                            go_wp2_with (first | ((with_reducible refine gate_callee (f := 8) rfl ?_); refine goesL_ (some 33) rfl rfl Try.func8 (by kernel_rfl) rfl #[.agg #[.int .i64 a0_0, .int .i64 a0_1, .int .i64 a0_2, .int .i64 a0_3], .agg #[.int .i64 a1_0, .int .i64 a1_1, .int .i64 a1_2, .int .i64 a1_3]] rfl (by (try simp only [List.map_toArray, List.map_cons, List.map_nil]); first | done | rfl | (simp only [List.length_drop, List.length_take]; rfl)) ?_; (with_reducible refine (rect_Inset.calls a0_0 a0_1 a0_2 a0_3 a1_0 a1_1 a1_2 a1_3 t299 t300 t301 t302 _ A50.out).mono ?_); rintro e w66 ⟨rfl, hb⟩; refine ⟨_, rfl, ?_⟩; have n0_ := Aside0.mk (blk_below (g := gb295) (o := .cells #[.int .i64 a0_0, .int .i64 a0_1, .int .i64 a0_2, .int .i64 a0_3] 23 (0, 0)) (by (with_reducible repeat (first | refine blk_drewN ?_ _ | refine blk_drew ?_ | refine blk_alloc ?_ _)); exact BK295.out) hb); have n1_ := Aside0.mk (blk_below (g := gb296) (o := .cells #[.int .i64 a1_0, .int .i64 a1_1, .int .i64 a1_2, .int .i64 a1_3] 24 (0, 0)) (by (with_reducible repeat (first | refine blk_drewN ?_ _ | refine blk_drew ?_ | refine blk_alloc ?_ _)); exact BK296.out) hb); have n2_ := Aside0.mk (below_step (by repeat (first | (with_reducible first | exact HB.out | apply below_alloc | apply pw_below_drewN | apply below_drew1 | refine below_set ?_ GE295.out | refine below_set ?_ GE296.out) | exact HB.out)) hb); clear BK295; clear BK296; clear HB; have BK295 := n0_; have BK296 := n1_; have HB := n2_; clear n0_ n1_ n2_; (try clear hb); (try clear hb2); (try clear hk); (try clear hi)) | ((with_reducible refine gate_dst (N := 7) rfl ?_); (try (refine gate_guard (by rfl) ?_; dsimp only)); refine box_event ?hg (N := 7) ?hd (cs := #[.int .i64 0, .int .i64 0, .int .i64 0, .int .i64 0]) (t := 23) ?hr ?_; (case hd => rfl); (case hg => rfl); (case hr => first | (go_simp; done) | (go_simp; rfl)); intro gb303 hg w67 hbox hb; have n0_ := Aside0.mk (blk_below (g := gb295) (o := .cells #[.int .i64 a0_0, .int .i64 a0_1, .int .i64 a0_2, .int .i64 a0_3] 23 (0, 0)) (by (with_reducible repeat (first | refine blk_drewN ?_ _ | refine blk_drew ?_ | refine blk_alloc ?_ _)); exact BK295.out) hb); have n1_ := Aside0.mk (blk_below (g := gb296) (o := .cells #[.int .i64 a1_0, .int .i64 a1_1, .int .i64 a1_2, .int .i64 a1_3] 24 (0, 0)) (by (with_reducible repeat (first | refine blk_drewN ?_ _ | refine blk_drew ?_ | refine blk_alloc ?_ _)); exact BK296.out) hb); have n2_ := Aside0.mk (below_step (by repeat (first | (with_reducible first | exact HB.out | apply below_alloc | apply pw_below_drewN | apply below_drew1 | refine below_set ?_ GE295.out | refine below_set ?_ GE296.out) | exact HB.out)) hb); have n3_ := Aside0.mk (hbox); have n4_ := Aside0.mk ((by rw [hg]; exact (below_size (by repeat (first | (with_reducible first | exact HB.out | apply below_alloc | apply pw_below_drewN | apply below_drew1 | refine below_set ?_ GE295.out | refine below_set ?_ GE296.out) | exact HB.out))) : w.heap.size ≤ gb303)); have n5_ := Aside0.mk ((by rw [hg]; exact (below_size (by repeat (first | (with_reducible first | exact HB.out | apply below_alloc | apply pw_below_drewN | apply below_drew1 | refine below_set ?_ GE295.out | refine below_set ?_ GE296.out) | exact HB.out))) : w.heap.size ≤ gb303)); have n6_ := Aside0.mk ((by rw [hg]; exact Nat.ne_of_lt (blk_lt (g := gb295) (o := .cells #[.int .i64 a0_0, .int .i64 a0_1, .int .i64 a0_2, .int .i64 a0_3] 23 (0, 0)) (by (with_reducible repeat (first | refine blk_drewN ?_ _ | refine blk_drew ?_ | refine blk_alloc ?_ _)); exact BK295.out)) : gb295 ≠ gb303)); have n7_ := Aside0.mk ((by rw [hg]; exact Nat.ne_of_gt (blk_lt (g := gb295) (o := .cells #[.int .i64 a0_0, .int .i64 a0_1, .int .i64 a0_2, .int .i64 a0_3] 23 (0, 0)) (by (with_reducible repeat (first | refine blk_drewN ?_ _ | refine blk_drew ?_ | refine blk_alloc ?_ _)); exact BK295.out)) : gb303 ≠ gb295)); have n8_ := Aside0.mk ((by rw [hg]; exact Nat.ne_of_lt (blk_lt (g := gb296) (o := .cells #[.int .i64 a1_0, .int .i64 a1_1, .int .i64 a1_2, .int .i64 a1_3] 24 (0, 0)) (by (with_reducible repeat (first | refine blk_drewN ?_ _ | refine blk_drew ?_ | refine blk_alloc ?_ _)); exact BK296.out)) : gb296 ≠ gb303)); have n9_ := Aside0.mk ((by rw [hg]; exact Nat.ne_of_gt (blk_lt (g := gb296) (o := .cells #[.int .i64 a1_0, .int .i64 a1_1, .int .i64 a1_2, .int .i64 a1_3] 24 (0, 0)) (by (with_reducible repeat (first | refine blk_drewN ?_ _ | refine blk_drew ?_ | refine blk_alloc ?_ _)); exact BK296.out)) : gb303 ≠ gb296)); clear BK295; clear BK296; clear HB; have BK295 := n0_; have BK296 := n1_; have HB := n2_; have BK303 := n3_; have GW303 := n4_; have GE303 := n5_; have NB295_303 := n6_; have NB303_295 := n7_; have NB296_303 := n8_; have NB303_296 := n9_; clear n0_ n1_ n2_ n3_ n4_ n5_ n6_ n7_ n8_ n9_; clear hb hbox hg; have hnb68 := NB303_295.out; have hnc68 := NB295_303.out; have hnb69 := NB303_296.out; have hnc69 := NB296_303.out; have hcz70_0 : w67.cell? ⟨gb303, 0, none⟩ = some (.int .i64 0) := (blk_cell BK303.out 0).trans rfl; have hcz70_1 : w67.cell? ⟨gb303, 1, none⟩ = some (.int .i64 0) := (blk_cell BK303.out 1).trans rfl; have hcz70_2 : w67.cell? ⟨gb303, 2, none⟩ = some (.int .i64 0) := (blk_cell BK303.out 2).trans rfl; have hcz70_3 : w67.cell? ⟨gb303, 3, none⟩ = some (.int .i64 0) := (blk_cell BK303.out 3).trans rfl; have hfz70_0 := blk_frozen BK303.out 0; have hfz70_1 := blk_frozen BK303.out 1; have hfz70_2 := blk_frozen BK303.out 2; have hfz70_3 := blk_frozen BK303.out 3; have hcz71_0 : w67.cell? ⟨gb295, 0, none⟩ = some (.int .i64 a0_0) := (blk_cell BK295.out 0).trans rfl; have hcz71_1 : w67.cell? ⟨gb295, 1, none⟩ = some (.int .i64 a0_1) := (blk_cell BK295.out 1).trans rfl; have hcz71_2 : w67.cell? ⟨gb295, 2, none⟩ = some (.int .i64 a0_2) := (blk_cell BK295.out 2).trans rfl; have hcz71_3 : w67.cell? ⟨gb295, 3, none⟩ = some (.int .i64 a0_3) := (blk_cell BK295.out 3).trans rfl; have hfz71_0 := blk_frozen BK295.out 0; have hfz71_1 := blk_frozen BK295.out 1; have hfz71_2 := blk_frozen BK295.out 2; have hfz71_3 := blk_frozen BK295.out 3; have hcz72_0 : w67.cell? ⟨gb296, 0, none⟩ = some (.int .i64 a1_0) := (blk_cell BK296.out 0).trans rfl; have hcz72_1 : w67.cell? ⟨gb296, 1, none⟩ = some (.int .i64 a1_1) := (blk_cell BK296.out 1).trans rfl; have hcz72_2 : w67.cell? ⟨gb296, 2, none⟩ = some (.int .i64 a1_2) := (blk_cell BK296.out 2).trans rfl; have hcz72_3 : w67.cell? ⟨gb296, 3, none⟩ = some (.int .i64 a1_3) := (blk_cell BK296.out 3).trans rfl; have hfz72_0 := blk_frozen BK296.out 0; have hfz72_1 := blk_frozen BK296.out 1; have hfz72_2 := blk_frozen BK296.out 2; have hfz72_3 := blk_frozen BK296.out 3) | ((with_reducible refine gate_callee (f := 9) rfl ?_); refine goesL_ (some 36) rfl rfl Try.func9 (by kernel_rfl) rfl #[.agg #[.int .i64 a0_0, .int .i64 a0_1, .int .i64 a0_2, .int .i64 a0_3], .agg #[.int .i64 a1_0, .int .i64 a1_1, .int .i64 a1_2, .int .i64 a1_3]] rfl (by (try simp only [List.map_toArray, List.map_cons, List.map_nil]); first | done | rfl | (simp only [List.length_drop, List.length_take]; rfl)) ?_; (with_reducible refine (rect_Outset.calls a0_0 a0_1 a0_2 a0_3 a1_0 a1_1 a1_2 a1_3 t304 t305 t306 t307 _ A51.out).mono ?_); rintro e w73 ⟨rfl, hb⟩; refine ⟨_, rfl, ?_⟩; have n0_ := Aside0.mk (blk_below (g := gb295) (o := .cells #[.int .i64 a0_0, .int .i64 a0_1, .int .i64 a0_2, .int .i64 a0_3] 23 (0, 0)) (by (with_reducible repeat (first | refine blk_drewN ?_ _ | refine blk_drew ?_ | refine blk_alloc ?_ _)); refine blk_far ?_ NB295_303.out _; (with_reducible repeat (first | refine blk_drewN ?_ _ | refine blk_drew ?_ | refine blk_alloc ?_ _)); refine blk_far ?_ NB295_303.out _; (with_reducible repeat (first | refine blk_drewN ?_ _ | refine blk_drew ?_ | refine blk_alloc ?_ _)); refine blk_far ?_ NB295_303.out _; (with_reducible repeat (first | refine blk_drewN ?_ _ | refine blk_drew ?_ | refine blk_alloc ?_ _)); refine blk_far ?_ NB295_303.out _; (with_reducible repeat (first | refine blk_drewN ?_ _ | refine blk_drew ?_ | refine blk_alloc ?_ _)); exact BK295.out) hb); have n1_ := Aside0.mk (blk_below (g := gb296) (o := .cells #[.int .i64 a1_0, .int .i64 a1_1, .int .i64 a1_2, .int .i64 a1_3] 24 (0, 0)) (by (with_reducible repeat (first | refine blk_drewN ?_ _ | refine blk_drew ?_ | refine blk_alloc ?_ _)); refine blk_far ?_ NB296_303.out _; (with_reducible repeat (first | refine blk_drewN ?_ _ | refine blk_drew ?_ | refine blk_alloc ?_ _)); refine blk_far ?_ NB296_303.out _; (with_reducible repeat (first | refine blk_drewN ?_ _ | refine blk_drew ?_ | refine blk_alloc ?_ _)); refine blk_far ?_ NB296_303.out _; (with_reducible repeat (first | refine blk_drewN ?_ _ | refine blk_drew ?_ | refine blk_alloc ?_ _)); refine blk_far ?_ NB296_303.out _; (with_reducible repeat (first | refine blk_drewN ?_ _ | refine blk_drew ?_ | refine blk_alloc ?_ _)); exact BK296.out) hb); have n2_ := Aside0.mk (blk_below (g := gb303) (o := .cells #[.int .i64 t299, .int .i64 t300, .int .i64 t301, .int .i64 t302] 23 (0, 0)) (by (with_reducible repeat (first | refine blk_drewN ?_ _ | refine blk_drew ?_ | refine blk_alloc ?_ _)); refine blk_put (cs := #[.int .i64 t299, .int .i64 t300, .int .i64 t301, .int .i64 0]) ?_ 3 _ rfl; (with_reducible repeat (first | refine blk_drewN ?_ _ | refine blk_drew ?_ | refine blk_alloc ?_ _)); refine blk_put (cs := #[.int .i64 t299, .int .i64 t300, .int .i64 0, .int .i64 0]) ?_ 2 _ rfl; (with_reducible repeat (first | refine blk_drewN ?_ _ | refine blk_drew ?_ | refine blk_alloc ?_ _)); refine blk_put (cs := #[.int .i64 t299, .int .i64 0, .int .i64 0, .int .i64 0]) ?_ 1 _ rfl; (with_reducible repeat (first | refine blk_drewN ?_ _ | refine blk_drew ?_ | refine blk_alloc ?_ _)); refine blk_put (cs := #[.int .i64 0, .int .i64 0, .int .i64 0, .int .i64 0]) ?_ 0 _ rfl; (with_reducible repeat (first | refine blk_drewN ?_ _ | refine blk_drew ?_ | refine blk_alloc ?_ _)); exact BK303.out) hb); have n3_ := Aside0.mk (below_step (by repeat (first | (with_reducible first | exact HB.out | apply below_alloc | apply pw_below_drewN | apply below_drew1 | refine below_set ?_ GE295.out | refine below_set ?_ GE296.out | refine below_set ?_ GE303.out) | exact HB.out)) hb); clear BK295; clear BK296; clear BK303; clear HB; have BK295 := n0_; have BK296 := n1_; have BK303 := n2_; have HB := n3_; clear n0_ n1_ n2_ n3_; (try clear hb); (try clear hb2); (try clear hk); (try clear hi)) | ((with_reducible refine gate_dst (N := 8) rfl ?_); (try (refine gate_guard (by rfl) ?_; dsimp only)); refine box_event ?hg (N := 8) ?hd (cs := #[.int .i64 0, .int .i64 0, .int .i64 0, .int .i64 0]) (t := 23) ?hr ?_; (case hd => rfl); (case hg => rfl); (case hr => first | (go_simp; done) | (go_simp; rfl)); intro gb308 hg w74 hbox hb; have n0_ := Aside0.mk (blk_below (g := gb295) (o := .cells #[.int .i64 a0_0, .int .i64 a0_1, .int .i64 a0_2, .int .i64 a0_3] 23 (0, 0)) (by (with_reducible repeat (first | refine blk_drewN ?_ _ | refine blk_drew ?_ | refine blk_alloc ?_ _)); exact BK295.out) hb); have n1_ := Aside0.mk (blk_below (g := gb296) (o := .cells #[.int .i64 a1_0, .int .i64 a1_1, .int .i64 a1_2, .int .i64 a1_3] 24 (0, 0)) (by (with_reducible repeat (first | refine blk_drewN ?_ _ | refine blk_drew ?_ | refine blk_alloc ?_ _)); exact BK296.out) hb); have n2_ := Aside0.mk (blk_below (g := gb303) (o := .cells #[.int .i64 t299, .int .i64 t300, .int .i64 t301, .int .i64 t302] 23 (0, 0)) (by (with_reducible repeat (first | refine blk_drewN ?_ _ | refine blk_drew ?_ | refine blk_alloc ?_ _)); exact BK303.out) hb); have n3_ := Aside0.mk (below_step (by repeat (first | (with_reducible first | exact HB.out | apply below_alloc | apply pw_below_drewN | apply below_drew1 | refine below_set ?_ GE295.out | refine below_set ?_ GE296.out | refine below_set ?_ GE303.out) | exact HB.out)) hb); have n4_ := Aside0.mk (hbox); have n5_ := Aside0.mk ((by rw [hg]; exact (below_size (by repeat (first | (with_reducible first | exact HB.out | apply below_alloc | apply pw_below_drewN | apply below_drew1 | refine below_set ?_ GE295.out | refine below_set ?_ GE296.out | refine below_set ?_ GE303.out) | exact HB.out))) : w.heap.size ≤ gb308)); have n6_ := Aside0.mk ((by rw [hg]; exact (below_size (by repeat (first | (with_reducible first | exact HB.out | apply below_alloc | apply pw_below_drewN | apply below_drew1 | refine below_set ?_ GE295.out | refine below_set ?_ GE296.out | refine below_set ?_ GE303.out) | exact HB.out))) : w.heap.size ≤ gb308)); have n7_ := Aside0.mk ((by rw [hg]; exact Nat.ne_of_lt (blk_lt (g := gb295) (o := .cells #[.int .i64 a0_0, .int .i64 a0_1, .int .i64 a0_2, .int .i64 a0_3] 23 (0, 0)) (by (with_reducible repeat (first | refine blk_drewN ?_ _ | refine blk_drew ?_ | refine blk_alloc ?_ _)); exact BK295.out)) : gb295 ≠ gb308)); have n8_ := Aside0.mk ((by rw [hg]; exact Nat.ne_of_gt (blk_lt (g := gb295) (o := .cells #[.int .i64 a0_0, .int .i64 a0_1, .int .i64 a0_2, .int .i64 a0_3] 23 (0, 0)) (by (with_reducible repeat (first | refine blk_drewN ?_ _ | refine blk_drew ?_ | refine blk_alloc ?_ _)); exact BK295.out)) : gb308 ≠ gb295)); have n9_ := Aside0.mk ((by rw [hg]; exact Nat.ne_of_lt (blk_lt (g := gb296) (o := .cells #[.int .i64 a1_0, .int .i64 a1_1, .int .i64 a1_2, .int .i64 a1_3] 24 (0, 0)) (by (with_reducible repeat (first | refine blk_drewN ?_ _ | refine blk_drew ?_ | refine blk_alloc ?_ _)); exact BK296.out)) : gb296 ≠ gb308)); have n10_ := Aside0.mk ((by rw [hg]; exact Nat.ne_of_gt (blk_lt (g := gb296) (o := .cells #[.int .i64 a1_0, .int .i64 a1_1, .int .i64 a1_2, .int .i64 a1_3] 24 (0, 0)) (by (with_reducible repeat (first | refine blk_drewN ?_ _ | refine blk_drew ?_ | refine blk_alloc ?_ _)); exact BK296.out)) : gb308 ≠ gb296)); have n11_ := Aside0.mk ((by rw [hg]; exact Nat.ne_of_lt (blk_lt (g := gb303) (o := .cells #[.int .i64 t299, .int .i64 t300, .int .i64 t301, .int .i64 t302] 23 (0, 0)) (by (with_reducible repeat (first | refine blk_drewN ?_ _ | refine blk_drew ?_ | refine blk_alloc ?_ _)); exact BK303.out)) : gb303 ≠ gb308)); have n12_ := Aside0.mk ((by rw [hg]; exact Nat.ne_of_gt (blk_lt (g := gb303) (o := .cells #[.int .i64 t299, .int .i64 t300, .int .i64 t301, .int .i64 t302] 23 (0, 0)) (by (with_reducible repeat (first | refine blk_drewN ?_ _ | refine blk_drew ?_ | refine blk_alloc ?_ _)); exact BK303.out)) : gb308 ≠ gb303)); clear BK295; clear BK296; clear BK303; clear HB; have BK295 := n0_; have BK296 := n1_; have BK303 := n2_; have HB := n3_; have BK308 := n4_; have GW308 := n5_; have GE308 := n6_; have NB295_308 := n7_; have NB308_295 := n8_; have NB296_308 := n9_; have NB308_296 := n10_; have NB303_308 := n11_; have NB308_303 := n12_; clear n0_ n1_ n2_ n3_ n4_ n5_ n6_ n7_ n8_ n9_ n10_ n11_ n12_; clear hb hbox hg; have hnb75 := NB308_295.out; have hnc75 := NB295_308.out; have hnb76 := NB308_296.out; have hnc76 := NB296_308.out; have hnb77 := NB308_303.out; have hnc77 := NB303_308.out; have hcz78_0 : w74.cell? ⟨gb308, 0, none⟩ = some (.int .i64 0) := (blk_cell BK308.out 0).trans rfl; have hcz78_1 : w74.cell? ⟨gb308, 1, none⟩ = some (.int .i64 0) := (blk_cell BK308.out 1).trans rfl; have hcz78_2 : w74.cell? ⟨gb308, 2, none⟩ = some (.int .i64 0) := (blk_cell BK308.out 2).trans rfl; have hcz78_3 : w74.cell? ⟨gb308, 3, none⟩ = some (.int .i64 0) := (blk_cell BK308.out 3).trans rfl; have hfz78_0 := blk_frozen BK308.out 0; have hfz78_1 := blk_frozen BK308.out 1; have hfz78_2 := blk_frozen BK308.out 2; have hfz78_3 := blk_frozen BK308.out 3; have hcz79_0 : w74.cell? ⟨gb303, 0, none⟩ = some (.int .i64 t299) := (blk_cell BK303.out 0).trans rfl; have hcz79_1 : w74.cell? ⟨gb303, 1, none⟩ = some (.int .i64 t300) := (blk_cell BK303.out 1).trans rfl; have hcz79_2 : w74.cell? ⟨gb303, 2, none⟩ = some (.int .i64 t301) := (blk_cell BK303.out 2).trans rfl; have hcz79_3 : w74.cell? ⟨gb303, 3, none⟩ = some (.int .i64 t302) := (blk_cell BK303.out 3).trans rfl; have hfz79_0 := blk_frozen BK303.out 0; have hfz79_1 := blk_frozen BK303.out 1; have hfz79_2 := blk_frozen BK303.out 2; have hfz79_3 := blk_frozen BK303.out 3; have hcz80_0 : w74.cell? ⟨gb295, 0, none⟩ = some (.int .i64 a0_0) := (blk_cell BK295.out 0).trans rfl; have hcz80_1 : w74.cell? ⟨gb295, 1, none⟩ = some (.int .i64 a0_1) := (blk_cell BK295.out 1).trans rfl; have hcz80_2 : w74.cell? ⟨gb295, 2, none⟩ = some (.int .i64 a0_2) := (blk_cell BK295.out 2).trans rfl; have hcz80_3 : w74.cell? ⟨gb295, 3, none⟩ = some (.int .i64 a0_3) := (blk_cell BK295.out 3).trans rfl; have hfz80_0 := blk_frozen BK295.out 0; have hfz80_1 := blk_frozen BK295.out 1; have hfz80_2 := blk_frozen BK295.out 2; have hfz80_3 := blk_frozen BK295.out 3) | (go_at_call 10; (with_reducible refine (rect_In.calls t299 t300 t301 t302 a0_0 a0_1 a0_2 a0_3 true _ A55.out).mono ?_); rintro e w81 ⟨rfl, hb⟩; have n0_ := Aside0.mk (blk_below (g := gb295) (o := .cells #[.int .i64 a0_0, .int .i64 a0_1, .int .i64 a0_2, .int .i64 a0_3] 23 (0, 0)) (by (with_reducible repeat (first | refine blk_drewN ?_ _ | refine blk_drew ?_ | refine blk_alloc ?_ _)); refine blk_far ?_ NB295_308.out _; (with_reducible repeat (first | refine blk_drewN ?_ _ | refine blk_drew ?_ | refine blk_alloc ?_ _)); refine blk_far ?_ NB295_308.out _; (with_reducible repeat (first | refine blk_drewN ?_ _ | refine blk_drew ?_ | refine blk_alloc ?_ _)); refine blk_far ?_ NB295_308.out _; (with_reducible repeat (first | refine blk_drewN ?_ _ | refine blk_drew ?_ | refine blk_alloc ?_ _)); refine blk_far ?_ NB295_308.out _; (with_reducible repeat (first | refine blk_drewN ?_ _ | refine blk_drew ?_ | refine blk_alloc ?_ _)); exact BK295.out) hb); have n1_ := Aside0.mk (blk_below (g := gb296) (o := .cells #[.int .i64 a1_0, .int .i64 a1_1, .int .i64 a1_2, .int .i64 a1_3] 24 (0, 0)) (by (with_reducible repeat (first | refine blk_drewN ?_ _ | refine blk_drew ?_ | refine blk_alloc ?_ _)); refine blk_far ?_ NB296_308.out _; (with_reducible repeat (first | refine blk_drewN ?_ _ | refine blk_drew ?_ | refine blk_alloc ?_ _)); refine blk_far ?_ NB296_308.out _; (with_reducible repeat (first | refine blk_drewN ?_ _ | refine blk_drew ?_ | refine blk_alloc ?_ _)); refine blk_far ?_ NB296_308.out _; (with_reducible repeat (first | refine blk_drewN ?_ _ | refine blk_drew ?_ | refine blk_alloc ?_ _)); refine blk_far ?_ NB296_308.out _; (with_reducible repeat (first | refine blk_drewN ?_ _ | refine blk_drew ?_ | refine blk_alloc ?_ _)); exact BK296.out) hb); have n2_ := Aside0.mk (blk_below (g := gb303) (o := .cells #[.int .i64 t299, .int .i64 t300, .int .i64 t301, .int .i64 t302] 23 (0, 0)) (by (with_reducible repeat (first | refine blk_drewN ?_ _ | refine blk_drew ?_ | refine blk_alloc ?_ _)); refine blk_far ?_ NB303_308.out _; (with_reducible repeat (first | refine blk_drewN ?_ _ | refine blk_drew ?_ | refine blk_alloc ?_ _)); refine blk_far ?_ NB303_308.out _; (with_reducible repeat (first | refine blk_drewN ?_ _ | refine blk_drew ?_ | refine blk_alloc ?_ _)); refine blk_far ?_ NB303_308.out _; (with_reducible repeat (first | refine blk_drewN ?_ _ | refine blk_drew ?_ | refine blk_alloc ?_ _)); refine blk_far ?_ NB303_308.out _; (with_reducible repeat (first | refine blk_drewN ?_ _ | refine blk_drew ?_ | refine blk_alloc ?_ _)); exact BK303.out) hb); have n3_ := Aside0.mk (blk_below (g := gb308) (o := .cells #[.int .i64 t304, .int .i64 t305, .int .i64 t306, .int .i64 t307] 23 (0, 0)) (by (with_reducible repeat (first | refine blk_drewN ?_ _ | refine blk_drew ?_ | refine blk_alloc ?_ _)); refine blk_put (cs := #[.int .i64 t304, .int .i64 t305, .int .i64 t306, .int .i64 0]) ?_ 3 _ rfl; (with_reducible repeat (first | refine blk_drewN ?_ _ | refine blk_drew ?_ | refine blk_alloc ?_ _)); refine blk_put (cs := #[.int .i64 t304, .int .i64 t305, .int .i64 0, .int .i64 0]) ?_ 2 _ rfl; (with_reducible repeat (first | refine blk_drewN ?_ _ | refine blk_drew ?_ | refine blk_alloc ?_ _)); refine blk_put (cs := #[.int .i64 t304, .int .i64 0, .int .i64 0, .int .i64 0]) ?_ 1 _ rfl; (with_reducible repeat (first | refine blk_drewN ?_ _ | refine blk_drew ?_ | refine blk_alloc ?_ _)); refine blk_put (cs := #[.int .i64 0, .int .i64 0, .int .i64 0, .int .i64 0]) ?_ 0 _ rfl; (with_reducible repeat (first | refine blk_drewN ?_ _ | refine blk_drew ?_ | refine blk_alloc ?_ _)); exact BK308.out) hb); have n4_ := Aside0.mk (below_step (by repeat (first | (with_reducible first | exact HB.out | apply below_alloc | apply pw_below_drewN | apply below_drew1 | refine below_set ?_ GE295.out | refine below_set ?_ GE296.out | refine below_set ?_ GE303.out | refine below_set ?_ GE308.out) | exact HB.out)) hb); clear BK295; clear BK296; clear BK303; clear BK308; clear HB; have BK295 := n0_; have BK296 := n1_; have BK303 := n2_; have BK308 := n3_; have HB := n4_; clear n0_ n1_ n2_ n3_ n4_; (try clear hb); (try clear hb2); (try clear hk); (try clear hi); have hcz82_0 : w81.cell? ⟨gb295, 0, none⟩ = some (.int .i64 a0_0) := (blk_cell BK295.out 0).trans rfl; have hcz82_1 : w81.cell? ⟨gb295, 1, none⟩ = some (.int .i64 a0_1) := (blk_cell BK295.out 1).trans rfl; have hcz82_2 : w81.cell? ⟨gb295, 2, none⟩ = some (.int .i64 a0_2) := (blk_cell BK295.out 2).trans rfl; have hcz82_3 : w81.cell? ⟨gb295, 3, none⟩ = some (.int .i64 a0_3) := (blk_cell BK295.out 3).trans rfl; have hfz82_0 := blk_frozen BK295.out 0; have hfz82_1 := blk_frozen BK295.out 1; have hfz82_2 := blk_frozen BK295.out 2; have hfz82_3 := blk_frozen BK295.out 3; have hcz83_0 : w81.cell? ⟨gb308, 0, none⟩ = some (.int .i64 t304) := (blk_cell BK308.out 0).trans rfl; have hcz83_1 : w81.cell? ⟨gb308, 1, none⟩ = some (.int .i64 t305) := (blk_cell BK308.out 1).trans rfl; have hcz83_2 : w81.cell? ⟨gb308, 2, none⟩ = some (.int .i64 t306) := (blk_cell BK308.out 2).trans rfl; have hcz83_3 : w81.cell? ⟨gb308, 3, none⟩ = some (.int .i64 t307) := (blk_cell BK308.out 3).trans rfl; have hfz83_0 := blk_frozen BK308.out 0; have hfz83_1 := blk_frozen BK308.out 1; have hfz83_2 := blk_frozen BK308.out 2; have hfz83_3 := blk_frozen BK308.out 3) | (go_at_call 10; (with_reducible refine (rect_In.calls a0_0 a0_1 a0_2 a0_3 t304 t305 t306 t307 true _ A57.out).mono ?_); rintro e w84 ⟨rfl, hb⟩; have n0_ := Aside0.mk (blk_below (g := gb295) (o := .cells #[.int .i64 a0_0, .int .i64 a0_1, .int .i64 a0_2, .int .i64 a0_3] 23 (0, 0)) (by (with_reducible repeat (first | refine blk_drewN ?_ _ | refine blk_drew ?_ | refine blk_alloc ?_ _)); exact BK295.out) hb); have n1_ := Aside0.mk (blk_below (g := gb296) (o := .cells #[.int .i64 a1_0, .int .i64 a1_1, .int .i64 a1_2, .int .i64 a1_3] 24 (0, 0)) (by (with_reducible repeat (first | refine blk_drewN ?_ _ | refine blk_drew ?_ | refine blk_alloc ?_ _)); exact BK296.out) hb); have n2_ := Aside0.mk (blk_below (g := gb303) (o := .cells #[.int .i64 t299, .int .i64 t300, .int .i64 t301, .int .i64 t302] 23 (0, 0)) (by (with_reducible repeat (first | refine blk_drewN ?_ _ | refine blk_drew ?_ | refine blk_alloc ?_ _)); exact BK303.out) hb); have n3_ := Aside0.mk (blk_below (g := gb308) (o := .cells #[.int .i64 t304, .int .i64 t305, .int .i64 t306, .int .i64 t307] 23 (0, 0)) (by (with_reducible repeat (first | refine blk_drewN ?_ _ | refine blk_drew ?_ | refine blk_alloc ?_ _)); exact BK308.out) hb); have n4_ := Aside0.mk (below_step (by repeat (first | (with_reducible first | exact HB.out | apply below_alloc | apply pw_below_drewN | apply below_drew1 | refine below_set ?_ GE295.out | refine below_set ?_ GE296.out | refine below_set ?_ GE303.out | refine below_set ?_ GE308.out) | exact HB.out)) hb); clear BK295; clear BK296; clear BK303; clear BK308; clear HB; have BK295 := n0_; have BK296 := n1_; have BK303 := n2_; have BK308 := n3_; have HB := n4_; clear n0_ n1_ n2_ n3_ n4_; (try clear hb); (try clear hb2); (try clear hk); (try clear hi); have hcz85_0 : w84.cell? ⟨gb303, 0, none⟩ = some (.int .i64 t299) := (blk_cell BK303.out 0).trans rfl; have hcz85_1 : w84.cell? ⟨gb303, 1, none⟩ = some (.int .i64 t300) := (blk_cell BK303.out 1).trans rfl; have hcz85_2 : w84.cell? ⟨gb303, 2, none⟩ = some (.int .i64 t301) := (blk_cell BK303.out 2).trans rfl; have hcz85_3 : w84.cell? ⟨gb303, 3, none⟩ = some (.int .i64 t302) := (blk_cell BK303.out 3).trans rfl; have hfz85_0 := blk_frozen BK303.out 0; have hfz85_1 := blk_frozen BK303.out 1; have hfz85_2 := blk_frozen BK303.out 2; have hfz85_3 := blk_frozen BK303.out 3; have hcz86_0 : w84.cell? ⟨gb295, 0, none⟩ = some (.int .i64 a0_0) := (blk_cell BK295.out 0).trans rfl; have hcz86_1 : w84.cell? ⟨gb295, 1, none⟩ = some (.int .i64 a0_1) := (blk_cell BK295.out 1).trans rfl; have hcz86_2 : w84.cell? ⟨gb295, 2, none⟩ = some (.int .i64 a0_2) := (blk_cell BK295.out 2).trans rfl; have hcz86_3 : w84.cell? ⟨gb295, 3, none⟩ = some (.int .i64 a0_3) := (blk_cell BK295.out 3).trans rfl; have hfz86_0 := blk_frozen BK295.out 0; have hfz86_1 := blk_frozen BK295.out 1; have hfz86_2 := blk_frozen BK295.out 2; have hfz86_3 := blk_frozen BK295.out 3; have hcz87_0 : w84.cell? ⟨gb296, 0, none⟩ = some (.int .i64 a1_0) := (blk_cell BK296.out 0).trans rfl; have hcz87_1 : w84.cell? ⟨gb296, 1, none⟩ = some (.int .i64 a1_1) := (blk_cell BK296.out 1).trans rfl; have hcz87_2 : w84.cell? ⟨gb296, 2, none⟩ = some (.int .i64 a1_2) := (blk_cell BK296.out 2).trans rfl; have hcz87_3 : w84.cell? ⟨gb296, 3, none⟩ = some (.int .i64 a1_3) := (blk_cell BK296.out 3).trans rfl; have hfz87_0 := blk_frozen BK296.out 0; have hfz87_1 := blk_frozen BK296.out 1; have hfz87_2 := blk_frozen BK296.out 2; have hfz87_3 := blk_frozen BK296.out 3; have hcz88_0 : w84.cell? ⟨gb308, 0, none⟩ = some (.int .i64 t304) := (blk_cell BK308.out 0).trans rfl; have hcz88_1 : w84.cell? ⟨gb308, 1, none⟩ = some (.int .i64 t305) := (blk_cell BK308.out 1).trans rfl; have hcz88_2 : w84.cell? ⟨gb308, 2, none⟩ = some (.int .i64 t306) := (blk_cell BK308.out 2).trans rfl; have hcz88_3 : w84.cell? ⟨gb308, 3, none⟩ = some (.int .i64 t307) := (blk_cell BK308.out 3).trans rfl; have hfz88_0 := blk_frozen BK308.out 0; have hfz88_1 := blk_frozen BK308.out 1; have hfz88_2 := blk_frozen BK308.out 2; have hfz88_3 := blk_frozen BK308.out 3))
                            go_ret
                            exact ⟨by first | rfl | (simp [errW_none, errW_some] <;> rfl) | (simp only [← hji59]; first | rfl | (simp [errW_none, errW_some] <;> rfl)) | (simp [*, errW_none, errW_some] <;> rfl), by repeat (first | (with_reducible first | exact HB.out | apply below_alloc | apply pw_below_drewN | apply below_drew1 | refine below_set ?_ GE295.out | refine below_set ?_ GE296.out | refine below_set ?_ GE303.out | refine below_set ?_ GE308.out) | exact HB.out)⟩
                          · rw [if_neg c62] at H
                            exact absurd H (by simp)
                        · rw [if_neg c61] at H
                          exact absurd H (by simp)
                      · rw [if_neg c60] at H
                        exact absurd H (by simp)
                    · replace c58 := Bool.eq_false_iff.mpr c58
                      subst c58
                      have H1 : (none) = some r := by rw [if_neg (show ¬ (false = true) by decide)] at H; exact H
                      clear H
                      have H := H1
                      clear H1
                      exact absurd H (by simp)
                  · replace c56 := Bool.eq_false_iff.mpr c56
                    subst c56
                    have H1 : (none) = some r := by rw [if_neg (show ¬ (false = true) by decide)] at H; exact H
                    clear H
                    have H := H1
                    clear H1
                    exact absurd H (by simp)
                · rw [if_neg c54] at H
                  exact absurd H (by simp)
              · rw [if_neg c53] at H
                exact absurd H (by simp)
            · exact absurd rfl c52
    · replace c6 := Bool.eq_false_iff.mpr c6
      subst c6
      have H1 : (some true) = some r := by rw [if_neg (show ¬ (false = true) by decide)] at H; exact H
      clear H
      have H := H1
      clear H1
      obtain rfl := Option.some.inj H
      go_enter Try.func3, Try.ntmps3
      go_wp2_with (first | ((with_reducible refine gate_dst (N := 2) rfl ?_); (try (refine gate_guard (by rfl) ?_; dsimp only)); refine box_event ?hg (N := 2) ?hd (cs := #[.int .i64 a0_0, .int .i64 a0_1, .int .i64 a0_2, .int .i64 a0_3]) (t := 23) ?hr ?_; (case hd => rfl); (case hg => rfl); (case hr => first | (go_simp; done) | (go_simp; rfl)); intro gb295 hg w89 hbox hb; have n0_ := Aside0.mk (below_step (by repeat (first | (with_reducible first | exact HB.out | apply below_alloc | apply pw_below_drewN | apply below_drew1) | exact HB.out)) hb); have n1_ := Aside0.mk (hbox); have n2_ := Aside0.mk ((by rw [hg]; exact (below_size (by repeat (first | (with_reducible first | exact HB.out | apply below_alloc | apply pw_below_drewN | apply below_drew1) | exact HB.out))) : w.heap.size ≤ gb295)); have n3_ := Aside0.mk ((by rw [hg]; exact (below_size (by repeat (first | (with_reducible first | exact HB.out | apply below_alloc | apply pw_below_drewN | apply below_drew1) | exact HB.out))) : w.heap.size ≤ gb295)); clear HB; have HB := n0_; have BK295 := n1_; have GW295 := n2_; have GE295 := n3_; clear n0_ n1_ n2_ n3_; clear hb hbox hg) | ((with_reducible refine gate_dst (N := 3) rfl ?_); (try (refine gate_guard (by rfl) ?_; dsimp only)); refine box_event ?hg (N := 3) ?hd (cs := #[.int .i64 a1_0, .int .i64 a1_1, .int .i64 a1_2, .int .i64 a1_3]) (t := 24) ?hr ?_; (case hd => rfl); (case hg => rfl); (case hr => first | (go_simp; done) | (go_simp; rfl)); intro gb296 hg w90 hbox hb; have n0_ := Aside0.mk (blk_below (g := gb295) (o := .cells #[.int .i64 a0_0, .int .i64 a0_1, .int .i64 a0_2, .int .i64 a0_3] 23 (0, 0)) (by (with_reducible repeat (first | refine blk_drewN ?_ _ | refine blk_drew ?_ | refine blk_alloc ?_ _)); exact BK295.out) hb); have n1_ := Aside0.mk (below_step (by repeat (first | (with_reducible first | exact HB.out | apply below_alloc | apply pw_below_drewN | apply below_drew1 | refine below_set ?_ GE295.out) | exact HB.out)) hb); have n2_ := Aside0.mk (hbox); have n3_ := Aside0.mk ((by rw [hg]; exact (below_size (by repeat (first | (with_reducible first | exact HB.out | apply below_alloc | apply pw_below_drewN | apply below_drew1 | refine below_set ?_ GE295.out) | exact HB.out))) : w.heap.size ≤ gb296)); have n4_ := Aside0.mk ((by rw [hg]; exact (below_size (by repeat (first | (with_reducible first | exact HB.out | apply below_alloc | apply pw_below_drewN | apply below_drew1 | refine below_set ?_ GE295.out) | exact HB.out))) : w.heap.size ≤ gb296)); have n5_ := Aside0.mk ((by rw [hg]; exact Nat.ne_of_lt (blk_lt (g := gb295) (o := .cells #[.int .i64 a0_0, .int .i64 a0_1, .int .i64 a0_2, .int .i64 a0_3] 23 (0, 0)) (by (with_reducible repeat (first | refine blk_drewN ?_ _ | refine blk_drew ?_ | refine blk_alloc ?_ _)); exact BK295.out)) : gb295 ≠ gb296)); have n6_ := Aside0.mk ((by rw [hg]; exact Nat.ne_of_gt (blk_lt (g := gb295) (o := .cells #[.int .i64 a0_0, .int .i64 a0_1, .int .i64 a0_2, .int .i64 a0_3] 23 (0, 0)) (by (with_reducible repeat (first | refine blk_drewN ?_ _ | refine blk_drew ?_ | refine blk_alloc ?_ _)); exact BK295.out)) : gb296 ≠ gb295)); clear BK295; clear HB; have BK295 := n0_; have HB := n1_; have BK296 := n2_; have GW296 := n3_; have GE296 := n4_; have NB295_296 := n5_; have NB296_295 := n6_; clear n0_ n1_ n2_ n3_ n4_ n5_ n6_; clear hb hbox hg) | ((with_reducible refine gate_callee (f := 6) rfl ?_); refine goesL_ (some 9) rfl rfl Try.func6 (by kernel_rfl) rfl #[] rfl (by (try simp only [List.map_toArray, List.map_cons, List.map_nil]); first | done | rfl | (simp only [List.length_drop, List.length_take]; rfl)) ?_; (with_reducible refine (valancelaw04_works.calls  true _ A3.out).mono ?_); rintro e w91 ⟨rfl, hb⟩; refine ⟨_, rfl, ?_⟩; have n0_ := Aside0.mk (blk_below (g := gb295) (o := .cells #[.int .i64 a0_0, .int .i64 a0_1, .int .i64 a0_2, .int .i64 a0_3] 23 (0, 0)) (by (with_reducible repeat (first | refine blk_drewN ?_ _ | refine blk_drew ?_ | refine blk_alloc ?_ _)); exact BK295.out) hb); have n1_ := Aside0.mk (blk_below (g := gb296) (o := .cells #[.int .i64 a1_0, .int .i64 a1_1, .int .i64 a1_2, .int .i64 a1_3] 24 (0, 0)) (by (with_reducible repeat (first | refine blk_drewN ?_ _ | refine blk_drew ?_ | refine blk_alloc ?_ _)); exact BK296.out) hb); have n2_ := Aside0.mk (below_step (by repeat (first | (with_reducible first | exact HB.out | apply below_alloc | apply pw_below_drewN | apply below_drew1 | refine below_set ?_ GE295.out | refine below_set ?_ GE296.out) | exact HB.out)) hb); clear BK295; clear BK296; clear HB; have BK295 := n0_; have BK296 := n1_; have HB := n2_; clear n0_ n1_ n2_; (try clear hb); (try clear hb2); (try clear hk); (try clear hi); have hnb92 := NB295_296.out; have hnc92 := NB296_295.out; have hcz93_0 : w91.cell? ⟨gb295, 0, none⟩ = some (.int .i64 a0_0) := (blk_cell BK295.out 0).trans rfl; have hcz93_1 : w91.cell? ⟨gb295, 1, none⟩ = some (.int .i64 a0_1) := (blk_cell BK295.out 1).trans rfl; have hcz93_2 : w91.cell? ⟨gb295, 2, none⟩ = some (.int .i64 a0_2) := (blk_cell BK295.out 2).trans rfl; have hcz93_3 : w91.cell? ⟨gb295, 3, none⟩ = some (.int .i64 a0_3) := (blk_cell BK295.out 3).trans rfl; have hfz93_0 := blk_frozen BK295.out 0; have hfz93_1 := blk_frozen BK295.out 1; have hfz93_2 := blk_frozen BK295.out 2; have hfz93_3 := blk_frozen BK295.out 3) | ((with_reducible refine gate_callee (f := 7) rfl ?_); refine goesL_ (some 13) rfl rfl Try.func7 (by kernel_rfl) rfl #[.agg #[.int .i64 a0_0, .int .i64 a0_1, .int .i64 a0_2, .int .i64 a0_3]] rfl (by (try simp only [List.map_toArray, List.map_cons, List.map_nil]); first | done | rfl | (simp only [List.length_drop, List.length_take]; rfl)) ?_; (with_reducible refine (valancelaw04_small.calls a0_0 a0_1 a0_2 a0_3 false _ A5.out).mono ?_); rintro e w94 ⟨rfl, hb⟩; refine ⟨_, rfl, ?_⟩; have n0_ := Aside0.mk (blk_below (g := gb295) (o := .cells #[.int .i64 a0_0, .int .i64 a0_1, .int .i64 a0_2, .int .i64 a0_3] 23 (0, 0)) (by (with_reducible repeat (first | refine blk_drewN ?_ _ | refine blk_drew ?_ | refine blk_alloc ?_ _)); exact BK295.out) hb); have n1_ := Aside0.mk (blk_below (g := gb296) (o := .cells #[.int .i64 a1_0, .int .i64 a1_1, .int .i64 a1_2, .int .i64 a1_3] 24 (0, 0)) (by (with_reducible repeat (first | refine blk_drewN ?_ _ | refine blk_drew ?_ | refine blk_alloc ?_ _)); exact BK296.out) hb); have n2_ := Aside0.mk (below_step (by repeat (first | (with_reducible first | exact HB.out | apply below_alloc | apply pw_below_drewN | apply below_drew1 | refine below_set ?_ GE295.out | refine below_set ?_ GE296.out) | exact HB.out)) hb); clear BK295; clear BK296; clear HB; have BK295 := n0_; have BK296 := n1_; have HB := n2_; clear n0_ n1_ n2_; (try clear hb); (try clear hb2); (try clear hk); (try clear hi)))
      go_ret
      exact ⟨by first | rfl | (simp [errW_none, errW_some] <;> rfl) | (simp [*, errW_none, errW_some] <;> rfl), by repeat (first | (with_reducible first | exact HB.out | apply below_alloc | apply pw_below_drewN | apply below_drew1 | refine below_set ?_ GE295.out | refine below_set ?_ GE296.out) | exact HB.out)⟩
  · replace c4 := Bool.eq_false_iff.mpr c4
    subst c4
    have H1 : (none) = some r := by rw [if_neg (show ¬ (false = true) by decide)] at H; exact H
    clear H
    have H := H1
    clear H1
    exact absurd H (by simp)

/-- THE ONE PURE STATEMENT of valancelaw04_RectSides: yours. -/
def valancelaw04_RectSides.Pure : Prop := ∀ (a0_0 : Int) (a0_1 : Int) (a0_2 : Int) (a0_3 : Int) (a1_0 : Int) (a1_1 : Int) (a1_2 : Int) (a1_3 : Int), (Lit.int .i64 a0_0).wf = true → (Lit.int .i64 a0_1).wf = true → (Lit.int .i64 a0_2).wf = true → (Lit.int .i64 a0_3).wf = true → (Lit.int .i64 a1_0).wf = true → (Lit.int .i64 a1_1).wf = true → (Lit.int .i64 a1_2).wf = true → (Lit.int .i64 a1_3).wf = true → ∃ k, valancelaw04_RectSides.f k a0_0 a0_1 a0_2 a0_3 a1_0 a1_1 a1_2 a1_3 = some true
theorem valancelaw04_RectSides.walk (P : valancelaw04_RectSides.Pure) (a0_0 : Int) (a0_1 : Int) (a0_2 : Int) (a0_3 : Int) (a1_0 : Int) (a1_1 : Int) (a1_2 : Int) (a1_3 : Int) (w : World) (w0_0 : (Lit.int .i64 a0_0).wf = true) (w0_1 : (Lit.int .i64 a0_1).wf = true) (w0_2 : (Lit.int .i64 a0_2).wf = true) (w0_3 : (Lit.int .i64 a0_3).wf = true) (w1_0 : (Lit.int .i64 a1_0).wf = true) (w1_1 : (Lit.int .i64 a1_1).wf = true) (w1_2 : (Lit.int .i64 a1_2).wf = true) (w1_3 : (Lit.int .i64 a1_3).wf = true) :
    Calls Try.prog 3 #[.agg #[.int .i64 a0_0, .int .i64 a0_1, .int .i64 a0_2, .int .i64 a0_3], .agg #[.int .i64 a1_0, .int .i64 a1_1, .int .i64 a1_2, .int .i64 a1_3]] w fun e w' => e = .returned (.bool true) ∧ Below w.heap.size w w' := by
  obtain ⟨k, h⟩ := P a0_0 a0_1 a0_2 a0_3 a1_0 a1_1 a1_2 a1_3 w0_0 w0_1 w0_2 w0_3 w1_0 w1_1 w1_2 w1_3
  refine (valancelaw04_RectSides.calls k a0_0 a0_1 a0_2 a0_3 a1_0 a1_1 a1_2 a1_3 true w h).mono ?_
  rintro e w' ⟨rfl, hd⟩
  exact ⟨rfl, hd⟩

end Go.Proofs.Ytnmcefpnpfaklae.V
