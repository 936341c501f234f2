/- What the functions of this seat answer, as plain Lean functions, and that the calls come to just that (written by a program of this repo, over the kit's printer; Lean checks it). -/
import Derived.Test.YtnmcefpnpfaklaaVx0
import Derived.Test.YtnmcefpnpfaklaaVx3
import Derived.Test.YtnmcefpnpfaklaaVx4
import Derived.Test.YtnmcefpnpfaklaaVx8
import Derived.Test.YtnmcefpnpfaklaaVx9
namespace Go.Proofs.Ytnmcefpnpfaklaa.V
open Go.RowKit Go.Proofs.YtnmcefpnpfaklaaW.PrintWords Go.Proofs.YtnmcefpnpfaklaaW.PrintLast Go.Proofs.YtnmcefpnpfaklaaW.PrintMore
attribute [local go_sem] max2_int min2_int max_two min_two max_three min_three max_four min_four   -- for this text's walks alone
set_option linter.unusedVariables false
set_option linter.unusedSimpArgs false

/-! ### valancelaw05_LengthWithin: function 5 -/
mutual
def valancelaw05_LengthWithin.j0 : Nat → Int → Int → Int → Bool → Int → Int → Int → Int → Int → Int → Option (Bool)
  | 0, _, _, _, _, _, _, _, _, _, _ => none
  | k + 1, x0, x1, x4, x11, x12, x13, x175000, x175001, x176000, x176001 => if x12 < x13 then (valancelaw05_LengthWithin.j1 k x0 x1 x4 x11 x12 true x175000 x175001 x176000 x176001) else ((length_Fixed.f x176000 x176001 x4).bind fun t180 => (if t180 = true then ((length_Of.f x176000 x176001 x4 0).bind fun t181 => (valancelaw05_LengthWithin.j1 k x0 x1 x4 x11 x12 (decide (x12 > (mx t181 x13))) x175000 x175001 x176000 x176001)) else (valancelaw05_LengthWithin.j1 k x0 x1 x4 x11 x12 false x175000 x175001 x176000 x176001)))
def valancelaw05_LengthWithin.j1 : Nat → Int → Int → Int → Bool → Int → Bool → Int → Int → Int → Int → Option (Bool)
  | 0, _, _, _, _, _, _, _, _, _, _ => none
  | k + 1, x0, x1, x4, x11, x12, x45, x175000, x175001, x176000, x176001 => if x45 = true then (none) else (if x11 = true then ((length_Limit.f x12 x175000 x175001 x176000 x176001 x4).bind fun t182 => (if t182 = x12 then (if x0 > x1 then (some true) else ((length_Limit.f x1 x175000 x175001 x176000 x176001 x4).bind fun t183 => (some (decide (x12 ≤ t183))))) else (none))) else (none))
end
def valancelaw05_LengthWithin.f (k : Nat) (a0 : Int) (a1 : Int) (a2_0 : Int) (a2_1 : Int) (a3_0 : Int) (a3_1 : Int) (a4 : Int) : Option (Bool) := (valancelaw05_works.f).bind fun t176 => (if t176 = true then ((length_Limit.f a0 a2_0 a2_1 a3_0 a3_1 a4).bind fun t177 => ((length_Fixed.f a2_0 a2_1 a4).bind fun t178 => (if t178 = true then ((length_Of.f a2_0 a2_1 a4 0).bind fun t179 => (valancelaw05_LengthWithin.j0 k a0 a1 a4 t176 t177 (mx t179 0) a2_0 a2_1 a3_0 a3_1)) else (valancelaw05_LengthWithin.j0 k a0 a1 a4 t176 t177 0 a2_0 a2_1 a3_0 a3_1)))) else (none))
theorem valancelaw05_LengthWithin.mono_l : ∀ k, (∀ y0 y1 y2 y3 y4 y5 y6 y7 y8 y9, LeO (valancelaw05_LengthWithin.j0 k y0 y1 y2 y3 y4 y5 y6 y7 y8 y9) (valancelaw05_LengthWithin.j0 (k + 1) y0 y1 y2 y3 y4 y5 y6 y7 y8 y9)) ∧ (∀ y0 y1 y2 y3 y4 y5 y6 y7 y8 y9, LeO (valancelaw05_LengthWithin.j1 k y0 y1 y2 y3 y4 y5 y6 y7 y8 y9) (valancelaw05_LengthWithin.j1 (k + 1) y0 y1 y2 y3 y4 y5 y6 y7 y8 y9))
  | 0 => ⟨fun _ _ _ _ _ _ _ _ _ _ r h => by simp [valancelaw05_LengthWithin.j0] at h, fun _ _ _ _ _ _ _ _ _ _ r h => by simp [valancelaw05_LengthWithin.j1] at h⟩
  | k + 1 => by
    obtain ⟨ih0, ih1⟩ := valancelaw05_LengthWithin.mono_l k
    refine ⟨?_, ?_⟩
    · intro y0 y1 y2 y3 y4 y5 y6 y7 y8 y9
      unfold valancelaw05_LengthWithin.j0
      repeat' first
      | (with_reducible exact ih0 _ _ _ _ _ _ _ _ _ _)
      | (with_reducible exact ih1 _ _ _ _ _ _ _ _ _ _)
      | (with_reducible exact LeO.refl _)
      | (with_reducible exact LeO.none _)
      | (with_reducible refine LeO.ite ?_ ?_)
      | (with_reducible refine LeO.bind ?_ (fun _ => ?_))
      | exact ih0 _ _ _ _ _ _ _ _ _ _
      | exact ih1 _ _ _ _ _ _ _ _ _ _
      | exact LeO.none _
      | refine LeO.ite ?_ ?_
      | refine LeO.bind ?_ (fun _ => ?_)
    · intro y0 y1 y2 y3 y4 y5 y6 y7 y8 y9
      unfold valancelaw05_LengthWithin.j1
      repeat' first
      | (with_reducible exact ih0 _ _ _ _ _ _ _ _ _ _)
      | (with_reducible exact ih1 _ _ _ _ _ _ _ _ _ _)
      | (with_reducible exact LeO.refl _)
      | (with_reducible exact LeO.none _)
      | (with_reducible refine LeO.ite ?_ ?_)
      | (with_reducible refine LeO.bind ?_ (fun _ => ?_))
      | exact ih0 _ _ _ _ _ _ _ _ _ _
      | exact ih1 _ _ _ _ _ _ _ _ _ _
      | exact LeO.none _
      | refine LeO.ite ?_ ?_
      | refine LeO.bind ?_ (fun _ => ?_)
theorem valancelaw05_LengthWithin.mono : ∀ a0 a1 a2 a3 a4 a5 a6 k, LeO (valancelaw05_LengthWithin.f k a0 a1 a2 a3 a4 a5 a6) (valancelaw05_LengthWithin.f (k + 1) a0 a1 a2 a3 a4 a5 a6) := by
  intro a0 a1 a2 a3 a4 a5 a6 k
  obtain ⟨ih0, ih1⟩ := valancelaw05_LengthWithin.mono_l k
  unfold valancelaw05_LengthWithin.f
  repeat' first
      | (with_reducible exact ih0 _ _ _ _ _ _ _ _ _ _)
      | (with_reducible exact ih1 _ _ _ _ _ _ _ _ _ _)
      | (with_reducible exact LeO.refl _)
      | (with_reducible exact LeO.none _)
      | (with_reducible refine LeO.ite ?_ ?_)
      | (with_reducible refine LeO.bind ?_ (fun _ => ?_))
      | exact ih0 _ _ _ _ _ _ _ _ _ _
      | exact ih1 _ _ _ _ _ _ _ _ _ _
      | exact LeO.none _
      | refine LeO.ite ?_ ?_
      | refine LeO.bind ?_ (fun _ => ?_)
set_option maxHeartbeats 8000000 in
set_option maxRecDepth 100000 in
theorem valancelaw05_LengthWithin.calls (k : Nat) (a0 : Int) (a1 : Int) (a2_0 : Int) (a2_1 : Int) (a3_0 : Int) (a3_1 : Int) (a4 : Int) (r : Bool) (w : World) (h : valancelaw05_LengthWithin.f k a0 a1 a2_0 a2_1 a3_0 a3_1 a4 = some r) :
    Calls Try.prog 5 #[.int .i64 a0, .int .i64 a1, .agg #[.int .i64 a2_0, .int .i64 a2_1], .agg #[.int .i64 a3_0, .int .i64 a3_1], .int .i64 a4] w fun e w' => e = .returned (.bool r) ∧ Below w.heap.size w w' := by
  have hu24 := Try.underlying24
  have HB := Aside0.mk (Below.refl w.heap.size w)
  have H : ((valancelaw05_works.f).bind fun t176 => (if t176 = true then ((length_Limit.f a0 a2_0 a2_1 a3_0 a3_1 a4).bind fun t177 => ((length_Fixed.f a2_0 a2_1 a4).bind fun t178 => (if t178 = true then ((length_Of.f a2_0 a2_1 a4 0).bind fun t179 => (valancelaw05_LengthWithin.j0 k a0 a1 a4 t176 t177 (mx t179 0) a2_0 a2_1 a3_0 a3_1)) else (valancelaw05_LengthWithin.j0 k a0 a1 a4 t176 t177 0 a2_0 a2_1 a3_0 a3_1)))) else (none))) = some r := h
  clear h
  replace H := Option.bind_eq_some_iff.mp H
  obtain ⟨t176, A60, H⟩ := H
  replace H : (if t176 = true then ((length_Limit.f a0 a2_0 a2_1 a3_0 a3_1 a4).bind fun t177 => ((length_Fixed.f a2_0 a2_1 a4).bind fun t178 => (if t178 = true then ((length_Of.f a2_0 a2_1 a4 0).bind fun t179 => (valancelaw05_LengthWithin.j0 k a0 a1 a4 t176 t177 (mx t179 0) a2_0 a2_1 a3_0 a3_1)) else (valancelaw05_LengthWithin.j0 k a0 a1 a4 t176 t177 0 a2_0 a2_1 a3_0 a3_1)))) else (none)) = some r := H
  have A6 := Aside0.mk A60
  clear A60
  by_cases c7 : t176 = true
  · subst c7
    have H1 : ((length_Limit.f a0 a2_0 a2_1 a3_0 a3_1 a4).bind fun t177 => ((length_Fixed.f a2_0 a2_1 a4).bind fun t178 => (if t178 = true then ((length_Of.f a2_0 a2_1 a4 0).bind fun t179 => (valancelaw05_LengthWithin.j0 k a0 a1 a4 true t177 (mx t179 0) a2_0 a2_1 a3_0 a3_1)) else (valancelaw05_LengthWithin.j0 k a0 a1 a4 true t177 0 a2_0 a2_1 a3_0 a3_1)))) = some r := by rw [if_pos rfl] at H; exact H
    clear H
    have H := H1
    clear H1
    replace H := Option.bind_eq_some_iff.mp H
    obtain ⟨t177, A80, H⟩ := H
    replace H : ((length_Fixed.f a2_0 a2_1 a4).bind fun t178 => (if t178 = true then ((length_Of.f a2_0 a2_1 a4 0).bind fun t179 => (valancelaw05_LengthWithin.j0 k a0 a1 a4 true t177 (mx t179 0) a2_0 a2_1 a3_0 a3_1)) else (valancelaw05_LengthWithin.j0 k a0 a1 a4 true t177 0 a2_0 a2_1 a3_0 a3_1))) = some r := H
    have A8 := Aside0.mk A80
    clear A80
    replace H := Option.bind_eq_some_iff.mp H
    obtain ⟨t178, A90, H⟩ := H
    replace H : (if t178 = true then ((length_Of.f a2_0 a2_1 a4 0).bind fun t179 => (valancelaw05_LengthWithin.j0 k a0 a1 a4 true t177 (mx t179 0) a2_0 a2_1 a3_0 a3_1)) else (valancelaw05_LengthWithin.j0 k a0 a1 a4 true t177 0 a2_0 a2_1 a3_0 a3_1)) = some r := H
    have A9 := Aside0.mk A90
    clear A90
    have HC10 := Aside0.mk H
    clear H
    go_enter Try.func5, Try.ntmps5
    go_upto_if 24 with (first | ((with_reducible refine gate_dst (N := 7) rfl ?_); (try (refine gate_guard (by rfl) ?_; dsimp only)); refine box_event ?hg (N := 7) ?hd (cs := #[.int .i64 a2_0, .int .i64 a2_1]) (t := 24) ?hr ?_; (case hd => rfl); (case hg => rfl); (case hr => first | (go_simp; done) | (go_simp; rfl)); intro gb174 hg w11 hbox hb; have n0_ := Aside0.mk (below_step (by repeat (first | (with_reducible first | exact HB.out | apply below_alloc | apply pw_below_drewN | apply below_drew1) | exact HB.out)) hb); have n1_ := Aside0.mk (hbox); have n2_ := Aside0.mk ((by rw [hg]; exact (below_size (by repeat (first | (with_reducible first | exact HB.out | apply below_alloc | apply pw_below_drewN | apply below_drew1) | exact HB.out))) : w.heap.size ≤ gb174)); have n3_ := Aside0.mk ((by rw [hg]; exact (below_size (by repeat (first | (with_reducible first | exact HB.out | apply below_alloc | apply pw_below_drewN | apply below_drew1) | exact HB.out))) : w.heap.size ≤ gb174)); clear HB; have HB := n0_; have BK174 := n1_; have GW174 := n2_; have GE174 := n3_; clear n0_ n1_ n2_ n3_; clear hb hbox hg) | ((with_reducible refine gate_dst (N := 8) rfl ?_); (try (refine gate_guard (by rfl) ?_; dsimp only)); refine box_event ?hg (N := 8) ?hd (cs := #[.int .i64 a3_0, .int .i64 a3_1]) (t := 24) ?hr ?_; (case hd => rfl); (case hg => rfl); (case hr => first | (go_simp; done) | (go_simp; rfl)); intro gb175 hg w12 hbox hb; have n0_ := Aside0.mk (blk_below (g := gb174) (o := .cells #[.int .i64 a2_0, .int .i64 a2_1] 24 (0, 0)) (by (with_reducible repeat (first | refine blk_drewN ?_ _ | refine blk_drew ?_ | refine blk_alloc ?_ _)); exact BK174.out) hb); have n1_ := Aside0.mk (below_step (by repeat (first | (with_reducible first | exact HB.out | apply below_alloc | apply pw_below_drewN | apply below_drew1 | refine below_set ?_ GE174.out) | exact HB.out)) hb); have n2_ := Aside0.mk (hbox); have n3_ := Aside0.mk ((by rw [hg]; exact (below_size (by repeat (first | (with_reducible first | exact HB.out | apply below_alloc | apply pw_below_drewN | apply below_drew1 | refine below_set ?_ GE174.out) | exact HB.out))) : w.heap.size ≤ gb175)); have n4_ := Aside0.mk ((by rw [hg]; exact (below_size (by repeat (first | (with_reducible first | exact HB.out | apply below_alloc | apply pw_below_drewN | apply below_drew1 | refine below_set ?_ GE174.out) | exact HB.out))) : w.heap.size ≤ gb175)); have n5_ := Aside0.mk ((by rw [hg]; exact Nat.ne_of_lt (blk_lt (g := gb174) (o := .cells #[.int .i64 a2_0, .int .i64 a2_1] 24 (0, 0)) (by (with_reducible repeat (first | refine blk_drewN ?_ _ | refine blk_drew ?_ | refine blk_alloc ?_ _)); exact BK174.out)) : gb174 ≠ gb175)); have n6_ := Aside0.mk ((by rw [hg]; exact Nat.ne_of_gt (blk_lt (g := gb174) (o := .cells #[.int .i64 a2_0, .int .i64 a2_1] 24 (0, 0)) (by (with_reducible repeat (first | refine blk_drewN ?_ _ | refine blk_drew ?_ | refine blk_alloc ?_ _)); exact BK174.out)) : gb175 ≠ gb174)); clear BK174; clear HB; have BK174 := n0_; have HB := n1_; have BK175 := n2_; have GW175 := n3_; have GE175 := n4_; have NB174_175 := n5_; have NB175_174 := n6_; clear n0_ n1_ n2_ n3_ n4_ n5_ n6_; clear hb hbox hg) | ((with_reducible refine gate_callee (f := 12) rfl ?_); refine goesL_ (some 14) rfl rfl Try.func12 (by kernel_rfl) rfl #[] rfl (by (try simp only [List.map_toArray, List.map_cons, List.map_nil]); first | done | rfl | (simp only [List.length_drop, List.length_take]; rfl)) ?_; (with_reducible refine (valancelaw05_works.calls  true _ A6.out).mono ?_); rintro e w13 ⟨rfl, hb⟩; refine ⟨_, rfl, ?_⟩; have n0_ := Aside0.mk (blk_below (g := gb174) (o := .cells #[.int .i64 a2_0, .int .i64 a2_1] 24 (0, 0)) (by (with_reducible repeat (first | refine blk_drewN ?_ _ | refine blk_drew ?_ | refine blk_alloc ?_ _)); exact BK174.out) hb); have n1_ := Aside0.mk (blk_below (g := gb175) (o := .cells #[.int .i64 a3_0, .int .i64 a3_1] 24 (0, 0)) (by (with_reducible repeat (first | refine blk_drewN ?_ _ | refine blk_drew ?_ | refine blk_alloc ?_ _)); exact BK175.out) hb); have n2_ := Aside0.mk (below_step (by repeat (first | (with_reducible first | exact HB.out | apply below_alloc | apply pw_below_drewN | apply below_drew1 | refine below_set ?_ GE174.out | refine below_set ?_ GE175.out) | exact HB.out)) hb); clear BK174; clear BK175; clear HB; have BK174 := n0_; have BK175 := n1_; have HB := n2_; clear n0_ n1_ n2_; (try clear hb); (try clear hb2); (try clear hk); (try clear hi); have hnb14 := NB174_175.out; have hnc14 := NB175_174.out; have hcz15_0 : w13.cell? ⟨gb174, 0, none⟩ = some (.int .i64 a2_0) := (blk_cell BK174.out 0).trans rfl; have hcz15_1 : w13.cell? ⟨gb174, 1, none⟩ = some (.int .i64 a2_1) := (blk_cell BK174.out 1).trans rfl; have hfz15_0 := blk_frozen BK174.out 0; have hfz15_1 := blk_frozen BK174.out 1; have hcz16_0 : w13.cell? ⟨gb175, 0, none⟩ = some (.int .i64 a3_0) := (blk_cell BK175.out 0).trans rfl; have hcz16_1 : w13.cell? ⟨gb175, 1, none⟩ = some (.int .i64 a3_1) := (blk_cell BK175.out 1).trans rfl; have hfz16_0 := blk_frozen BK175.out 0; have hfz16_1 := blk_frozen BK175.out 1) | ((with_reducible refine gate_callee (f := 21) rfl ?_); refine goesL_ (some 21) rfl rfl Try.func21 (by kernel_rfl) rfl #[.int .i64 a0, .agg #[.int .i64 a2_0, .int .i64 a2_1], .agg #[.int .i64 a3_0, .int .i64 a3_1], .int .i64 a4] rfl (by (try simp only [List.map_toArray, List.map_cons, List.map_nil]); first | done | rfl | (simp only [List.length_drop, List.length_take]; rfl)) ?_; (with_reducible refine (length_Limit.calls a0 a2_0 a2_1 a3_0 a3_1 a4 t177 _ A8.out).mono ?_); rintro e w17 ⟨rfl, hb⟩; refine ⟨_, rfl, ?_⟩; have n0_ := Aside0.mk (blk_below (g := gb174) (o := .cells #[.int .i64 a2_0, .int .i64 a2_1] 24 (0, 0)) (by (with_reducible repeat (first | refine blk_drewN ?_ _ | refine blk_drew ?_ | refine blk_alloc ?_ _)); exact BK174.out) hb); have n1_ := Aside0.mk (blk_below (g := gb175) (o := .cells #[.int .i64 a3_0, .int .i64 a3_1] 24 (0, 0)) (by (with_reducible repeat (first | refine blk_drewN ?_ _ | refine blk_drew ?_ | refine blk_alloc ?_ _)); exact BK175.out) hb); have n2_ := Aside0.mk (below_step (by repeat (first | (with_reducible first | exact HB.out | apply below_alloc | apply pw_below_drewN | apply below_drew1 | refine below_set ?_ GE174.out | refine below_set ?_ GE175.out) | exact HB.out)) hb); clear BK174; clear BK175; clear HB; have BK174 := n0_; have BK175 := n1_; have HB := n2_; clear n0_ n1_ n2_; (try clear hb); (try clear hb2); (try clear hk); (try clear hi); have hcz18_0 : w17.cell? ⟨gb174, 0, none⟩ = some (.int .i64 a2_0) := (blk_cell BK174.out 0).trans rfl; have hcz18_1 : w17.cell? ⟨gb174, 1, none⟩ = some (.int .i64 a2_1) := (blk_cell BK174.out 1).trans rfl; have hfz18_0 := blk_frozen BK174.out 0; have hfz18_1 := blk_frozen BK174.out 1) | ((with_reducible refine gate_callee (f := 15) rfl ?_); refine goesL_ (some 24) rfl rfl Try.func15 (by kernel_rfl) rfl #[.agg #[.int .i64 a2_0, .int .i64 a2_1], .int .i64 a4] rfl (by (try simp only [List.map_toArray, List.map_cons, List.map_nil]); first | done | rfl | (simp only [List.length_drop, List.length_take]; rfl)) ?_; (with_reducible refine (length_Fixed.calls a2_0 a2_1 a4 t178 _ A9.out).mono ?_); rintro e w19 ⟨rfl, hb⟩; refine ⟨_, rfl, ?_⟩; have n0_ := Aside0.mk (blk_below (g := gb174) (o := .cells #[.int .i64 a2_0, .int .i64 a2_1] 24 (0, 0)) (by (with_reducible repeat (first | refine blk_drewN ?_ _ | refine blk_drew ?_ | refine blk_alloc ?_ _)); exact BK174.out) hb); have n1_ := Aside0.mk (blk_below (g := gb175) (o := .cells #[.int .i64 a3_0, .int .i64 a3_1] 24 (0, 0)) (by (with_reducible repeat (first | refine blk_drewN ?_ _ | refine blk_drew ?_ | refine blk_alloc ?_ _)); exact BK175.out) hb); have n2_ := Aside0.mk (below_step (by repeat (first | (with_reducible first | exact HB.out | apply below_alloc | apply pw_below_drewN | apply below_drew1 | refine below_set ?_ GE174.out | refine below_set ?_ GE175.out) | exact HB.out)) hb); clear BK174; clear BK175; clear HB; have BK174 := n0_; have BK175 := n1_; have HB := n2_; clear n0_ n1_ n2_; (try clear hb); (try clear hb2); (try clear hk); (try clear hi)))
    (try simp only [Act.put, List.setIfInBounds_toArray, List.set_cons_zero, List.set_cons_succ])
    go_cut [13] (fun v13 wc => ∃ (kq : Nat) (x13_9 : Int), v13 = .int .i64 x13_9 ∧ Aside0 (valancelaw05_LengthWithin.j0 kq a0 a1 a4 true t177 x13_9 a2_0 a2_1 a3_0 a3_1 = some r) ∧ Aside0 (kq ≤ k) ∧ Aside0 (wc.heap[gb174]? = some (.cells #[.int .i64 a2_0, .int .i64 a2_1] 24 (0, 0))) ∧ Aside0 (wc.heap[gb175]? = some (.cells #[.int .i64 a3_0, .int .i64 a3_1] 24 (0, 0))) ∧ Aside0 (Below w.heap.size w wc))
    case first =>
      have H := HC10.out
      clear HC10
      by_cases c20 : t178 = true
      · subst c20
        have H1 : ((length_Of.f a2_0 a2_1 a4 0).bind fun t179 => (valancelaw05_LengthWithin.j0 k a0 a1 a4 true t177 (mx t179 0) a2_0 a2_1 a3_0 a3_1)) = some r := by rw [if_pos rfl] at H; exact H
        clear H
        have H := H1
        clear H1
        replace H := Option.bind_eq_some_iff.mp H
        obtain ⟨t179, A210, H⟩ := H
        replace H : (valancelaw05_LengthWithin.j0 k a0 a1 a4 true t177 (mx t179 0) a2_0 a2_1 a3_0 a3_1) = some r := H
        have A21 := Aside0.mk A210
        clear A210
        obtain ⟨ji22, hji22⟩ : ∃ j_ : Int, (mx t179 0) = j_ := ⟨_, rfl⟩
        replace H : (valancelaw05_LengthWithin.j0 k a0 a1 a4 true t177 ji22 a2_0 a2_1 a3_0 a3_1) = some r := by first | (rw [hji22] at H; exact H) | (simp only [hji22] at H ⊢; exact H)
        (try rw [hji22] at A21)
        (try (have hji22l : 0 ≤ ji22 := by (rw [← hji22]; unfold mx; (repeat' split) <;> omega)))
        (try (have hji22m : 0 ≤ ji22 := by omega))
        have hji22_ : (if t179 < 0 then 0 else t179) = ji22 := hji22
        have H' := Aside0.mk H
        clear H
        have hnb23 := NB174_175.out
        have hnc23 := NB175_174.out
        have hcz24_0 : w19.cell? ⟨gb174, 0, none⟩ = some (.int .i64 a2_0) := (blk_cell BK174.out 0).trans rfl
        have hcz24_1 : w19.cell? ⟨gb174, 1, none⟩ = some (.int .i64 a2_1) := (blk_cell BK174.out 1).trans rfl
        have hfz24_0 := blk_frozen BK174.out 0
        have hfz24_1 := blk_frozen BK174.out 1
        go_wp2_with (first | ((with_reducible refine gate_callee (f := 13) rfl ?_); refine goesL_ (some 27) rfl rfl Try.func13 (by kernel_rfl) rfl #[.agg #[.int .i64 a2_0, .int .i64 a2_1], .int .i64 a4, .int .i64 0] rfl (by (try simp only [List.map_toArray, List.map_cons, List.map_nil]); first | done | rfl | (simp only [List.length_drop, List.length_take]; rfl)) ?_; (with_reducible refine (length_Of.calls a2_0 a2_1 a4 0 t179 _ A21.out).mono ?_); rintro e w25 ⟨rfl, hb⟩; refine ⟨_, rfl, ?_⟩; have n0_ := Aside0.mk (blk_below (g := gb174) (o := .cells #[.int .i64 a2_0, .int .i64 a2_1] 24 (0, 0)) (by (with_reducible repeat (first | refine blk_drewN ?_ _ | refine blk_drew ?_ | refine blk_alloc ?_ _)); exact BK174.out) hb); have n1_ := Aside0.mk (blk_below (g := gb175) (o := .cells #[.int .i64 a3_0, .int .i64 a3_1] 24 (0, 0)) (by (with_reducible repeat (first | refine blk_drewN ?_ _ | refine blk_drew ?_ | refine blk_alloc ?_ _)); exact BK175.out) hb); have n2_ := Aside0.mk (below_step (by repeat (first | (with_reducible first | exact HB.out | apply below_alloc | apply pw_below_drewN | apply below_drew1 | refine below_set ?_ GE174.out | refine below_set ?_ GE175.out) | exact HB.out)) hb); clear BK174; clear BK175; clear HB; have BK174 := n0_; have BK175 := n1_; have HB := n2_; clear n0_ n1_ n2_; (try clear hb); (try clear hb2); (try clear hk); (try clear hi)))
        go_meet
        case rel => exact ⟨_, (ji22), (by first | rfl | (simp; done) | (simp only [← hji22] <;> (first | rfl | simp)) | (simp [*]; done)), H', ⟨by first | omega | exact Nat.le_refl _⟩, ⟨by (with_reducible repeat (first | refine blk_drewN ?_ _ | refine blk_drew ?_ | refine blk_alloc ?_ _)); exact BK174.out⟩, ⟨by (with_reducible repeat (first | refine blk_drewN ?_ _ | refine blk_drew ?_ | refine blk_alloc ?_ _)); exact BK175.out⟩, ⟨by repeat (first | (with_reducible first | exact HB.out | apply below_alloc | apply pw_below_drewN | apply below_drew1 | refine below_set ?_ GE174.out | refine below_set ?_ GE175.out) | exact HB.out)⟩⟩
      · replace c20 := Bool.eq_false_iff.mpr c20
        subst c20
        have H1 : (valancelaw05_LengthWithin.j0 k a0 a1 a4 true t177 0 a2_0 a2_1 a3_0 a3_1) = some r := by rw [if_neg (show ¬ (false = true) by decide)] at H; exact H
        clear H
        have H := H1
        clear H1
        have H' := Aside0.mk H
        clear H
        go_wp2
        go_meet
        case rel => exact ⟨_, (0), (by first | rfl | (simp; done) | (simp [*]; done)), H', ⟨by first | omega | exact Nat.le_refl _⟩, ⟨by (with_reducible repeat (first | refine blk_drewN ?_ _ | refine blk_drew ?_ | refine blk_alloc ?_ _)); exact BK174.out⟩, ⟨by (with_reducible repeat (first | refine blk_drewN ?_ _ | refine blk_drew ?_ | refine blk_alloc ?_ _)); exact BK175.out⟩, ⟨by repeat (first | (with_reducible first | exact HB.out | apply below_alloc | apply pw_below_drewN | apply below_drew1 | refine below_set ?_ GE174.out | refine below_set ?_ GE175.out) | exact HB.out)⟩⟩
    case rest =>
      clear HC10
      try clear c1
      try clear c2
      try clear p2
      try clear c5
      try clear c7
      try clear c12
      try clear c13
      try clear c14
      try clear c15
      try clear c20
      try clear c21
      try clear c23
      try clear hcz15_0
      try clear hcz15_1
      try clear hcz16_0
      try clear hcz16_1
      try clear hcz18_0
      try clear hcz18_1
      try clear hcz24_0
      try clear hcz24_1
      try clear hfz15_0
      try clear hfz15_1
      try clear hfz16_0
      try clear hfz16_1
      try clear hfz18_0
      try clear hfz18_1
      try clear hfz24_0
      try clear hfz24_1
      obtain ⟨kq, x13_9, rfl, HA, HJ9, BK174, BK175, HB⟩ := hcut
      cases kq with
      | zero => exact absurd HA.out (by simp [valancelaw05_LengthWithin.j0])
      | succ kj9 =>
        have H := HA.out
        clear HA
        simp only [valancelaw05_LengthWithin.j0] at H
        have HC26 := Aside0.mk H
        clear H
        go_upto_region 8 with (fail)
        go_cut [45] (fun v45 wc => ∃ (kq : Nat) (x45_25 : Bool), v45 = .bool x45_25 ∧ Aside0 (valancelaw05_LengthWithin.j1 kq a0 a1 a4 true t177 x45_25 a2_0 a2_1 a3_0 a3_1 = some r) ∧ Aside0 (kq ≤ kj9) ∧ Aside0 (wc.heap[gb174]? = some (.cells #[.int .i64 a2_0, .int .i64 a2_1] 24 (0, 0))) ∧ Aside0 (wc.heap[gb175]? = some (.cells #[.int .i64 a3_0, .int .i64 a3_1] 24 (0, 0))) ∧ Aside0 (Below w.heap.size w wc))
        case first =>
          have H := HC26.out
          clear HC26
          by_cases c27 : t177 < x13_9
          · rw [if_pos c27] at H
            have c27b0 : decide (t177 < x13_9) = true := decide_eq_true c27
            clear c27
            (first | rw [c27b0] | (simp only [i64_w, i32_w]; rw [c27b0]) | skip)
            have H' := Aside0.mk H
            clear H
            go_wp2
            go_meet
            case rel => exact ⟨_, (true), (by first | rfl | (simp; done) | (simp [*]; done)), H', ⟨by have := HJ9.out; first | omega | exact Nat.le_refl _⟩, ⟨by (with_reducible repeat (first | refine blk_drewN ?_ _ | refine blk_drew ?_ | refine blk_alloc ?_ _)); exact BK174.out⟩, ⟨by (with_reducible repeat (first | refine blk_drewN ?_ _ | refine blk_drew ?_ | refine blk_alloc ?_ _)); exact BK175.out⟩, ⟨by repeat (first | (with_reducible first | exact HB.out | apply below_alloc | apply pw_below_drewN | apply below_drew1 | refine below_set ?_ GE174.out | refine below_set ?_ GE175.out) | exact HB.out)⟩⟩
          · rw [if_neg c27] at H
            have c27b0 : decide (t177 < x13_9) = false := decide_eq_false c27
            clear c27
            (first | rw [c27b0] | (simp only [i64_w, i32_w]; rw [c27b0]) | skip)
            replace H := Option.bind_eq_some_iff.mp H
            obtain ⟨t180, A280, H⟩ := H
            replace H : (if t180 = true then ((length_Of.f a3_0 a3_1 a4 0).bind fun t181 => (valancelaw05_LengthWithin.j1 kj9 a0 a1 a4 true t177 (decide (t177 > (mx t181 x13_9))) a2_0 a2_1 a3_0 a3_1)) else (valancelaw05_LengthWithin.j1 kj9 a0 a1 a4 true t177 false a2_0 a2_1 a3_0 a3_1)) = some r := H
            have A28 := Aside0.mk A280
            clear A280
            by_cases c29 : t180 = true
            · subst c29
              have H1 : ((length_Of.f a3_0 a3_1 a4 0).bind fun t181 => (valancelaw05_LengthWithin.j1 kj9 a0 a1 a4 true t177 (decide (t177 > (mx t181 x13_9))) a2_0 a2_1 a3_0 a3_1)) = some r := by rw [if_pos rfl] at H; exact H
              clear H
              have H := H1
              clear H1
              replace H := Option.bind_eq_some_iff.mp H
              obtain ⟨t181, A300, H⟩ := H
              replace H : (valancelaw05_LengthWithin.j1 kj9 a0 a1 a4 true t177 (decide (t177 > (mx t181 x13_9))) a2_0 a2_1 a3_0 a3_1) = some r := H
              have A30 := Aside0.mk A300
              clear A300
              obtain ⟨ji31, hji31⟩ : ∃ j_ : Int, (mx t181 x13_9) = j_ := ⟨_, rfl⟩
              replace H : (valancelaw05_LengthWithin.j1 kj9 a0 a1 a4 true t177 (decide (t177 > (ji31))) a2_0 a2_1 a3_0 a3_1) = some r := by first | (rw [hji31] at H; exact H) | (simp only [hji31] at H ⊢; exact H)
              (try rw [hji31] at A28)
              (try rw [hji31] at A30)
              have hji31_ : (if t181 < x13_9 then x13_9 else t181) = ji31 := hji31
              have H' := Aside0.mk H
              clear H
              have hnb32 := NB175_174.out
              have hnc32 := NB174_175.out
              have hcz33_0 : wc.cell? ⟨gb175, 0, none⟩ = some (.int .i64 a3_0) := (blk_cell BK175.out 0).trans rfl
              have hcz33_1 : wc.cell? ⟨gb175, 1, none⟩ = some (.int .i64 a3_1) := (blk_cell BK175.out 1).trans rfl
              have hfz33_0 := blk_frozen BK175.out 0
              have hfz33_1 := blk_frozen BK175.out 1
              go_wp2_with (first | (go_at_call 15; (with_reducible refine (length_Fixed.calls a3_0 a3_1 a4 true _ A28.out).mono ?_); rintro e w34 ⟨rfl, hb⟩; have n0_ := Aside0.mk (blk_below (g := gb174) (o := .cells #[.int .i64 a2_0, .int .i64 a2_1] 24 (0, 0)) (by (with_reducible repeat (first | refine blk_drewN ?_ _ | refine blk_drew ?_ | refine blk_alloc ?_ _)); exact BK174.out) hb); have n1_ := Aside0.mk (blk_below (g := gb175) (o := .cells #[.int .i64 a3_0, .int .i64 a3_1] 24 (0, 0)) (by (with_reducible repeat (first | refine blk_drewN ?_ _ | refine blk_drew ?_ | refine blk_alloc ?_ _)); exact BK175.out) hb); have n2_ := Aside0.mk (below_step (by repeat (first | (with_reducible first | exact HB.out | apply below_alloc | apply pw_below_drewN | apply below_drew1 | refine below_set ?_ GE174.out | refine below_set ?_ GE175.out) | exact HB.out)) hb); clear BK174; clear BK175; clear HB; have BK174 := n0_; have BK175 := n1_; have HB := n2_; clear n0_ n1_ n2_; (try clear hb); (try clear hb2); (try clear hk); (try clear hi); have hcz35_0 : w34.cell? ⟨gb175, 0, none⟩ = some (.int .i64 a3_0) := (blk_cell BK175.out 0).trans rfl; have hcz35_1 : w34.cell? ⟨gb175, 1, none⟩ = some (.int .i64 a3_1) := (blk_cell BK175.out 1).trans rfl; have hfz35_0 := blk_frozen BK175.out 0; have hfz35_1 := blk_frozen BK175.out 1) | (go_at_call 13; (with_reducible refine (length_Of.calls a3_0 a3_1 a4 0 t181 _ A30.out).mono ?_); rintro e w36 ⟨rfl, hb⟩; have n0_ := Aside0.mk (blk_below (g := gb174) (o := .cells #[.int .i64 a2_0, .int .i64 a2_1] 24 (0, 0)) (by (with_reducible repeat (first | refine blk_drewN ?_ _ | refine blk_drew ?_ | refine blk_alloc ?_ _)); exact BK174.out) hb); have n1_ := Aside0.mk (blk_below (g := gb175) (o := .cells #[.int .i64 a3_0, .int .i64 a3_1] 24 (0, 0)) (by (with_reducible repeat (first | refine blk_drewN ?_ _ | refine blk_drew ?_ | refine blk_alloc ?_ _)); exact BK175.out) hb); have n2_ := Aside0.mk (below_step (by repeat (first | (with_reducible first | exact HB.out | apply below_alloc | apply pw_below_drewN | apply below_drew1 | refine below_set ?_ GE174.out | refine below_set ?_ GE175.out) | exact HB.out)) hb); clear BK174; clear BK175; clear HB; have BK174 := n0_; have BK175 := n1_; have HB := n2_; clear n0_ n1_ n2_; (try clear hb); (try clear hb2); (try clear hk); (try clear hi)))
              go_meet
              case rel => exact ⟨_, (decide (t177 > (ji31))), (by first | rfl | (simp; done) | (simp only [← hji31] <;> (first | rfl | simp)) | (simp [*]; done)), H', ⟨by have := HJ9.out; first | omega | exact Nat.le_refl _⟩, ⟨by (with_reducible repeat (first | refine blk_drewN ?_ _ | refine blk_drew ?_ | refine blk_alloc ?_ _)); exact BK174.out⟩, ⟨by (with_reducible repeat (first | refine blk_drewN ?_ _ | refine blk_drew ?_ | refine blk_alloc ?_ _)); exact BK175.out⟩, ⟨by repeat (first | (with_reducible first | exact HB.out | apply below_alloc | apply pw_below_drewN | apply below_drew1 | refine below_set ?_ GE174.out | refine below_set ?_ GE175.out) | exact HB.out)⟩⟩
            · replace c29 := Bool.eq_false_iff.mpr c29
              subst c29
              have H1 : (valancelaw05_LengthWithin.j1 kj9 a0 a1 a4 true t177 false a2_0 a2_1 a3_0 a3_1) = some r := by rw [if_neg (show ¬ (false = true) by decide)] at H; exact H
              clear H
              have H := H1
              clear H1
              have H' := Aside0.mk H
              clear H
              have hnb37 := NB175_174.out
              have hnc37 := NB174_175.out
              have hcz38_0 : wc.cell? ⟨gb175, 0, none⟩ = some (.int .i64 a3_0) := (blk_cell BK175.out 0).trans rfl
              have hcz38_1 : wc.cell? ⟨gb175, 1, none⟩ = some (.int .i64 a3_1) := (blk_cell BK175.out 1).trans rfl
              have hfz38_0 := blk_frozen BK175.out 0
              have hfz38_1 := blk_frozen BK175.out 1
              go_wp2_with (first | (go_at_call 15; (with_reducible refine (length_Fixed.calls a3_0 a3_1 a4 false _ A28.out).mono ?_); rintro e w39 ⟨rfl, hb⟩; have n0_ := Aside0.mk (blk_below (g := gb174) (o := .cells #[.int .i64 a2_0, .int .i64 a2_1] 24 (0, 0)) (by (with_reducible repeat (first | refine blk_drewN ?_ _ | refine blk_drew ?_ | refine blk_alloc ?_ _)); exact BK174.out) hb); have n1_ := Aside0.mk (blk_below (g := gb175) (o := .cells #[.int .i64 a3_0, .int .i64 a3_1] 24 (0, 0)) (by (with_reducible repeat (first | refine blk_drewN ?_ _ | refine blk_drew ?_ | refine blk_alloc ?_ _)); exact BK175.out) hb); have n2_ := Aside0.mk (below_step (by repeat (first | (with_reducible first | exact HB.out | apply below_alloc | apply pw_below_drewN | apply below_drew1 | refine below_set ?_ GE174.out | refine below_set ?_ GE175.out) | exact HB.out)) hb); clear BK174; clear BK175; clear HB; have BK174 := n0_; have BK175 := n1_; have HB := n2_; clear n0_ n1_ n2_; (try clear hb); (try clear hb2); (try clear hk); (try clear hi)))
              go_meet
              case rel => exact ⟨_, (false), (by first | rfl | (simp; done) | (simp [*]; done)), H', ⟨by have := HJ9.out; first | omega | exact Nat.le_refl _⟩, ⟨by (with_reducible repeat (first | refine blk_drewN ?_ _ | refine blk_drew ?_ | refine blk_alloc ?_ _)); exact BK174.out⟩, ⟨by (with_reducible repeat (first | refine blk_drewN ?_ _ | refine blk_drew ?_ | refine blk_alloc ?_ _)); exact BK175.out⟩, ⟨by repeat (first | (with_reducible first | exact HB.out | apply below_alloc | apply pw_below_drewN | apply below_drew1 | refine below_set ?_ GE174.out | refine below_set ?_ GE175.out) | exact HB.out)⟩⟩
        case rest =>
          clear HC26
          try clear c1
          try clear c2
          try clear p2
          try clear c3
          try clear c5
          try clear c7
          try clear c12
          try clear c13
          try clear c14
          try clear c15
          try clear c20
          try clear c21
          try clear c23
          try clear c27
          try clear c27b0
          try clear c29
          try clear c32
          try clear c37
          try clear hcz15_0
          try clear hcz15_1
          try clear hcz16_0
          try clear hcz16_1
          try clear hcz18_0
          try clear hcz18_1
          try clear hcz24_0
          try clear hcz24_1
          try clear hcz33_0
          try clear hcz33_1
          try clear hcz35_0
          try clear hcz35_1
          try clear hcz38_0
          try clear hcz38_1
          try clear hfz15_0
          try clear hfz15_1
          try clear hfz16_0
          try clear hfz16_1
          try clear hfz18_0
          try clear hfz18_1
          try clear hfz24_0
          try clear hfz24_1
          try clear hfz33_0
          try clear hfz33_1
          try clear hfz35_0
          try clear hfz35_1
          try clear hfz38_0
          try clear hfz38_1
          try clear p2
          obtain ⟨kq, x45_25, rfl, HA, HJ25, BK174, BK175, HB⟩ := hcut
          cases kq with
          | zero => exact absurd HA.out (by simp [valancelaw05_LengthWithin.j1])
          | succ kj25 =>
            have H := HA.out
            clear HA
            simp only [valancelaw05_LengthWithin.j1] at H
            by_cases c40 : x45_25 = true
            · subst c40
              have H1 : (none) = some r := by rw [if_pos rfl] at H; exact H
              clear H
              have H := H1
              clear H1
              exact absurd H (by simp)
            · replace c40 := Bool.eq_false_iff.mpr c40
              subst c40
              have H1 : (if true = true then ((length_Limit.f t177 a2_0 a2_1 a3_0 a3_1 a4).bind fun t182 => (if t182 = t177 then (if a0 > a1 then (some true) else ((length_Limit.f a1 a2_0 a2_1 a3_0 a3_1 a4).bind fun t183 => (some (decide (t177 ≤ t183))))) else (none))) else (none)) = some r := by rw [if_neg (show ¬ (false = true) by decide)] at H; exact H
              clear H
              have H := H1
              clear H1
              by_cases c41 : true = true
              · clear c41
                have H1 : ((length_Limit.f t177 a2_0 a2_1 a3_0 a3_1 a4).bind fun t182 => (if t182 = t177 then (if a0 > a1 then (some true) else ((length_Limit.f a1 a2_0 a2_1 a3_0 a3_1 a4).bind fun t183 => (some (decide (t177 ≤ t183))))) else (none))) = some r := by first | (rw [if_pos rfl] at H; exact H) | (rw [if_pos True.intro] at H; exact H)
                clear H
                have H := H1
                clear H1
                replace H := Option.bind_eq_some_iff.mp H
                obtain ⟨t182, A420, H⟩ := H
                replace H : (if t182 = t177 then (if a0 > a1 then (some true) else ((length_Limit.f a1 a2_0 a2_1 a3_0 a3_1 a4).bind fun t183 => (some (decide (t177 ≤ t183))))) else (none)) = some r := H
                have A42 := Aside0.mk A420
                clear A420
                by_cases c43 : t182 = t177
                · rw [if_pos c43] at H
                  have c43b0 : (t182 == t177) = true := beq_iff_eq.mpr c43
                  have c43b1 : (t182 != t177) = false := bne_eq_false_iff_eq.mpr c43
                  clear c43
                  by_cases c44 : a0 > a1
                  · rw [if_pos c44] at H
                    have c44b0 : decide (a1 < a0) = true := decide_eq_true c44
                    clear c44
                    obtain rfl := Option.some.inj H
                    have hnb45 := NB174_175.out
                    have hnc45 := NB175_174.out
                    have hcz46_0 : wc.cell? ⟨gb174, 0, none⟩ = some (.int .i64 a2_0) := (blk_cell BK174.out 0).trans rfl
                    have hcz46_1 : wc.cell? ⟨gb174, 1, none⟩ = some (.int .i64 a2_1) := (blk_cell BK174.out 1).trans rfl
                    have hfz46_0 := blk_frozen BK174.out 0
                    have hfz46_1 := blk_frozen BK174.out 1
                    have hcz47_0 : wc.cell? ⟨gb175, 0, none⟩ = some (.int .i64 a3_0) := (blk_cell BK175.out 0).trans rfl
                    have hcz47_1 : wc.cell? ⟨gb175, 1, none⟩ = some (.int .i64 a3_1) := (blk_cell BK175.out 1).trans rfl
                    have hfz47_0 := blk_frozen BK175.out 0
                    have hfz47_1 := blk_frozen BK175.out 1
                    go_wp2_with (first | (go_at_call 21; (with_reducible refine (length_Limit.calls t177 a2_0 a2_1 a3_0 a3_1 a4 t182 _ A42.out).mono ?_); rintro e w48 ⟨rfl, hb⟩; have n0_ := Aside0.mk (blk_below (g := gb174) (o := .cells #[.int .i64 a2_0, .int .i64 a2_1] 24 (0, 0)) (by (with_reducible repeat (first | refine blk_drewN ?_ _ | refine blk_drew ?_ | refine blk_alloc ?_ _)); exact BK174.out) hb); have n1_ := Aside0.mk (blk_below (g := gb175) (o := .cells #[.int .i64 a3_0, .int .i64 a3_1] 24 (0, 0)) (by (with_reducible repeat (first | refine blk_drewN ?_ _ | refine blk_drew ?_ | refine blk_alloc ?_ _)); exact BK175.out) hb); have n2_ := Aside0.mk (below_step (by repeat (first | (with_reducible first | exact HB.out | apply below_alloc | apply pw_below_drewN | apply below_drew1 | refine below_set ?_ GE174.out | refine below_set ?_ GE175.out) | exact HB.out)) hb); clear BK174; clear BK175; clear HB; have BK174 := n0_; have BK175 := n1_; have HB := n2_; clear n0_ n1_ n2_; (try clear hb); (try clear hb2); (try clear hk); (try clear hi)))
                    go_ret
                    exact ⟨by first | rfl | (simp [errW_none, errW_some] <;> rfl) | (simp [*, errW_none, errW_some] <;> rfl), by repeat (first | (with_reducible first | exact HB.out | apply below_alloc | apply pw_below_drewN | apply below_drew1 | refine below_set ?_ GE174.out | refine below_set ?_ GE175.out) | exact HB.out)⟩
                  · rw [if_neg c44] at H
                    have c44b0 : decide (a1 < a0) = false := decide_eq_false c44
                    clear c44
                    replace H := Option.bind_eq_some_iff.mp H
                    obtain ⟨t183, A490, H⟩ := H
                    replace H : (some (decide (t177 ≤ t183))) = some r := H
                    have A49 := Aside0.mk A490
                    clear A490
                    obtain rfl := Option.some.inj H
                    have hnb50 := NB174_175.out
                    have hnc50 := NB175_174.out
                    have hcz51_0 : wc.cell? ⟨gb174, 0, none⟩ = some (.int .i64 a2_0) := (blk_cell BK174.out 0).trans rfl
                    have hcz51_1 : wc.cell? ⟨gb174, 1, none⟩ = some (.int .i64 a2_1) := (blk_cell BK174.out 1).trans rfl
                    have hfz51_0 := blk_frozen BK174.out 0
                    have hfz51_1 := blk_frozen BK174.out 1
                    have hcz52_0 : wc.cell? ⟨gb175, 0, none⟩ = some (.int .i64 a3_0) := (blk_cell BK175.out 0).trans rfl
                    have hcz52_1 : wc.cell? ⟨gb175, 1, none⟩ = some (.int .i64 a3_1) := (blk_cell BK175.out 1).trans rfl
                    have hfz52_0 := blk_frozen BK175.out 0
                    have hfz52_1 := blk_frozen BK175.out 1
                    go_wp2_with (first | (go_at_call 21; (with_reducible refine (length_Limit.calls t177 a2_0 a2_1 a3_0 a3_1 a4 t182 _ A42.out).mono ?_); rintro e w53 ⟨rfl, hb⟩; have n0_ := Aside0.mk (blk_below (g := gb174) (o := .cells #[.int .i64 a2_0, .int .i64 a2_1] 24 (0, 0)) (by (with_reducible repeat (first | refine blk_drewN ?_ _ | refine blk_drew ?_ | refine blk_alloc ?_ _)); exact BK174.out) hb); have n1_ := Aside0.mk (blk_below (g := gb175) (o := .cells #[.int .i64 a3_0, .int .i64 a3_1] 24 (0, 0)) (by (with_reducible repeat (first | refine blk_drewN ?_ _ | refine blk_drew ?_ | refine blk_alloc ?_ _)); exact BK175.out) hb); have n2_ := Aside0.mk (below_step (by repeat (first | (with_reducible first | exact HB.out | apply below_alloc | apply pw_below_drewN | apply below_drew1 | refine below_set ?_ GE174.out | refine below_set ?_ GE175.out) | exact HB.out)) hb); clear BK174; clear BK175; clear HB; have BK174 := n0_; have BK175 := n1_; have HB := n2_; clear n0_ n1_ n2_; (try clear hb); (try clear hb2); (try clear hk); (try clear hi); have hcz54_0 : w53.cell? ⟨gb174, 0, none⟩ = some (.int .i64 a2_0) := (blk_cell BK174.out 0).trans rfl; have hcz54_1 : w53.cell? ⟨gb174, 1, none⟩ = some (.int .i64 a2_1) := (blk_cell BK174.out 1).trans rfl; have hfz54_0 := blk_frozen BK174.out 0; have hfz54_1 := blk_frozen BK174.out 1; have hcz55_0 : w53.cell? ⟨gb175, 0, none⟩ = some (.int .i64 a3_0) := (blk_cell BK175.out 0).trans rfl; have hcz55_1 : w53.cell? ⟨gb175, 1, none⟩ = some (.int .i64 a3_1) := (blk_cell BK175.out 1).trans rfl; have hfz55_0 := blk_frozen BK175.out 0; have hfz55_1 := blk_frozen BK175.out 1) | (go_at_call 21; (with_reducible refine (length_Limit.calls a1 a2_0 a2_1 a3_0 a3_1 a4 t183 _ A49.out).mono ?_); rintro e w56 ⟨rfl, hb⟩; have n0_ := Aside0.mk (blk_below (g := gb174) (o := .cells #[.int .i64 a2_0, .int .i64 a2_1] 24 (0, 0)) (by (with_reducible repeat (first | refine blk_drewN ?_ _ | refine blk_drew ?_ | refine blk_alloc ?_ _)); exact BK174.out) hb); have n1_ := Aside0.mk (blk_below (g := gb175) (o := .cells #[.int .i64 a3_0, .int .i64 a3_1] 24 (0, 0)) (by (with_reducible repeat (first | refine blk_drewN ?_ _ | refine blk_drew ?_ | refine blk_alloc ?_ _)); exact BK175.out) hb); have n2_ := Aside0.mk (below_step (by repeat (first | (with_reducible first | exact HB.out | apply below_alloc | apply pw_below_drewN | apply below_drew1 | refine below_set ?_ GE174.out | refine below_set ?_ GE175.out) | exact HB.out)) hb); clear BK174; clear BK175; clear HB; have BK174 := n0_; have BK175 := n1_; have HB := n2_; clear n0_ n1_ n2_; (try clear hb); (try clear hb2); (try clear hk); (try clear hi)))
                    go_ret
                    exact ⟨by first | rfl | (simp [errW_none, errW_some] <;> rfl) | (simp [*, errW_none, errW_some] <;> rfl), by repeat (first | (with_reducible first | exact HB.out | apply below_alloc | apply pw_below_drewN | apply below_drew1 | refine below_set ?_ GE174.out | refine below_set ?_ GE175.out) | exact HB.out)⟩
                · rw [if_neg c43] at H
                  exact absurd H (by simp)
              · exact absurd rfl c41
  · replace c7 := Bool.eq_false_iff.mpr c7
    subst c7
    have H1 : (none) = some r := by rw [if_neg (show ¬ (false = true) by decide)] at H; exact H
    clear H
    have H := H1
    clear H1
    exact absurd H (by simp)

/-- THE ONE PURE STATEMENT of valancelaw05_LengthWithin: yours. -/
def valancelaw05_LengthWithin.Pure : Prop := ∀ (a0 : Int) (a1 : Int) (a2_0 : Int) (a2_1 : Int) (a3_0 : Int) (a3_1 : Int) (a4 : Int), (Lit.int .i64 a0).wf = true → (Lit.int .i64 a1).wf = true → (Lit.int .i64 a2_0).wf = true → (Lit.int .i64 a2_1).wf = true → (Lit.int .i64 a3_0).wf = true → (Lit.int .i64 a3_1).wf = true → (Lit.int .i64 a4).wf = true → ∃ k, valancelaw05_LengthWithin.f k a0 a1 a2_0 a2_1 a3_0 a3_1 a4 = some true
theorem valancelaw05_LengthWithin.walk (P : valancelaw05_LengthWithin.Pure) (a0 : Int) (a1 : Int) (a2_0 : Int) (a2_1 : Int) (a3_0 : Int) (a3_1 : Int) (a4 : Int) (w : World) (w0 : (Lit.int .i64 a0).wf = true) (w1 : (Lit.int .i64 a1).wf = true) (w2_0 : (Lit.int .i64 a2_0).wf = true) (w2_1 : (Lit.int .i64 a2_1).wf = true) (w3_0 : (Lit.int .i64 a3_0).wf = true) (w3_1 : (Lit.int .i64 a3_1).wf = true) (w4 : (Lit.int .i64 a4).wf = true) :
    Calls Try.prog 5 #[.int .i64 a0, .int .i64 a1, .agg #[.int .i64 a2_0, .int .i64 a2_1], .agg #[.int .i64 a3_0, .int .i64 a3_1], .int .i64 a4] w fun e w' => e = .returned (.bool true) ∧ Below w.heap.size w w' := by
  obtain ⟨k, h⟩ := P a0 a1 a2_0 a2_1 a3_0 a3_1 a4 w0 w1 w2_0 w2_1 w3_0 w3_1 w4
  refine (valancelaw05_LengthWithin.calls k a0 a1 a2_0 a2_1 a3_0 a3_1 a4 true w h).mono ?_
  rintro e w' ⟨rfl, hd⟩
  exact ⟨rfl, hd⟩

end Go.Proofs.Ytnmcefpnpfaklaa.V
