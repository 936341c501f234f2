/- What the functions of this seat answer, as plain Lean functions, and that the calls come to just that (written by a program of this repo, over the kit's printer; Lean checks it). -/
import Derived.Test.YtnmcefpnpfaklabVx0
import Derived.Test.YtnmcefpnpfaklabVx3
import Derived.Test.YtnmcefpnpfaklabVx7
import Derived.Test.YtnmcefpnpfaklabVx17
namespace Go.Proofs.Ytnmcefpnpfaklab.V
open Go.RowKit Go.Proofs.YtnmcefpnpfaklabW.PrintWords Go.Proofs.YtnmcefpnpfaklabW.PrintLast Go.Proofs.YtnmcefpnpfaklabW.PrintMore
attribute [local go_sem] max2_int min2_int max_two min_two max_three min_three max_four min_four   -- for this text's walks alone
set_option linter.unusedVariables false
set_option linter.unusedSimpArgs false

/-! ### valancelaw10_StickWithin: function 5 -/
def valancelaw10_StickWithin.j0 : Nat → Bool → Bool → Int → Int → Int → Int → Int → Int → Bool → Int → Bool → Int → Option (Bool)
  | 0, _, _, _, _, _, _, _, _, _, _, _, _ => none
  | k + 1, x11, x49, x208000, x208001, x209000, x209001, x210000, x210001, x211000, x211001, x212000, x212001 => if x49 = true then (some x11) else ((stick_Shift.f k x208000 x208001 x209000 x209001 x210000 x210001 x211000 x211001 x212000 x212001).bind fun t216 => (if x208000 ≥ x209000 then (if x208001 ≤ x209001 then (if (wrap64 (x208000 + t216)) < x209000 then (none) else (if (wrap64 (x208001 + t216)) > x209001 then (none) else (if x11 = true then (if t216 ≤ 0 then (if t216 ≥ 0 then (some true) else (some x212000)) else (if x211000 = true then (if t216 ≥ 0 then (some true) else (some x212000)) else (none))) else (none)))) else (if x11 = true then (if t216 ≤ 0 then (if t216 ≥ 0 then (some true) else (some x212000)) else (if x211000 = true then (if t216 ≥ 0 then (some true) else (some x212000)) else (none))) else (none))) else (if x11 = true then (if t216 ≤ 0 then (if t216 ≥ 0 then (some true) else (some x212000)) else (if x211000 = true then (if t216 ≥ 0 then (some true) else (some x212000)) else (none))) else (none))))
def valancelaw10_StickWithin.f (k : Nat) (a0_0 : Int) (a0_1 : Int) (a1_0 : Int) (a1_1 : Int) (a2_0 : Int) (a2_1 : Int) (a3_0 : Bool) (a3_1 : Int) (a4_0 : Bool) (a4_1 : Int) : Option (Bool) := (valancelaw10_works.f).bind fun t212 => (if t212 = true then ((valancelaw10_small.f a0_0 a0_1).bind fun t213 => (if t213 = true then ((valancelaw10_small.f a1_0 a1_1).bind fun t214 => (if t214 = true then ((valancelaw10_small.f a2_0 a2_1).bind fun t215 => (if t215 = true then (if a3_1 < (-1073741824) then (valancelaw10_StickWithin.j0 k t212 true a0_0 a0_1 a1_0 a1_1 a2_0 a2_1 a3_0 a3_1 a4_0 a4_1) else (if a3_1 > 1073741824 then (valancelaw10_StickWithin.j0 k t212 true a0_0 a0_1 a1_0 a1_1 a2_0 a2_1 a3_0 a3_1 a4_0 a4_1) else (if a4_1 < (-1073741824) then (valancelaw10_StickWithin.j0 k t212 true a0_0 a0_1 a1_0 a1_1 a2_0 a2_1 a3_0 a3_1 a4_0 a4_1) else (valancelaw10_StickWithin.j0 k t212 (decide (a4_1 > 1073741824)) a0_0 a0_1 a1_0 a1_1 a2_0 a2_1 a3_0 a3_1 a4_0 a4_1)))) else (valancelaw10_StickWithin.j0 k t212 true a0_0 a0_1 a1_0 a1_1 a2_0 a2_1 a3_0 a3_1 a4_0 a4_1))) else (valancelaw10_StickWithin.j0 k t212 true a0_0 a0_1 a1_0 a1_1 a2_0 a2_1 a3_0 a3_1 a4_0 a4_1))) else (valancelaw10_StickWithin.j0 k t212 true a0_0 a0_1 a1_0 a1_1 a2_0 a2_1 a3_0 a3_1 a4_0 a4_1))) else (none))
theorem valancelaw10_StickWithin.mono_l : ∀ k, (∀ y0 y1 y2 y3 y4 y5 y6 y7 y8 y9 y10 y11, LeO (valancelaw10_StickWithin.j0 k y0 y1 y2 y3 y4 y5 y6 y7 y8 y9 y10 y11) (valancelaw10_StickWithin.j0 (k + 1) y0 y1 y2 y3 y4 y5 y6 y7 y8 y9 y10 y11))
  | 0 => fun _ _ _ _ _ _ _ _ _ _ _ _ r h => by simp [valancelaw10_StickWithin.j0] at h
  | k + 1 => by
    have ih0 := valancelaw10_StickWithin.mono_l k
    · intro y0 y1 y2 y3 y4 y5 y6 y7 y8 y9 y10 y11
      unfold valancelaw10_StickWithin.j0
      repeat' first
      | (with_reducible exact ih0 _ _ _ _ _ _ _ _ _ _ _ _)
      | (with_reducible exact stick_Shift.mono _ _ _ _ _ _ _ _ _ _ _)
      | (with_reducible exact LeO.refl _)
      | (with_reducible exact LeO.none _)
      | (with_reducible refine LeO.ite ?_ ?_)
      | (with_reducible refine LeO.bind ?_ (fun _ => ?_))
      | exact ih0 _ _ _ _ _ _ _ _ _ _ _ _
      | exact stick_Shift.mono _ _ _ _ _ _ _ _ _ _ _
      | exact LeO.none _
      | refine LeO.ite ?_ ?_
      | refine LeO.bind ?_ (fun _ => ?_)
theorem valancelaw10_StickWithin.mono : ∀ a0 a1 a2 a3 a4 a5 a6 a7 a8 a9 k, LeO (valancelaw10_StickWithin.f k a0 a1 a2 a3 a4 a5 a6 a7 a8 a9) (valancelaw10_StickWithin.f (k + 1) a0 a1 a2 a3 a4 a5 a6 a7 a8 a9) := by
  intro a0 a1 a2 a3 a4 a5 a6 a7 a8 a9 k
  have ih0 := valancelaw10_StickWithin.mono_l k
  unfold valancelaw10_StickWithin.f
  repeat' first
      | (with_reducible exact ih0 _ _ _ _ _ _ _ _ _ _ _ _)
      | (with_reducible exact stick_Shift.mono _ _ _ _ _ _ _ _ _ _ _)
      | (with_reducible exact LeO.refl _)
      | (with_reducible exact LeO.none _)
      | (with_reducible refine LeO.ite ?_ ?_)
      | (with_reducible refine LeO.bind ?_ (fun _ => ?_))
      | exact ih0 _ _ _ _ _ _ _ _ _ _ _ _
      | exact stick_Shift.mono _ _ _ _ _ _ _ _ _ _ _
      | exact LeO.none _
      | refine LeO.ite ?_ ?_
      | refine LeO.bind ?_ (fun _ => ?_)
set_option maxHeartbeats 8000000 in
set_option maxRecDepth 100000 in
theorem valancelaw10_StickWithin.calls (k : Nat) (a0_0 : Int) (a0_1 : Int) (a1_0 : Int) (a1_1 : Int) (a2_0 : Int) (a2_1 : Int) (a3_0 : Bool) (a3_1 : Int) (a4_0 : Bool) (a4_1 : Int) (r : Bool) (w : World) (h : valancelaw10_StickWithin.f k a0_0 a0_1 a1_0 a1_1 a2_0 a2_1 a3_0 a3_1 a4_0 a4_1 = some r) :
    Calls Try.prog 5 #[.agg #[.int .i64 a0_0, .int .i64 a0_1], .agg #[.int .i64 a1_0, .int .i64 a1_1], .agg #[.int .i64 a2_0, .int .i64 a2_1], .agg #[.bool a3_0, .int .i64 a3_1], .agg #[.bool a4_0, .int .i64 a4_1]] w fun e w' => e = .returned (.bool r) ∧ Below w.heap.size w w' := by
  have hu23 := Try.underlying23
  have hu25 := Try.underlying25
  have HB := Aside0.mk (Below.refl w.heap.size w)
  have H : ((valancelaw10_works.f).bind fun t212 => (if t212 = true then ((valancelaw10_small.f a0_0 a0_1).bind fun t213 => (if t213 = true then ((valancelaw10_small.f a1_0 a1_1).bind fun t214 => (if t214 = true then ((valancelaw10_small.f a2_0 a2_1).bind fun t215 => (if t215 = true then (if a3_1 < (-1073741824) then (valancelaw10_StickWithin.j0 k t212 true a0_0 a0_1 a1_0 a1_1 a2_0 a2_1 a3_0 a3_1 a4_0 a4_1) else (if a3_1 > 1073741824 then (valancelaw10_StickWithin.j0 k t212 true a0_0 a0_1 a1_0 a1_1 a2_0 a2_1 a3_0 a3_1 a4_0 a4_1) else (if a4_1 < (-1073741824) then (valancelaw10_StickWithin.j0 k t212 true a0_0 a0_1 a1_0 a1_1 a2_0 a2_1 a3_0 a3_1 a4_0 a4_1) else (valancelaw10_StickWithin.j0 k t212 (decide (a4_1 > 1073741824)) a0_0 a0_1 a1_0 a1_1 a2_0 a2_1 a3_0 a3_1 a4_0 a4_1)))) else (valancelaw10_StickWithin.j0 k t212 true a0_0 a0_1 a1_0 a1_1 a2_0 a2_1 a3_0 a3_1 a4_0 a4_1))) else (valancelaw10_StickWithin.j0 k t212 true a0_0 a0_1 a1_0 a1_1 a2_0 a2_1 a3_0 a3_1 a4_0 a4_1))) else (valancelaw10_StickWithin.j0 k t212 true a0_0 a0_1 a1_0 a1_1 a2_0 a2_1 a3_0 a3_1 a4_0 a4_1))) else (none))) = some r := h
  clear h
  replace H := Option.bind_eq_some_iff.mp H
  obtain ⟨t212, A60, H⟩ := H
  replace H : (if t212 = true then ((valancelaw10_small.f a0_0 a0_1).bind fun t213 => (if t213 = true then ((valancelaw10_small.f a1_0 a1_1).bind fun t214 => (if t214 = true then ((valancelaw10_small.f a2_0 a2_1).bind fun t215 => (if t215 = true then (if a3_1 < (-1073741824) then (valancelaw10_StickWithin.j0 k t212 true a0_0 a0_1 a1_0 a1_1 a2_0 a2_1 a3_0 a3_1 a4_0 a4_1) else (if a3_1 > 1073741824 then (valancelaw10_StickWithin.j0 k t212 true a0_0 a0_1 a1_0 a1_1 a2_0 a2_1 a3_0 a3_1 a4_0 a4_1) else (if a4_1 < (-1073741824) then (valancelaw10_StickWithin.j0 k t212 true a0_0 a0_1 a1_0 a1_1 a2_0 a2_1 a3_0 a3_1 a4_0 a4_1) else (valancelaw10_StickWithin.j0 k t212 (decide (a4_1 > 1073741824)) a0_0 a0_1 a1_0 a1_1 a2_0 a2_1 a3_0 a3_1 a4_0 a4_1)))) else (valancelaw10_StickWithin.j0 k t212 true a0_0 a0_1 a1_0 a1_1 a2_0 a2_1 a3_0 a3_1 a4_0 a4_1))) else (valancelaw10_StickWithin.j0 k t212 true a0_0 a0_1 a1_0 a1_1 a2_0 a2_1 a3_0 a3_1 a4_0 a4_1))) else (valancelaw10_StickWithin.j0 k t212 true a0_0 a0_1 a1_0 a1_1 a2_0 a2_1 a3_0 a3_1 a4_0 a4_1))) else (none)) = some r := H
  have A6 := Aside0.mk A60
  clear A60
  by_cases c7 : t212 = true
  · subst c7
    have H1 : ((valancelaw10_small.f a0_0 a0_1).bind fun t213 => (if t213 = true then ((valancelaw10_small.f a1_0 a1_1).bind fun t214 => (if t214 = true then ((valancelaw10_small.f a2_0 a2_1).bind fun t215 => (if t215 = true then (if a3_1 < (-1073741824) then (valancelaw10_StickWithin.j0 k true true a0_0 a0_1 a1_0 a1_1 a2_0 a2_1 a3_0 a3_1 a4_0 a4_1) else (if a3_1 > 1073741824 then (valancelaw10_StickWithin.j0 k true true a0_0 a0_1 a1_0 a1_1 a2_0 a2_1 a3_0 a3_1 a4_0 a4_1) else (if a4_1 < (-1073741824) then (valancelaw10_StickWithin.j0 k true true a0_0 a0_1 a1_0 a1_1 a2_0 a2_1 a3_0 a3_1 a4_0 a4_1) else (valancelaw10_StickWithin.j0 k true (decide (a4_1 > 1073741824)) a0_0 a0_1 a1_0 a1_1 a2_0 a2_1 a3_0 a3_1 a4_0 a4_1)))) else (valancelaw10_StickWithin.j0 k true true a0_0 a0_1 a1_0 a1_1 a2_0 a2_1 a3_0 a3_1 a4_0 a4_1))) else (valancelaw10_StickWithin.j0 k true true a0_0 a0_1 a1_0 a1_1 a2_0 a2_1 a3_0 a3_1 a4_0 a4_1))) else (valancelaw10_StickWithin.j0 k true true a0_0 a0_1 a1_0 a1_1 a2_0 a2_1 a3_0 a3_1 a4_0 a4_1))) = some r := by rw [if_pos rfl] at H; exact H
    clear H
    have H := H1
    clear H1
    have HC8 := Aside0.mk H
    clear H
    go_enter Try.func5, Try.ntmps5
    go_upto_region 4 with (first | ((with_reducible refine gate_dst (N := 5) rfl ?_); refine box_event ?hg (N := 5) ?hd (cs := #[.int .i64 a0_0, .int .i64 a0_1]) (t := 23) ?hr ?_; (case hd => rfl); (case hg => rfl); (case hr => first | (go_simp; done) | (go_simp; rfl)); intro gb207 hg w9 hbox hb; have n0_ := Aside0.mk (below_step (by repeat (first | (with_reducible first | exact HB.out | apply below_alloc | apply pw_below_drewN | apply below_drew1) | exact HB.out)) hb); have n1_ := Aside0.mk (hbox); have n2_ := Aside0.mk ((by rw [hg]; exact (below_size (by repeat (first | (with_reducible first | exact HB.out | apply below_alloc | apply pw_below_drewN | apply below_drew1) | exact HB.out))) : w.heap.size ≤ gb207)); have n3_ := Aside0.mk ((by rw [hg]; exact (below_size (by repeat (first | (with_reducible first | exact HB.out | apply below_alloc | apply pw_below_drewN | apply below_drew1) | exact HB.out))) : w.heap.size ≤ gb207)); clear HB; have HB := n0_; have BK207 := n1_; have GW207 := n2_; have GE207 := n3_; clear n0_ n1_ n2_ n3_; clear hb hbox hg) | ((with_reducible refine gate_dst (N := 6) rfl ?_); refine box_event ?hg (N := 6) ?hd (cs := #[.int .i64 a1_0, .int .i64 a1_1]) (t := 23) ?hr ?_; (case hd => rfl); (case hg => rfl); (case hr => first | (go_simp; done) | (go_simp; rfl)); intro gb208 hg w10 hbox hb; have n0_ := Aside0.mk (blk_below (g := gb207) (o := .cells #[.int .i64 a0_0, .int .i64 a0_1] 23 (0, 0)) (by (with_reducible repeat (first | refine blk_drewN ?_ _ | refine blk_drew ?_ | refine blk_alloc ?_ _)); exact BK207.out) hb); have n1_ := Aside0.mk (below_step (by repeat (first | (with_reducible first | exact HB.out | apply below_alloc | apply pw_below_drewN | apply below_drew1 | refine below_set ?_ GE207.out) | exact HB.out)) hb); have n2_ := Aside0.mk (hbox); have n3_ := Aside0.mk ((by rw [hg]; exact (below_size (by repeat (first | (with_reducible first | exact HB.out | apply below_alloc | apply pw_below_drewN | apply below_drew1 | refine below_set ?_ GE207.out) | exact HB.out))) : w.heap.size ≤ gb208)); have n4_ := Aside0.mk ((by rw [hg]; exact (below_size (by repeat (first | (with_reducible first | exact HB.out | apply below_alloc | apply pw_below_drewN | apply below_drew1 | refine below_set ?_ GE207.out) | exact HB.out))) : w.heap.size ≤ gb208)); have n5_ := Aside0.mk ((by rw [hg]; exact Nat.ne_of_lt (blk_lt (g := gb207) (o := .cells #[.int .i64 a0_0, .int .i64 a0_1] 23 (0, 0)) (by (with_reducible repeat (first | refine blk_drewN ?_ _ | refine blk_drew ?_ | refine blk_alloc ?_ _)); exact BK207.out)) : gb207 ≠ gb208)); have n6_ := Aside0.mk ((by rw [hg]; exact Nat.ne_of_gt (blk_lt (g := gb207) (o := .cells #[.int .i64 a0_0, .int .i64 a0_1] 23 (0, 0)) (by (with_reducible repeat (first | refine blk_drewN ?_ _ | refine blk_drew ?_ | refine blk_alloc ?_ _)); exact BK207.out)) : gb208 ≠ gb207)); clear BK207; clear HB; have BK207 := n0_; have HB := n1_; have BK208 := n2_; have GW208 := n3_; have GE208 := n4_; have NB207_208 := n5_; have NB208_207 := n6_; clear n0_ n1_ n2_ n3_ n4_ n5_ n6_; clear hb hbox hg) | ((with_reducible refine gate_dst (N := 7) rfl ?_); refine box_event ?hg (N := 7) ?hd (cs := #[.int .i64 a2_0, .int .i64 a2_1]) (t := 23) ?hr ?_; (case hd => rfl); (case hg => rfl); (case hr => first | (go_simp; done) | (go_simp; rfl)); intro gb209 hg w11 hbox hb; have n0_ := Aside0.mk (blk_below (g := gb207) (o := .cells #[.int .i64 a0_0, .int .i64 a0_1] 23 (0, 0)) (by (with_reducible repeat (first | refine blk_drewN ?_ _ | refine blk_drew ?_ | refine blk_alloc ?_ _)); exact BK207.out) hb); have n1_ := Aside0.mk (blk_below (g := gb208) (o := .cells #[.int .i64 a1_0, .int .i64 a1_1] 23 (0, 0)) (by (with_reducible repeat (first | refine blk_drewN ?_ _ | refine blk_drew ?_ | refine blk_alloc ?_ _)); exact BK208.out) hb); have n2_ := Aside0.mk (below_step (by repeat (first | (with_reducible first | exact HB.out | apply below_alloc | apply pw_below_drewN | apply below_drew1 | refine below_set ?_ GE207.out | refine below_set ?_ GE208.out) | exact HB.out)) hb); have n3_ := Aside0.mk (hbox); have n4_ := Aside0.mk ((by rw [hg]; exact (below_size (by repeat (first | (with_reducible first | exact HB.out | apply below_alloc | apply pw_below_drewN | apply below_drew1 | refine below_set ?_ GE207.out | refine below_set ?_ GE208.out) | exact HB.out))) : w.heap.size ≤ gb209)); have n5_ := Aside0.mk ((by rw [hg]; exact (below_size (by repeat (first | (with_reducible first | exact HB.out | apply below_alloc | apply pw_below_drewN | apply below_drew1 | refine below_set ?_ GE207.out | refine below_set ?_ GE208.out) | exact HB.out))) : w.heap.size ≤ gb209)); have n6_ := Aside0.mk ((by rw [hg]; exact Nat.ne_of_lt (blk_lt (g := gb207) (o := .cells #[.int .i64 a0_0, .int .i64 a0_1] 23 (0, 0)) (by (with_reducible repeat (first | refine blk_drewN ?_ _ | refine blk_drew ?_ | refine blk_alloc ?_ _)); exact BK207.out)) : gb207 ≠ gb209)); have n7_ := Aside0.mk ((by rw [hg]; exact Nat.ne_of_gt (blk_lt (g := gb207) (o := .cells #[.int .i64 a0_0, .int .i64 a0_1] 23 (0, 0)) (by (with_reducible repeat (first | refine blk_drewN ?_ _ | refine blk_drew ?_ | refine blk_alloc ?_ _)); exact BK207.out)) : gb209 ≠ gb207)); have n8_ := Aside0.mk ((by rw [hg]; exact Nat.ne_of_lt (blk_lt (g := gb208) (o := .cells #[.int .i64 a1_0, .int .i64 a1_1] 23 (0, 0)) (by (with_reducible repeat (first | refine blk_drewN ?_ _ | refine blk_drew ?_ | refine blk_alloc ?_ _)); exact BK208.out)) : gb208 ≠ gb209)); have n9_ := Aside0.mk ((by rw [hg]; exact Nat.ne_of_gt (blk_lt (g := gb208) (o := .cells #[.int .i64 a1_0, .int .i64 a1_1] 23 (0, 0)) (by (with_reducible repeat (first | refine blk_drewN ?_ _ | refine blk_drew ?_ | refine blk_alloc ?_ _)); exact BK208.out)) : gb209 ≠ gb208)); clear BK207; clear BK208; clear HB; have BK207 := n0_; have BK208 := n1_; have HB := n2_; have BK209 := n3_; have GW209 := n4_; have GE209 := n5_; have NB207_209 := n6_; have NB209_207 := n7_; have NB208_209 := n8_; have NB209_208 := n9_; clear n0_ n1_ n2_ n3_ n4_ n5_ n6_ n7_ n8_ n9_; clear hb hbox hg) | ((with_reducible refine gate_dst (N := 8) rfl ?_); refine box_event ?hg (N := 8) ?hd (cs := #[.bool a3_0, .int .i64 a3_1]) (t := 25) ?hr ?_; (case hd => rfl); (case hg => rfl); (case hr => first | (go_simp; done) | (go_simp; rfl)); intro gb210 hg w12 hbox hb; have n0_ := Aside0.mk (blk_below (g := gb207) (o := .cells #[.int .i64 a0_0, .int .i64 a0_1] 23 (0, 0)) (by (with_reducible repeat (first | refine blk_drewN ?_ _ | refine blk_drew ?_ | refine blk_alloc ?_ _)); exact BK207.out) hb); have n1_ := Aside0.mk (blk_below (g := gb208) (o := .cells #[.int .i64 a1_0, .int .i64 a1_1] 23 (0, 0)) (by (with_reducible repeat (first | refine blk_drewN ?_ _ | refine blk_drew ?_ | refine blk_alloc ?_ _)); exact BK208.out) hb); have n2_ := Aside0.mk (blk_below (g := gb209) (o := .cells #[.int .i64 a2_0, .int .i64 a2_1] 23 (0, 0)) (by (with_reducible repeat (first | refine blk_drewN ?_ _ | refine blk_drew ?_ | refine blk_alloc ?_ _)); exact BK209.out) hb); have n3_ := Aside0.mk (below_step (by repeat (first | (with_reducible first | exact HB.out | apply below_alloc | apply pw_below_drewN | apply below_drew1 | refine below_set ?_ GE207.out | refine below_set ?_ GE208.out | refine below_set ?_ GE209.out) | exact HB.out)) hb); have n4_ := Aside0.mk (hbox); have n5_ := Aside0.mk ((by rw [hg]; exact (below_size (by repeat (first | (with_reducible first | exact HB.out | apply below_alloc | apply pw_below_drewN | apply below_drew1 | refine below_set ?_ GE207.out | refine below_set ?_ GE208.out | refine below_set ?_ GE209.out) | exact HB.out))) : w.heap.size ≤ gb210)); have n6_ := Aside0.mk ((by rw [hg]; exact (below_size (by repeat (first | (with_reducible first | exact HB.out | apply below_alloc | apply pw_below_drewN | apply below_drew1 | refine below_set ?_ GE207.out | refine below_set ?_ GE208.out | refine below_set ?_ GE209.out) | exact HB.out))) : w.heap.size ≤ gb210)); have n7_ := Aside0.mk ((by rw [hg]; exact Nat.ne_of_lt (blk_lt (g := gb207) (o := .cells #[.int .i64 a0_0, .int .i64 a0_1] 23 (0, 0)) (by (with_reducible repeat (first | refine blk_drewN ?_ _ | refine blk_drew ?_ | refine blk_alloc ?_ _)); exact BK207.out)) : gb207 ≠ gb210)); have n8_ := Aside0.mk ((by rw [hg]; exact Nat.ne_of_gt (blk_lt (g := gb207) (o := .cells #[.int .i64 a0_0, .int .i64 a0_1] 23 (0, 0)) (by (with_reducible repeat (first | refine blk_drewN ?_ _ | refine blk_drew ?_ | refine blk_alloc ?_ _)); exact BK207.out)) : gb210 ≠ gb207)); have n9_ := Aside0.mk ((by rw [hg]; exact Nat.ne_of_lt (blk_lt (g := gb208) (o := .cells #[.int .i64 a1_0, .int .i64 a1_1] 23 (0, 0)) (by (with_reducible repeat (first | refine blk_drewN ?_ _ | refine blk_drew ?_ | refine blk_alloc ?_ _)); exact BK208.out)) : gb208 ≠ gb210)); have n10_ := Aside0.mk ((by rw [hg]; exact Nat.ne_of_gt (blk_lt (g := gb208) (o := .cells #[.int .i64 a1_0, .int .i64 a1_1] 23 (0, 0)) (by (with_reducible repeat (first | refine blk_drewN ?_ _ | refine blk_drew ?_ | refine blk_alloc ?_ _)); exact BK208.out)) : gb210 ≠ gb208)); have n11_ := Aside0.mk ((by rw [hg]; exact Nat.ne_of_lt (blk_lt (g := gb209) (o := .cells #[.int .i64 a2_0, .int .i64 a2_1] 23 (0, 0)) (by (with_reducible repeat (first | refine blk_drewN ?_ _ | refine blk_drew ?_ | refine blk_alloc ?_ _)); exact BK209.out)) : gb209 ≠ gb210)); have n12_ := Aside0.mk ((by rw [hg]; exact Nat.ne_of_gt (blk_lt (g := gb209) (o := .cells #[.int .i64 a2_0, .int .i64 a2_1] 23 (0, 0)) (by (with_reducible repeat (first | refine blk_drewN ?_ _ | refine blk_drew ?_ | refine blk_alloc ?_ _)); exact BK209.out)) : gb210 ≠ gb209)); clear BK207; clear BK208; clear BK209; clear HB; have BK207 := n0_; have BK208 := n1_; have BK209 := n2_; have HB := n3_; have BK210 := n4_; have GW210 := n5_; have GE210 := n6_; have NB207_210 := n7_; have NB210_207 := n8_; have NB208_210 := n9_; have NB210_208 := n10_; have NB209_210 := n11_; have NB210_209 := n12_; clear n0_ n1_ n2_ n3_ n4_ n5_ n6_ n7_ n8_ n9_ n10_ n11_ n12_; clear hb hbox hg) | ((with_reducible refine gate_dst (N := 9) rfl ?_); refine box_event ?hg (N := 9) ?hd (cs := #[.bool a4_0, .int .i64 a4_1]) (t := 25) ?hr ?_; (case hd => rfl); (case hg => rfl); (case hr => first | (go_simp; done) | (go_simp; rfl)); intro gb211 hg w13 hbox hb; have n0_ := Aside0.mk (blk_below (g := gb207) (o := .cells #[.int .i64 a0_0, .int .i64 a0_1] 23 (0, 0)) (by (with_reducible repeat (first | refine blk_drewN ?_ _ | refine blk_drew ?_ | refine blk_alloc ?_ _)); exact BK207.out) hb); have n1_ := Aside0.mk (blk_below (g := gb208) (o := .cells #[.int .i64 a1_0, .int .i64 a1_1] 23 (0, 0)) (by (with_reducible repeat (first | refine blk_drewN ?_ _ | refine blk_drew ?_ | refine blk_alloc ?_ _)); exact BK208.out) hb); have n2_ := Aside0.mk (blk_below (g := gb209) (o := .cells #[.int .i64 a2_0, .int .i64 a2_1] 23 (0, 0)) (by (with_reducible repeat (first | refine blk_drewN ?_ _ | refine blk_drew ?_ | refine blk_alloc ?_ _)); exact BK209.out) hb); have n3_ := Aside0.mk (blk_below (g := gb210) (o := .cells #[.bool a3_0, .int .i64 a3_1] 25 (0, 0)) (by (with_reducible repeat (first | refine blk_drewN ?_ _ | refine blk_drew ?_ | refine blk_alloc ?_ _)); exact BK210.out) hb); have n4_ := Aside0.mk (below_step (by repeat (first | (with_reducible first | exact HB.out | apply below_alloc | apply pw_below_drewN | apply below_drew1 | refine below_set ?_ GE207.out | refine below_set ?_ GE208.out | refine below_set ?_ GE209.out | refine below_set ?_ GE210.out) | exact HB.out)) hb); have n5_ := Aside0.mk (hbox); have n6_ := Aside0.mk ((by rw [hg]; exact (below_size (by repeat (first | (with_reducible first | exact HB.out | apply below_alloc | apply pw_below_drewN | apply below_drew1 | refine below_set ?_ GE207.out | refine below_set ?_ GE208.out | refine below_set ?_ GE209.out | refine below_set ?_ GE210.out) | exact HB.out))) : w.heap.size ≤ gb211)); have n7_ := Aside0.mk ((by rw [hg]; exact (below_size (by repeat (first | (with_reducible first | exact HB.out | apply below_alloc | apply pw_below_drewN | apply below_drew1 | refine below_set ?_ GE207.out | refine below_set ?_ GE208.out | refine below_set ?_ GE209.out | refine below_set ?_ GE210.out) | exact HB.out))) : w.heap.size ≤ gb211)); have n8_ := Aside0.mk ((by rw [hg]; exact Nat.ne_of_lt (blk_lt (g := gb207) (o := .cells #[.int .i64 a0_0, .int .i64 a0_1] 23 (0, 0)) (by (with_reducible repeat (first | refine blk_drewN ?_ _ | refine blk_drew ?_ | refine blk_alloc ?_ _)); exact BK207.out)) : gb207 ≠ gb211)); have n9_ := Aside0.mk ((by rw [hg]; exact Nat.ne_of_gt (blk_lt (g := gb207) (o := .cells #[.int .i64 a0_0, .int .i64 a0_1] 23 (0, 0)) (by (with_reducible repeat (first | refine blk_drewN ?_ _ | refine blk_drew ?_ | refine blk_alloc ?_ _)); exact BK207.out)) : gb211 ≠ gb207)); have n10_ := Aside0.mk ((by rw [hg]; exact Nat.ne_of_lt (blk_lt (g := gb208) (o := .cells #[.int .i64 a1_0, .int .i64 a1_1] 23 (0, 0)) (by (with_reducible repeat (first | refine blk_drewN ?_ _ | refine blk_drew ?_ | refine blk_alloc ?_ _)); exact BK208.out)) : gb208 ≠ gb211)); have n11_ := Aside0.mk ((by rw [hg]; exact Nat.ne_of_gt (blk_lt (g := gb208) (o := .cells #[.int .i64 a1_0, .int .i64 a1_1] 23 (0, 0)) (by (with_reducible repeat (first | refine blk_drewN ?_ _ | refine blk_drew ?_ | refine blk_alloc ?_ _)); exact BK208.out)) : gb211 ≠ gb208)); have n12_ := Aside0.mk ((by rw [hg]; exact Nat.ne_of_lt (blk_lt (g := gb209) (o := .cells #[.int .i64 a2_0, .int .i64 a2_1] 23 (0, 0)) (by (with_reducible repeat (first | refine blk_drewN ?_ _ | refine blk_drew ?_ | refine blk_alloc ?_ _)); exact BK209.out)) : gb209 ≠ gb211)); have n13_ := Aside0.mk ((by rw [hg]; exact Nat.ne_of_gt (blk_lt (g := gb209) (o := .cells #[.int .i64 a2_0, .int .i64 a2_1] 23 (0, 0)) (by (with_reducible repeat (first | refine blk_drewN ?_ _ | refine blk_drew ?_ | refine blk_alloc ?_ _)); exact BK209.out)) : gb211 ≠ gb209)); have n14_ := Aside0.mk ((by rw [hg]; exact Nat.ne_of_lt (blk_lt (g := gb210) (o := .cells #[.bool a3_0, .int .i64 a3_1] 25 (0, 0)) (by (with_reducible repeat (first | refine blk_drewN ?_ _ | refine blk_drew ?_ | refine blk_alloc ?_ _)); exact BK210.out)) : gb210 ≠ gb211)); have n15_ := Aside0.mk ((by rw [hg]; exact Nat.ne_of_gt (blk_lt (g := gb210) (o := .cells #[.bool a3_0, .int .i64 a3_1] 25 (0, 0)) (by (with_reducible repeat (first | refine blk_drewN ?_ _ | refine blk_drew ?_ | refine blk_alloc ?_ _)); exact BK210.out)) : gb211 ≠ gb210)); clear BK207; clear BK208; clear BK209; clear BK210; clear HB; have BK207 := n0_; have BK208 := n1_; have BK209 := n2_; have BK210 := n3_; have HB := n4_; have BK211 := n5_; have GW211 := n6_; have GE211 := n7_; have NB207_211 := n8_; have NB211_207 := n9_; have NB208_211 := n10_; have NB211_208 := n11_; have NB209_211 := n12_; have NB211_209 := n13_; have NB210_211 := n14_; have NB211_210 := n15_; clear n0_ n1_ n2_ n3_ n4_ n5_ n6_ n7_ n8_ n9_ n10_ n11_ n12_ n13_ n14_ n15_; clear hb hbox hg) | ((with_reducible refine gate_callee (f := 15) rfl ?_); refine goesL_ (some 14) rfl rfl Try.func15 (by kernel_rfl) rfl #[] rfl (by (try simp only [List.map_toArray, List.map_cons, List.map_nil]); first | done | rfl | (simp only [List.length_drop, List.length_take]; rfl)) ?_; (with_reducible refine (valancelaw10_works.calls  true _ A6.out).mono ?_); rintro e w14 ⟨rfl, hb⟩; refine ⟨_, rfl, ?_⟩; have n0_ := Aside0.mk (blk_below (g := gb207) (o := .cells #[.int .i64 a0_0, .int .i64 a0_1] 23 (0, 0)) (by (with_reducible repeat (first | refine blk_drewN ?_ _ | refine blk_drew ?_ | refine blk_alloc ?_ _)); exact BK207.out) hb); have n1_ := Aside0.mk (blk_below (g := gb208) (o := .cells #[.int .i64 a1_0, .int .i64 a1_1] 23 (0, 0)) (by (with_reducible repeat (first | refine blk_drewN ?_ _ | refine blk_drew ?_ | refine blk_alloc ?_ _)); exact BK208.out) hb); have n2_ := Aside0.mk (blk_below (g := gb209) (o := .cells #[.int .i64 a2_0, .int .i64 a2_1] 23 (0, 0)) (by (with_reducible repeat (first | refine blk_drewN ?_ _ | refine blk_drew ?_ | refine blk_alloc ?_ _)); exact BK209.out) hb); have n3_ := Aside0.mk (blk_below (g := gb210) (o := .cells #[.bool a3_0, .int .i64 a3_1] 25 (0, 0)) (by (with_reducible repeat (first | refine blk_drewN ?_ _ | refine blk_drew ?_ | refine blk_alloc ?_ _)); exact BK210.out) hb); have n4_ := Aside0.mk (blk_below (g := gb211) (o := .cells #[.bool a4_0, .int .i64 a4_1] 25 (0, 0)) (by (with_reducible repeat (first | refine blk_drewN ?_ _ | refine blk_drew ?_ | refine blk_alloc ?_ _)); exact BK211.out) hb); have n5_ := Aside0.mk (below_step (by repeat (first | (with_reducible first | exact HB.out | apply below_alloc | apply pw_below_drewN | apply below_drew1 | refine below_set ?_ GE207.out | refine below_set ?_ GE208.out | refine below_set ?_ GE209.out | refine below_set ?_ GE210.out | refine below_set ?_ GE211.out) | exact HB.out)) hb); clear BK207; clear BK208; clear BK209; clear BK210; clear BK211; clear HB; have BK207 := n0_; have BK208 := n1_; have BK209 := n2_; have BK210 := n3_; have BK211 := n4_; have HB := n5_; clear n0_ n1_ n2_ n3_ n4_ n5_; (try clear hb); (try clear hb2); (try clear hk); (try clear hi)))
    (try simp only [Act.put, List.setIfInBounds_toArray, List.set_cons_zero, List.set_cons_succ])
    go_cut [49] (fun v49 wc => ∃ (kq : Nat) (x49_7 : Bool), v49 = .bool x49_7 ∧ Aside0 (valancelaw10_StickWithin.j0 kq true x49_7 a0_0 a0_1 a1_0 a1_1 a2_0 a2_1 a3_0 a3_1 a4_0 a4_1 = some r) ∧ Aside0 (kq ≤ k) ∧ Aside0 (wc.heap[gb207]? = some (.cells #[.int .i64 a0_0, .int .i64 a0_1] 23 (0, 0))) ∧ Aside0 (wc.heap[gb208]? = some (.cells #[.int .i64 a1_0, .int .i64 a1_1] 23 (0, 0))) ∧ Aside0 (wc.heap[gb209]? = some (.cells #[.int .i64 a2_0, .int .i64 a2_1] 23 (0, 0))) ∧ Aside0 (wc.heap[gb210]? = some (.cells #[.bool a3_0, .int .i64 a3_1] 25 (0, 0))) ∧ Aside0 (wc.heap[gb211]? = some (.cells #[.bool a4_0, .int .i64 a4_1] 25 (0, 0))) ∧ Aside0 (Below w.heap.size w wc))
    case first =>
      have H := HC8.out
      clear HC8
      replace H := Option.bind_eq_some_iff.mp H
      obtain ⟨t213, A150, H⟩ := H
      replace H : (if t213 = true then ((valancelaw10_small.f a1_0 a1_1).bind fun t214 => (if t214 = true then ((valancelaw10_small.f a2_0 a2_1).bind fun t215 => (if t215 = true then (if a3_1 < (-1073741824) then (valancelaw10_StickWithin.j0 k true true a0_0 a0_1 a1_0 a1_1 a2_0 a2_1 a3_0 a3_1 a4_0 a4_1) else (if a3_1 > 1073741824 then (valancelaw10_StickWithin.j0 k true true a0_0 a0_1 a1_0 a1_1 a2_0 a2_1 a3_0 a3_1 a4_0 a4_1) else (if a4_1 < (-1073741824) then (valancelaw10_StickWithin.j0 k true true a0_0 a0_1 a1_0 a1_1 a2_0 a2_1 a3_0 a3_1 a4_0 a4_1) else (valancelaw10_StickWithin.j0 k true (decide (a4_1 > 1073741824)) a0_0 a0_1 a1_0 a1_1 a2_0 a2_1 a3_0 a3_1 a4_0 a4_1)))) else (valancelaw10_StickWithin.j0 k true true a0_0 a0_1 a1_0 a1_1 a2_0 a2_1 a3_0 a3_1 a4_0 a4_1))) else (valancelaw10_StickWithin.j0 k true true a0_0 a0_1 a1_0 a1_1 a2_0 a2_1 a3_0 a3_1 a4_0 a4_1))) else (valancelaw10_StickWithin.j0 k true true a0_0 a0_1 a1_0 a1_1 a2_0 a2_1 a3_0 a3_1 a4_0 a4_1)) = some r := H
      have A15 := Aside0.mk A150
      clear A150
      by_cases c16 : t213 = true
      · subst c16
        have H1 : ((valancelaw10_small.f a1_0 a1_1).bind fun t214 => (if t214 = true then ((valancelaw10_small.f a2_0 a2_1).bind fun t215 => (if t215 = true then (if a3_1 < (-1073741824) then (valancelaw10_StickWithin.j0 k true true a0_0 a0_1 a1_0 a1_1 a2_0 a2_1 a3_0 a3_1 a4_0 a4_1) else (if a3_1 > 1073741824 then (valancelaw10_StickWithin.j0 k true true a0_0 a0_1 a1_0 a1_1 a2_0 a2_1 a3_0 a3_1 a4_0 a4_1) else (if a4_1 < (-1073741824) then (valancelaw10_StickWithin.j0 k true true a0_0 a0_1 a1_0 a1_1 a2_0 a2_1 a3_0 a3_1 a4_0 a4_1) else (valancelaw10_StickWithin.j0 k true (decide (a4_1 > 1073741824)) a0_0 a0_1 a1_0 a1_1 a2_0 a2_1 a3_0 a3_1 a4_0 a4_1)))) else (valancelaw10_StickWithin.j0 k true true a0_0 a0_1 a1_0 a1_1 a2_0 a2_1 a3_0 a3_1 a4_0 a4_1))) else (valancelaw10_StickWithin.j0 k true true a0_0 a0_1 a1_0 a1_1 a2_0 a2_1 a3_0 a3_1 a4_0 a4_1))) = some r := by rw [if_pos rfl] at H; exact H
        clear H
        have H := H1
        clear H1
        replace H := Option.bind_eq_some_iff.mp H
        obtain ⟨t214, A170, H⟩ := H
        replace H : (if t214 = true then ((valancelaw10_small.f a2_0 a2_1).bind fun t215 => (if t215 = true then (if a3_1 < (-1073741824) then (valancelaw10_StickWithin.j0 k true true a0_0 a0_1 a1_0 a1_1 a2_0 a2_1 a3_0 a3_1 a4_0 a4_1) else (if a3_1 > 1073741824 then (valancelaw10_StickWithin.j0 k true true a0_0 a0_1 a1_0 a1_1 a2_0 a2_1 a3_0 a3_1 a4_0 a4_1) else (if a4_1 < (-1073741824) then (valancelaw10_StickWithin.j0 k true true a0_0 a0_1 a1_0 a1_1 a2_0 a2_1 a3_0 a3_1 a4_0 a4_1) else (valancelaw10_StickWithin.j0 k true (decide (a4_1 > 1073741824)) a0_0 a0_1 a1_0 a1_1 a2_0 a2_1 a3_0 a3_1 a4_0 a4_1)))) else (valancelaw10_StickWithin.j0 k true true a0_0 a0_1 a1_0 a1_1 a2_0 a2_1 a3_0 a3_1 a4_0 a4_1))) else (valancelaw10_StickWithin.j0 k true true a0_0 a0_1 a1_0 a1_1 a2_0 a2_1 a3_0 a3_1 a4_0 a4_1)) = some r := H
        have A17 := Aside0.mk A170
        clear A170
        by_cases c18 : t214 = true
        · subst c18
          have H1 : ((valancelaw10_small.f a2_0 a2_1).bind fun t215 => (if t215 = true then (if a3_1 < (-1073741824) then (valancelaw10_StickWithin.j0 k true true a0_0 a0_1 a1_0 a1_1 a2_0 a2_1 a3_0 a3_1 a4_0 a4_1) else (if a3_1 > 1073741824 then (valancelaw10_StickWithin.j0 k true true a0_0 a0_1 a1_0 a1_1 a2_0 a2_1 a3_0 a3_1 a4_0 a4_1) else (if a4_1 < (-1073741824) then (valancelaw10_StickWithin.j0 k true true a0_0 a0_1 a1_0 a1_1 a2_0 a2_1 a3_0 a3_1 a4_0 a4_1) else (valancelaw10_StickWithin.j0 k true (decide (a4_1 > 1073741824)) a0_0 a0_1 a1_0 a1_1 a2_0 a2_1 a3_0 a3_1 a4_0 a4_1)))) else (valancelaw10_StickWithin.j0 k true true a0_0 a0_1 a1_0 a1_1 a2_0 a2_1 a3_0 a3_1 a4_0 a4_1))) = some r := by rw [if_pos rfl] at H; exact H
          clear H
          have H := H1
          clear H1
          replace H := Option.bind_eq_some_iff.mp H
          obtain ⟨t215, A190, H⟩ := H
          replace H : (if t215 = true then (if a3_1 < (-1073741824) then (valancelaw10_StickWithin.j0 k true true a0_0 a0_1 a1_0 a1_1 a2_0 a2_1 a3_0 a3_1 a4_0 a4_1) else (if a3_1 > 1073741824 then (valancelaw10_StickWithin.j0 k true true a0_0 a0_1 a1_0 a1_1 a2_0 a2_1 a3_0 a3_1 a4_0 a4_1) else (if a4_1 < (-1073741824) then (valancelaw10_StickWithin.j0 k true true a0_0 a0_1 a1_0 a1_1 a2_0 a2_1 a3_0 a3_1 a4_0 a4_1) else (valancelaw10_StickWithin.j0 k true (decide (a4_1 > 1073741824)) a0_0 a0_1 a1_0 a1_1 a2_0 a2_1 a3_0 a3_1 a4_0 a4_1)))) else (valancelaw10_StickWithin.j0 k true true a0_0 a0_1 a1_0 a1_1 a2_0 a2_1 a3_0 a3_1 a4_0 a4_1)) = some r := H
          have A19 := Aside0.mk A190
          clear A190
          by_cases c20 : t215 = true
          · subst c20
            have H1 : (if a3_1 < (-1073741824) then (valancelaw10_StickWithin.j0 k true true a0_0 a0_1 a1_0 a1_1 a2_0 a2_1 a3_0 a3_1 a4_0 a4_1) else (if a3_1 > 1073741824 then (valancelaw10_StickWithin.j0 k true true a0_0 a0_1 a1_0 a1_1 a2_0 a2_1 a3_0 a3_1 a4_0 a4_1) else (if a4_1 < (-1073741824) then (valancelaw10_StickWithin.j0 k true true a0_0 a0_1 a1_0 a1_1 a2_0 a2_1 a3_0 a3_1 a4_0 a4_1) else (valancelaw10_StickWithin.j0 k true (decide (a4_1 > 1073741824)) a0_0 a0_1 a1_0 a1_1 a2_0 a2_1 a3_0 a3_1 a4_0 a4_1)))) = some r := by rw [if_pos rfl] at H; exact H
            clear H
            have H := H1
            clear H1
            by_cases c21 : a3_1 < (-1073741824)
            · rw [if_pos c21] at H
              have c21b0 : decide (a3_1 < (-1073741824)) = true := decide_eq_true c21
              clear c21
              (first | rw [c21b0] | (simp only [i64_w, i32_w]; rw [c21b0]) | skip)
              have H' := Aside0.mk H
              clear H
              have hnb22 := NB207_208.out
              have hnc22 := NB208_207.out
              have hnb23 := NB207_209.out
              have hnc23 := NB209_207.out
              have hnb24 := NB207_210.out
              have hnc24 := NB210_207.out
              have hnb25 := NB207_211.out
              have hnc25 := NB211_207.out
              have hcz26_0 : w14.cell? ⟨gb207, 0, none⟩ = some (.int .i64 a0_0) := (blk_cell BK207.out 0).trans rfl
              have hcz26_1 : w14.cell? ⟨gb207, 1, none⟩ = some (.int .i64 a0_1) := (blk_cell BK207.out 1).trans rfl
              have hfz26_0 := blk_frozen BK207.out 0
              have hfz26_1 := blk_frozen BK207.out 1
              go_wp2_with (first | ((with_reducible refine gate_callee (f := 23) rfl ?_); refine goesL_ (some 18) rfl rfl Try.func23 (by kernel_rfl) rfl #[.agg #[.int .i64 a0_0, .int .i64 a0_1]] rfl (by (try simp only [List.map_toArray, List.map_cons, List.map_nil]); first | done | rfl | (simp only [List.length_drop, List.length_take]; rfl)) ?_; (with_reducible refine (valancelaw10_small.calls a0_0 a0_1 true _ A15.out).mono ?_); rintro e w27 ⟨rfl, hb⟩; refine ⟨_, rfl, ?_⟩; have n0_ := Aside0.mk (blk_below (g := gb207) (o := .cells #[.int .i64 a0_0, .int .i64 a0_1] 23 (0, 0)) (by (with_reducible repeat (first | refine blk_drewN ?_ _ | refine blk_drew ?_ | refine blk_alloc ?_ _)); exact BK207.out) hb); have n1_ := Aside0.mk (blk_below (g := gb208) (o := .cells #[.int .i64 a1_0, .int .i64 a1_1] 23 (0, 0)) (by (with_reducible repeat (first | refine blk_drewN ?_ _ | refine blk_drew ?_ | refine blk_alloc ?_ _)); exact BK208.out) hb); have n2_ := Aside0.mk (blk_below (g := gb209) (o := .cells #[.int .i64 a2_0, .int .i64 a2_1] 23 (0, 0)) (by (with_reducible repeat (first | refine blk_drewN ?_ _ | refine blk_drew ?_ | refine blk_alloc ?_ _)); exact BK209.out) hb); have n3_ := Aside0.mk (blk_below (g := gb210) (o := .cells #[.bool a3_0, .int .i64 a3_1] 25 (0, 0)) (by (with_reducible repeat (first | refine blk_drewN ?_ _ | refine blk_drew ?_ | refine blk_alloc ?_ _)); exact BK210.out) hb); have n4_ := Aside0.mk (blk_below (g := gb211) (o := .cells #[.bool a4_0, .int .i64 a4_1] 25 (0, 0)) (by (with_reducible repeat (first | refine blk_drewN ?_ _ | refine blk_drew ?_ | refine blk_alloc ?_ _)); exact BK211.out) hb); have n5_ := Aside0.mk (below_step (by repeat (first | (with_reducible first | exact HB.out | apply below_alloc | apply pw_below_drewN | apply below_drew1 | refine below_set ?_ GE207.out | refine below_set ?_ GE208.out | refine below_set ?_ GE209.out | refine below_set ?_ GE210.out | refine below_set ?_ GE211.out) | exact HB.out)) hb); clear BK207; clear BK208; clear BK209; clear BK210; clear BK211; clear HB; have BK207 := n0_; have BK208 := n1_; have BK209 := n2_; have BK210 := n3_; have BK211 := n4_; have HB := n5_; clear n0_ n1_ n2_ n3_ n4_ n5_; (try clear hb); (try clear hb2); (try clear hk); (try clear hi); have hnb28 := NB208_209.out; have hnc28 := NB209_208.out; have hnb29 := NB208_210.out; have hnc29 := NB210_208.out; have hnb30 := NB208_211.out; have hnc30 := NB211_208.out; have hcz31_0 : w27.cell? ⟨gb208, 0, none⟩ = some (.int .i64 a1_0) := (blk_cell BK208.out 0).trans rfl; have hcz31_1 : w27.cell? ⟨gb208, 1, none⟩ = some (.int .i64 a1_1) := (blk_cell BK208.out 1).trans rfl; have hfz31_0 := blk_frozen BK208.out 0; have hfz31_1 := blk_frozen BK208.out 1) | (go_at_call 23; (with_reducible refine (valancelaw10_small.calls a1_0 a1_1 true _ A17.out).mono ?_); rintro e w32 ⟨rfl, hb⟩; have n0_ := Aside0.mk (blk_below (g := gb207) (o := .cells #[.int .i64 a0_0, .int .i64 a0_1] 23 (0, 0)) (by (with_reducible repeat (first | refine blk_drewN ?_ _ | refine blk_drew ?_ | refine blk_alloc ?_ _)); exact BK207.out) hb); have n1_ := Aside0.mk (blk_below (g := gb208) (o := .cells #[.int .i64 a1_0, .int .i64 a1_1] 23 (0, 0)) (by (with_reducible repeat (first | refine blk_drewN ?_ _ | refine blk_drew ?_ | refine blk_alloc ?_ _)); exact BK208.out) hb); have n2_ := Aside0.mk (blk_below (g := gb209) (o := .cells #[.int .i64 a2_0, .int .i64 a2_1] 23 (0, 0)) (by (with_reducible repeat (first | refine blk_drewN ?_ _ | refine blk_drew ?_ | refine blk_alloc ?_ _)); exact BK209.out) hb); have n3_ := Aside0.mk (blk_below (g := gb210) (o := .cells #[.bool a3_0, .int .i64 a3_1] 25 (0, 0)) (by (with_reducible repeat (first | refine blk_drewN ?_ _ | refine blk_drew ?_ | refine blk_alloc ?_ _)); exact BK210.out) hb); have n4_ := Aside0.mk (blk_below (g := gb211) (o := .cells #[.bool a4_0, .int .i64 a4_1] 25 (0, 0)) (by (with_reducible repeat (first | refine blk_drewN ?_ _ | refine blk_drew ?_ | refine blk_alloc ?_ _)); exact BK211.out) hb); have n5_ := Aside0.mk (below_step (by repeat (first | (with_reducible first | exact HB.out | apply below_alloc | apply pw_below_drewN | apply below_drew1 | refine below_set ?_ GE207.out | refine below_set ?_ GE208.out | refine below_set ?_ GE209.out | refine below_set ?_ GE210.out | refine below_set ?_ GE211.out) | exact HB.out)) hb); clear BK207; clear BK208; clear BK209; clear BK210; clear BK211; clear HB; have BK207 := n0_; have BK208 := n1_; have BK209 := n2_; have BK210 := n3_; have BK211 := n4_; have HB := n5_; clear n0_ n1_ n2_ n3_ n4_ n5_; (try clear hb); (try clear hb2); (try clear hk); (try clear hi); have hnb33 := NB209_210.out; have hnc33 := NB210_209.out; have hnb34 := NB209_211.out; have hnc34 := NB211_209.out; have hcz35_0 : w32.cell? ⟨gb209, 0, none⟩ = some (.int .i64 a2_0) := (blk_cell BK209.out 0).trans rfl; have hcz35_1 : w32.cell? ⟨gb209, 1, none⟩ = some (.int .i64 a2_1) := (blk_cell BK209.out 1).trans rfl; have hfz35_0 := blk_frozen BK209.out 0; have hfz35_1 := blk_frozen BK209.out 1) | (go_at_call 23; (with_reducible refine (valancelaw10_small.calls a2_0 a2_1 true _ A19.out).mono ?_); rintro e w36 ⟨rfl, hb⟩; have n0_ := Aside0.mk (blk_below (g := gb207) (o := .cells #[.int .i64 a0_0, .int .i64 a0_1] 23 (0, 0)) (by (with_reducible repeat (first | refine blk_drewN ?_ _ | refine blk_drew ?_ | refine blk_alloc ?_ _)); exact BK207.out) hb); have n1_ := Aside0.mk (blk_below (g := gb208) (o := .cells #[.int .i64 a1_0, .int .i64 a1_1] 23 (0, 0)) (by (with_reducible repeat (first | refine blk_drewN ?_ _ | refine blk_drew ?_ | refine blk_alloc ?_ _)); exact BK208.out) hb); have n2_ := Aside0.mk (blk_below (g := gb209) (o := .cells #[.int .i64 a2_0, .int .i64 a2_1] 23 (0, 0)) (by (with_reducible repeat (first | refine blk_drewN ?_ _ | refine blk_drew ?_ | refine blk_alloc ?_ _)); exact BK209.out) hb); have n3_ := Aside0.mk (blk_below (g := gb210) (o := .cells #[.bool a3_0, .int .i64 a3_1] 25 (0, 0)) (by (with_reducible repeat (first | refine blk_drewN ?_ _ | refine blk_drew ?_ | refine blk_alloc ?_ _)); exact BK210.out) hb); have n4_ := Aside0.mk (blk_below (g := gb211) (o := .cells #[.bool a4_0, .int .i64 a4_1] 25 (0, 0)) (by (with_reducible repeat (first | refine blk_drewN ?_ _ | refine blk_drew ?_ | refine blk_alloc ?_ _)); exact BK211.out) hb); have n5_ := Aside0.mk (below_step (by repeat (first | (with_reducible first | exact HB.out | apply below_alloc | apply pw_below_drewN | apply below_drew1 | refine below_set ?_ GE207.out | refine below_set ?_ GE208.out | refine below_set ?_ GE209.out | refine below_set ?_ GE210.out | refine below_set ?_ GE211.out) | exact HB.out)) hb); clear BK207; clear BK208; clear BK209; clear BK210; clear BK211; clear HB; have BK207 := n0_; have BK208 := n1_; have BK209 := n2_; have BK210 := n3_; have BK211 := n4_; have HB := n5_; clear n0_ n1_ n2_ n3_ n4_ n5_; (try clear hb); (try clear hb2); (try clear hk); (try clear hi); have hnb37 := NB210_211.out; have hnc37 := NB211_210.out; have hcz38_0 : w36.cell? ⟨gb210, 0, none⟩ = some (.bool a3_0) := (blk_cell BK210.out 0).trans rfl; have hcz38_1 : w36.cell? ⟨gb210, 1, none⟩ = some (.int .i64 a3_1) := (blk_cell BK210.out 1).trans rfl; have hfz38_0 := blk_frozen BK210.out 0; have hfz38_1 := blk_frozen BK210.out 1))
              go_meet
              case rel => exact ⟨_, (true), (by first | rfl | (simp; done) | (simp [*]; done)), H', ⟨by first | omega | exact Nat.le_refl _⟩, ⟨by (with_reducible repeat (first | refine blk_drewN ?_ _ | refine blk_drew ?_ | refine blk_alloc ?_ _)); exact BK207.out⟩, ⟨by (with_reducible repeat (first | refine blk_drewN ?_ _ | refine blk_drew ?_ | refine blk_alloc ?_ _)); exact BK208.out⟩, ⟨by (with_reducible repeat (first | refine blk_drewN ?_ _ | refine blk_drew ?_ | refine blk_alloc ?_ _)); exact BK209.out⟩, ⟨by (with_reducible repeat (first | refine blk_drewN ?_ _ | refine blk_drew ?_ | refine blk_alloc ?_ _)); exact BK210.out⟩, ⟨by (with_reducible repeat (first | refine blk_drewN ?_ _ | refine blk_drew ?_ | refine blk_alloc ?_ _)); exact BK211.out⟩, ⟨by repeat (first | (with_reducible first | exact HB.out | apply below_alloc | apply pw_below_drewN | apply below_drew1 | refine below_set ?_ GE207.out | refine below_set ?_ GE208.out | refine below_set ?_ GE209.out | refine below_set ?_ GE210.out | refine below_set ?_ GE211.out) | exact HB.out)⟩⟩
            · rw [if_neg c21] at H
              have c21b0 : decide (a3_1 < (-1073741824)) = false := decide_eq_false c21
              clear c21
              (first | rw [c21b0] | (simp only [i64_w, i32_w]; rw [c21b0]) | skip)
              by_cases c39 : a3_1 > 1073741824
              · rw [if_pos c39] at H
                have c39b0 : decide (1073741824 < a3_1) = true := decide_eq_true c39
                clear c39
                have H' := Aside0.mk H
                clear H
                have hnb40 := NB207_208.out
                have hnc40 := NB208_207.out
                have hnb41 := NB207_209.out
                have hnc41 := NB209_207.out
                have hnb42 := NB207_210.out
                have hnc42 := NB210_207.out
                have hnb43 := NB207_211.out
                have hnc43 := NB211_207.out
                have hcz44_0 : w14.cell? ⟨gb207, 0, none⟩ = some (.int .i64 a0_0) := (blk_cell BK207.out 0).trans rfl
                have hcz44_1 : w14.cell? ⟨gb207, 1, none⟩ = some (.int .i64 a0_1) := (blk_cell BK207.out 1).trans rfl
                have hfz44_0 := blk_frozen BK207.out 0
                have hfz44_1 := blk_frozen BK207.out 1
                go_wp2_with (first | ((with_reducible refine gate_callee (f := 23) rfl ?_); refine goesL_ (some 18) rfl rfl Try.func23 (by kernel_rfl) rfl #[.agg #[.int .i64 a0_0, .int .i64 a0_1]] rfl (by (try simp only [List.map_toArray, List.map_cons, List.map_nil]); first | done | rfl | (simp only [List.length_drop, List.length_take]; rfl)) ?_; (with_reducible refine (valancelaw10_small.calls a0_0 a0_1 true _ A15.out).mono ?_); rintro e w45 ⟨rfl, hb⟩; refine ⟨_, rfl, ?_⟩; have n0_ := Aside0.mk (blk_below (g := gb207) (o := .cells #[.int .i64 a0_0, .int .i64 a0_1] 23 (0, 0)) (by (with_reducible repeat (first | refine blk_drewN ?_ _ | refine blk_drew ?_ | refine blk_alloc ?_ _)); exact BK207.out) hb); have n1_ := Aside0.mk (blk_below (g := gb208) (o := .cells #[.int .i64 a1_0, .int .i64 a1_1] 23 (0, 0)) (by (with_reducible repeat (first | refine blk_drewN ?_ _ | refine blk_drew ?_ | refine blk_alloc ?_ _)); exact BK208.out) hb); have n2_ := Aside0.mk (blk_below (g := gb209) (o := .cells #[.int .i64 a2_0, .int .i64 a2_1] 23 (0, 0)) (by (with_reducible repeat (first | refine blk_drewN ?_ _ | refine blk_drew ?_ | refine blk_alloc ?_ _)); exact BK209.out) hb); have n3_ := Aside0.mk (blk_below (g := gb210) (o := .cells #[.bool a3_0, .int .i64 a3_1] 25 (0, 0)) (by (with_reducible repeat (first | refine blk_drewN ?_ _ | refine blk_drew ?_ | refine blk_alloc ?_ _)); exact BK210.out) hb); have n4_ := Aside0.mk (blk_below (g := gb211) (o := .cells #[.bool a4_0, .int .i64 a4_1] 25 (0, 0)) (by (with_reducible repeat (first | refine blk_drewN ?_ _ | refine blk_drew ?_ | refine blk_alloc ?_ _)); exact BK211.out) hb); have n5_ := Aside0.mk (below_step (by repeat (first | (with_reducible first | exact HB.out | apply below_alloc | apply pw_below_drewN | apply below_drew1 | refine below_set ?_ GE207.out | refine below_set ?_ GE208.out | refine below_set ?_ GE209.out | refine below_set ?_ GE210.out | refine below_set ?_ GE211.out) | exact HB.out)) hb); clear BK207; clear BK208; clear BK209; clear BK210; clear BK211; clear HB; have BK207 := n0_; have BK208 := n1_; have BK209 := n2_; have BK210 := n3_; have BK211 := n4_; have HB := n5_; clear n0_ n1_ n2_ n3_ n4_ n5_; (try clear hb); (try clear hb2); (try clear hk); (try clear hi); have hnb46 := NB208_209.out; have hnc46 := NB209_208.out; have hnb47 := NB208_210.out; have hnc47 := NB210_208.out; have hnb48 := NB208_211.out; have hnc48 := NB211_208.out; have hcz49_0 : w45.cell? ⟨gb208, 0, none⟩ = some (.int .i64 a1_0) := (blk_cell BK208.out 0).trans rfl; have hcz49_1 : w45.cell? ⟨gb208, 1, none⟩ = some (.int .i64 a1_1) := (blk_cell BK208.out 1).trans rfl; have hfz49_0 := blk_frozen BK208.out 0; have hfz49_1 := blk_frozen BK208.out 1) | (go_at_call 23; (with_reducible refine (valancelaw10_small.calls a1_0 a1_1 true _ A17.out).mono ?_); rintro e w50 ⟨rfl, hb⟩; have n0_ := Aside0.mk (blk_below (g := gb207) (o := .cells #[.int .i64 a0_0, .int .i64 a0_1] 23 (0, 0)) (by (with_reducible repeat (first | refine blk_drewN ?_ _ | refine blk_drew ?_ | refine blk_alloc ?_ _)); exact BK207.out) hb); have n1_ := Aside0.mk (blk_below (g := gb208) (o := .cells #[.int .i64 a1_0, .int .i64 a1_1] 23 (0, 0)) (by (with_reducible repeat (first | refine blk_drewN ?_ _ | refine blk_drew ?_ | refine blk_alloc ?_ _)); exact BK208.out) hb); have n2_ := Aside0.mk (blk_below (g := gb209) (o := .cells #[.int .i64 a2_0, .int .i64 a2_1] 23 (0, 0)) (by (with_reducible repeat (first | refine blk_drewN ?_ _ | refine blk_drew ?_ | refine blk_alloc ?_ _)); exact BK209.out) hb); have n3_ := Aside0.mk (blk_below (g := gb210) (o := .cells #[.bool a3_0, .int .i64 a3_1] 25 (0, 0)) (by (with_reducible repeat (first | refine blk_drewN ?_ _ | refine blk_drew ?_ | refine blk_alloc ?_ _)); exact BK210.out) hb); have n4_ := Aside0.mk (blk_below (g := gb211) (o := .cells #[.bool a4_0, .int .i64 a4_1] 25 (0, 0)) (by (with_reducible repeat (first | refine blk_drewN ?_ _ | refine blk_drew ?_ | refine blk_alloc ?_ _)); exact BK211.out) hb); have n5_ := Aside0.mk (below_step (by repeat (first | (with_reducible first | exact HB.out | apply below_alloc | apply pw_below_drewN | apply below_drew1 | refine below_set ?_ GE207.out | refine below_set ?_ GE208.out | refine below_set ?_ GE209.out | refine below_set ?_ GE210.out | refine below_set ?_ GE211.out) | exact HB.out)) hb); clear BK207; clear BK208; clear BK209; clear BK210; clear BK211; clear HB; have BK207 := n0_; have BK208 := n1_; have BK209 := n2_; have BK210 := n3_; have BK211 := n4_; have HB := n5_; clear n0_ n1_ n2_ n3_ n4_ n5_; (try clear hb); (try clear hb2); (try clear hk); (try clear hi); have hnb51 := NB209_210.out; have hnc51 := NB210_209.out; have hnb52 := NB209_211.out; have hnc52 := NB211_209.out; have hcz53_0 : w50.cell? ⟨gb209, 0, none⟩ = some (.int .i64 a2_0) := (blk_cell BK209.out 0).trans rfl; have hcz53_1 : w50.cell? ⟨gb209, 1, none⟩ = some (.int .i64 a2_1) := (blk_cell BK209.out 1).trans rfl; have hfz53_0 := blk_frozen BK209.out 0; have hfz53_1 := blk_frozen BK209.out 1) | (go_at_call 23; (with_reducible refine (valancelaw10_small.calls a2_0 a2_1 true _ A19.out).mono ?_); rintro e w54 ⟨rfl, hb⟩; have n0_ := Aside0.mk (blk_below (g := gb207) (o := .cells #[.int .i64 a0_0, .int .i64 a0_1] 23 (0, 0)) (by (with_reducible repeat (first | refine blk_drewN ?_ _ | refine blk_drew ?_ | refine blk_alloc ?_ _)); exact BK207.out) hb); have n1_ := Aside0.mk (blk_below (g := gb208) (o := .cells #[.int .i64 a1_0, .int .i64 a1_1] 23 (0, 0)) (by (with_reducible repeat (first | refine blk_drewN ?_ _ | refine blk_drew ?_ | refine blk_alloc ?_ _)); exact BK208.out) hb); have n2_ := Aside0.mk (blk_below (g := gb209) (o := .cells #[.int .i64 a2_0, .int .i64 a2_1] 23 (0, 0)) (by (with_reducible repeat (first | refine blk_drewN ?_ _ | refine blk_drew ?_ | refine blk_alloc ?_ _)); exact BK209.out) hb); have n3_ := Aside0.mk (blk_below (g := gb210) (o := .cells #[.bool a3_0, .int .i64 a3_1] 25 (0, 0)) (by (with_reducible repeat (first | refine blk_drewN ?_ _ | refine blk_drew ?_ | refine blk_alloc ?_ _)); exact BK210.out) hb); have n4_ := Aside0.mk (blk_below (g := gb211) (o := .cells #[.bool a4_0, .int .i64 a4_1] 25 (0, 0)) (by (with_reducible repeat (first | refine blk_drewN ?_ _ | refine blk_drew ?_ | refine blk_alloc ?_ _)); exact BK211.out) hb); have n5_ := Aside0.mk (below_step (by repeat (first | (with_reducible first | exact HB.out | apply below_alloc | apply pw_below_drewN | apply below_drew1 | refine below_set ?_ GE207.out | refine below_set ?_ GE208.out | refine below_set ?_ GE209.out | refine below_set ?_ GE210.out | refine below_set ?_ GE211.out) | exact HB.out)) hb); clear BK207; clear BK208; clear BK209; clear BK210; clear BK211; clear HB; have BK207 := n0_; have BK208 := n1_; have BK209 := n2_; have BK210 := n3_; have BK211 := n4_; have HB := n5_; clear n0_ n1_ n2_ n3_ n4_ n5_; (try clear hb); (try clear hb2); (try clear hk); (try clear hi); have hnb55 := NB210_211.out; have hnc55 := NB211_210.out; have hcz56_0 : w54.cell? ⟨gb210, 0, none⟩ = some (.bool a3_0) := (blk_cell BK210.out 0).trans rfl; have hcz56_1 : w54.cell? ⟨gb210, 1, none⟩ = some (.int .i64 a3_1) := (blk_cell BK210.out 1).trans rfl; have hfz56_0 := blk_frozen BK210.out 0; have hfz56_1 := blk_frozen BK210.out 1))
                go_meet
                case rel => exact ⟨_, (true), (by first | rfl | (simp; done) | (simp [*]; done)), H', ⟨by first | omega | exact Nat.le_refl _⟩, ⟨by (with_reducible repeat (first | refine blk_drewN ?_ _ | refine blk_drew ?_ | refine blk_alloc ?_ _)); exact BK207.out⟩, ⟨by (with_reducible repeat (first | refine blk_drewN ?_ _ | refine blk_drew ?_ | refine blk_alloc ?_ _)); exact BK208.out⟩, ⟨by (with_reducible repeat (first | refine blk_drewN ?_ _ | refine blk_drew ?_ | refine blk_alloc ?_ _)); exact BK209.out⟩, ⟨by (with_reducible repeat (first | refine blk_drewN ?_ _ | refine blk_drew ?_ | refine blk_alloc ?_ _)); exact BK210.out⟩, ⟨by (with_reducible repeat (first | refine blk_drewN ?_ _ | refine blk_drew ?_ | refine blk_alloc ?_ _)); exact BK211.out⟩, ⟨by repeat (first | (with_reducible first | exact HB.out | apply below_alloc | apply pw_below_drewN | apply below_drew1 | refine below_set ?_ GE207.out | refine below_set ?_ GE208.out | refine below_set ?_ GE209.out | refine below_set ?_ GE210.out | refine below_set ?_ GE211.out) | exact HB.out)⟩⟩
              · rw [if_neg c39] at H
                have c39b0 : decide (1073741824 < a3_1) = false := decide_eq_false c39
                clear c39
                by_cases c57 : a4_1 < (-1073741824)
                · rw [if_pos c57] at H
                  have c57b0 : decide (a4_1 < (-1073741824)) = true := decide_eq_true c57
                  clear c57
                  have H' := Aside0.mk H
                  clear H
                  have hnb58 := NB207_208.out
                  have hnc58 := NB208_207.out
                  have hnb59 := NB207_209.out
                  have hnc59 := NB209_207.out
                  have hnb60 := NB207_210.out
                  have hnc60 := NB210_207.out
                  have hnb61 := NB207_211.out
                  have hnc61 := NB211_207.out
                  have hcz62_0 : w14.cell? ⟨gb207, 0, none⟩ = some (.int .i64 a0_0) := (blk_cell BK207.out 0).trans rfl
                  have hcz62_1 : w14.cell? ⟨gb207, 1, none⟩ = some (.int .i64 a0_1) := (blk_cell BK207.out 1).trans rfl
                  have hfz62_0 := blk_frozen BK207.out 0
                  have hfz62_1 := blk_frozen BK207.out 1
                  go_wp2_with (first | ((with_reducible refine gate_callee (f := 23) rfl ?_); refine goesL_ (some 18) rfl rfl Try.func23 (by kernel_rfl) rfl #[.agg #[.int .i64 a0_0, .int .i64 a0_1]] rfl (by (try simp only [List.map_toArray, List.map_cons, List.map_nil]); first | done | rfl | (simp only [List.length_drop, List.length_take]; rfl)) ?_; (with_reducible refine (valancelaw10_small.calls a0_0 a0_1 true _ A15.out).mono ?_); rintro e w63 ⟨rfl, hb⟩; refine ⟨_, rfl, ?_⟩; have n0_ := Aside0.mk (blk_below (g := gb207) (o := .cells #[.int .i64 a0_0, .int .i64 a0_1] 23 (0, 0)) (by (with_reducible repeat (first | refine blk_drewN ?_ _ | refine blk_drew ?_ | refine blk_alloc ?_ _)); exact BK207.out) hb); have n1_ := Aside0.mk (blk_below (g := gb208) (o := .cells #[.int .i64 a1_0, .int .i64 a1_1] 23 (0, 0)) (by (with_reducible repeat (first | refine blk_drewN ?_ _ | refine blk_drew ?_ | refine blk_alloc ?_ _)); exact BK208.out) hb); have n2_ := Aside0.mk (blk_below (g := gb209) (o := .cells #[.int .i64 a2_0, .int .i64 a2_1] 23 (0, 0)) (by (with_reducible repeat (first | refine blk_drewN ?_ _ | refine blk_drew ?_ | refine blk_alloc ?_ _)); exact BK209.out) hb); have n3_ := Aside0.mk (blk_below (g := gb210) (o := .cells #[.bool a3_0, .int .i64 a3_1] 25 (0, 0)) (by (with_reducible repeat (first | refine blk_drewN ?_ _ | refine blk_drew ?_ | refine blk_alloc ?_ _)); exact BK210.out) hb); have n4_ := Aside0.mk (blk_below (g := gb211) (o := .cells #[.bool a4_0, .int .i64 a4_1] 25 (0, 0)) (by (with_reducible repeat (first | refine blk_drewN ?_ _ | refine blk_drew ?_ | refine blk_alloc ?_ _)); exact BK211.out) hb); have n5_ := Aside0.mk (below_step (by repeat (first | (with_reducible first | exact HB.out | apply below_alloc | apply pw_below_drewN | apply below_drew1 | refine below_set ?_ GE207.out | refine below_set ?_ GE208.out | refine below_set ?_ GE209.out | refine below_set ?_ GE210.out | refine below_set ?_ GE211.out) | exact HB.out)) hb); clear BK207; clear BK208; clear BK209; clear BK210; clear BK211; clear HB; have BK207 := n0_; have BK208 := n1_; have BK209 := n2_; have BK210 := n3_; have BK211 := n4_; have HB := n5_; clear n0_ n1_ n2_ n3_ n4_ n5_; (try clear hb); (try clear hb2); (try clear hk); (try clear hi); have hnb64 := NB208_209.out; have hnc64 := NB209_208.out; have hnb65 := NB208_210.out; have hnc65 := NB210_208.out; have hnb66 := NB208_211.out; have hnc66 := NB211_208.out; have hcz67_0 : w63.cell? ⟨gb208, 0, none⟩ = some (.int .i64 a1_0) := (blk_cell BK208.out 0).trans rfl; have hcz67_1 : w63.cell? ⟨gb208, 1, none⟩ = some (.int .i64 a1_1) := (blk_cell BK208.out 1).trans rfl; have hfz67_0 := blk_frozen BK208.out 0; have hfz67_1 := blk_frozen BK208.out 1) | (go_at_call 23; (with_reducible refine (valancelaw10_small.calls a1_0 a1_1 true _ A17.out).mono ?_); rintro e w68 ⟨rfl, hb⟩; have n0_ := Aside0.mk (blk_below (g := gb207) (o := .cells #[.int .i64 a0_0, .int .i64 a0_1] 23 (0, 0)) (by (with_reducible repeat (first | refine blk_drewN ?_ _ | refine blk_drew ?_ | refine blk_alloc ?_ _)); exact BK207.out) hb); have n1_ := Aside0.mk (blk_below (g := gb208) (o := .cells #[.int .i64 a1_0, .int .i64 a1_1] 23 (0, 0)) (by (with_reducible repeat (first | refine blk_drewN ?_ _ | refine blk_drew ?_ | refine blk_alloc ?_ _)); exact BK208.out) hb); have n2_ := Aside0.mk (blk_below (g := gb209) (o := .cells #[.int .i64 a2_0, .int .i64 a2_1] 23 (0, 0)) (by (with_reducible repeat (first | refine blk_drewN ?_ _ | refine blk_drew ?_ | refine blk_alloc ?_ _)); exact BK209.out) hb); have n3_ := Aside0.mk (blk_below (g := gb210) (o := .cells #[.bool a3_0, .int .i64 a3_1] 25 (0, 0)) (by (with_reducible repeat (first | refine blk_drewN ?_ _ | refine blk_drew ?_ | refine blk_alloc ?_ _)); exact BK210.out) hb); have n4_ := Aside0.mk (blk_below (g := gb211) (o := .cells #[.bool a4_0, .int .i64 a4_1] 25 (0, 0)) (by (with_reducible repeat (first | refine blk_drewN ?_ _ | refine blk_drew ?_ | refine blk_alloc ?_ _)); exact BK211.out) hb); have n5_ := Aside0.mk (below_step (by repeat (first | (with_reducible first | exact HB.out | apply below_alloc | apply pw_below_drewN | apply below_drew1 | refine below_set ?_ GE207.out | refine below_set ?_ GE208.out | refine below_set ?_ GE209.out | refine below_set ?_ GE210.out | refine below_set ?_ GE211.out) | exact HB.out)) hb); clear BK207; clear BK208; clear BK209; clear BK210; clear BK211; clear HB; have BK207 := n0_; have BK208 := n1_; have BK209 := n2_; have BK210 := n3_; have BK211 := n4_; have HB := n5_; clear n0_ n1_ n2_ n3_ n4_ n5_; (try clear hb); (try clear hb2); (try clear hk); (try clear hi); have hnb69 := NB209_210.out; have hnc69 := NB210_209.out; have hnb70 := NB209_211.out; have hnc70 := NB211_209.out; have hcz71_0 : w68.cell? ⟨gb209, 0, none⟩ = some (.int .i64 a2_0) := (blk_cell BK209.out 0).trans rfl; have hcz71_1 : w68.cell? ⟨gb209, 1, none⟩ = some (.int .i64 a2_1) := (blk_cell BK209.out 1).trans rfl; have hfz71_0 := blk_frozen BK209.out 0; have hfz71_1 := blk_frozen BK209.out 1) | (go_at_call 23; (with_reducible refine (valancelaw10_small.calls a2_0 a2_1 true _ A19.out).mono ?_); rintro e w72 ⟨rfl, hb⟩; have n0_ := Aside0.mk (blk_below (g := gb207) (o := .cells #[.int .i64 a0_0, .int .i64 a0_1] 23 (0, 0)) (by (with_reducible repeat (first | refine blk_drewN ?_ _ | refine blk_drew ?_ | refine blk_alloc ?_ _)); exact BK207.out) hb); have n1_ := Aside0.mk (blk_below (g := gb208) (o := .cells #[.int .i64 a1_0, .int .i64 a1_1] 23 (0, 0)) (by (with_reducible repeat (first | refine blk_drewN ?_ _ | refine blk_drew ?_ | refine blk_alloc ?_ _)); exact BK208.out) hb); have n2_ := Aside0.mk (blk_below (g := gb209) (o := .cells #[.int .i64 a2_0, .int .i64 a2_1] 23 (0, 0)) (by (with_reducible repeat (first | refine blk_drewN ?_ _ | refine blk_drew ?_ | refine blk_alloc ?_ _)); exact BK209.out) hb); have n3_ := Aside0.mk (blk_below (g := gb210) (o := .cells #[.bool a3_0, .int .i64 a3_1] 25 (0, 0)) (by (with_reducible repeat (first | refine blk_drewN ?_ _ | refine blk_drew ?_ | refine blk_alloc ?_ _)); exact BK210.out) hb); have n4_ := Aside0.mk (blk_below (g := gb211) (o := .cells #[.bool a4_0, .int .i64 a4_1] 25 (0, 0)) (by (with_reducible repeat (first | refine blk_drewN ?_ _ | refine blk_drew ?_ | refine blk_alloc ?_ _)); exact BK211.out) hb); have n5_ := Aside0.mk (below_step (by repeat (first | (with_reducible first | exact HB.out | apply below_alloc | apply pw_below_drewN | apply below_drew1 | refine below_set ?_ GE207.out | refine below_set ?_ GE208.out | refine below_set ?_ GE209.out | refine below_set ?_ GE210.out | refine below_set ?_ GE211.out) | exact HB.out)) hb); clear BK207; clear BK208; clear BK209; clear BK210; clear BK211; clear HB; have BK207 := n0_; have BK208 := n1_; have BK209 := n2_; have BK210 := n3_; have BK211 := n4_; have HB := n5_; clear n0_ n1_ n2_ n3_ n4_ n5_; (try clear hb); (try clear hb2); (try clear hk); (try clear hi); have hnb73 := NB210_211.out; have hnc73 := NB211_210.out; have hcz74_0 : w72.cell? ⟨gb210, 0, none⟩ = some (.bool a3_0) := (blk_cell BK210.out 0).trans rfl; have hcz74_1 : w72.cell? ⟨gb210, 1, none⟩ = some (.int .i64 a3_1) := (blk_cell BK210.out 1).trans rfl; have hfz74_0 := blk_frozen BK210.out 0; have hfz74_1 := blk_frozen BK210.out 1; have hcz75_0 : w72.cell? ⟨gb211, 0, none⟩ = some (.bool a4_0) := (blk_cell BK211.out 0).trans rfl; have hcz75_1 : w72.cell? ⟨gb211, 1, none⟩ = some (.int .i64 a4_1) := (blk_cell BK211.out 1).trans rfl; have hfz75_0 := blk_frozen BK211.out 0; have hfz75_1 := blk_frozen BK211.out 1))
                  go_meet
                  case rel => exact ⟨_, (true), (by first | rfl | (simp; done) | (simp [*]; done)), H', ⟨by first | omega | exact Nat.le_refl _⟩, ⟨by (with_reducible repeat (first | refine blk_drewN ?_ _ | refine blk_drew ?_ | refine blk_alloc ?_ _)); exact BK207.out⟩, ⟨by (with_reducible repeat (first | refine blk_drewN ?_ _ | refine blk_drew ?_ | refine blk_alloc ?_ _)); exact BK208.out⟩, ⟨by (with_reducible repeat (first | refine blk_drewN ?_ _ | refine blk_drew ?_ | refine blk_alloc ?_ _)); exact BK209.out⟩, ⟨by (with_reducible repeat (first | refine blk_drewN ?_ _ | refine blk_drew ?_ | refine blk_alloc ?_ _)); exact BK210.out⟩, ⟨by (with_reducible repeat (first | refine blk_drewN ?_ _ | refine blk_drew ?_ | refine blk_alloc ?_ _)); exact BK211.out⟩, ⟨by repeat (first | (with_reducible first | exact HB.out | apply below_alloc | apply pw_below_drewN | apply below_drew1 | refine below_set ?_ GE207.out | refine below_set ?_ GE208.out | refine below_set ?_ GE209.out | refine below_set ?_ GE210.out | refine below_set ?_ GE211.out) | exact HB.out)⟩⟩
                · rw [if_neg c57] at H
                  have c57b0 : decide (a4_1 < (-1073741824)) = false := decide_eq_false c57
                  clear c57
                  have H' := Aside0.mk H
                  clear H
                  have hnb76 := NB207_208.out
                  have hnc76 := NB208_207.out
                  have hnb77 := NB207_209.out
                  have hnc77 := NB209_207.out
                  have hnb78 := NB207_210.out
                  have hnc78 := NB210_207.out
                  have hnb79 := NB207_211.out
                  have hnc79 := NB211_207.out
                  have hcz80_0 : w14.cell? ⟨gb207, 0, none⟩ = some (.int .i64 a0_0) := (blk_cell BK207.out 0).trans rfl
                  have hcz80_1 : w14.cell? ⟨gb207, 1, none⟩ = some (.int .i64 a0_1) := (blk_cell BK207.out 1).trans rfl
                  have hfz80_0 := blk_frozen BK207.out 0
                  have hfz80_1 := blk_frozen BK207.out 1
                  go_wp2_with (first | ((with_reducible refine gate_callee (f := 23) rfl ?_); refine goesL_ (some 18) rfl rfl Try.func23 (by kernel_rfl) rfl #[.agg #[.int .i64 a0_0, .int .i64 a0_1]] rfl (by (try simp only [List.map_toArray, List.map_cons, List.map_nil]); first | done | rfl | (simp only [List.length_drop, List.length_take]; rfl)) ?_; (with_reducible refine (valancelaw10_small.calls a0_0 a0_1 true _ A15.out).mono ?_); rintro e w81 ⟨rfl, hb⟩; refine ⟨_, rfl, ?_⟩; have n0_ := Aside0.mk (blk_below (g := gb207) (o := .cells #[.int .i64 a0_0, .int .i64 a0_1] 23 (0, 0)) (by (with_reducible repeat (first | refine blk_drewN ?_ _ | refine blk_drew ?_ | refine blk_alloc ?_ _)); exact BK207.out) hb); have n1_ := Aside0.mk (blk_below (g := gb208) (o := .cells #[.int .i64 a1_0, .int .i64 a1_1] 23 (0, 0)) (by (with_reducible repeat (first | refine blk_drewN ?_ _ | refine blk_drew ?_ | refine blk_alloc ?_ _)); exact BK208.out) hb); have n2_ := Aside0.mk (blk_below (g := gb209) (o := .cells #[.int .i64 a2_0, .int .i64 a2_1] 23 (0, 0)) (by (with_reducible repeat (first | refine blk_drewN ?_ _ | refine blk_drew ?_ | refine blk_alloc ?_ _)); exact BK209.out) hb); have n3_ := Aside0.mk (blk_below (g := gb210) (o := .cells #[.bool a3_0, .int .i64 a3_1] 25 (0, 0)) (by (with_reducible repeat (first | refine blk_drewN ?_ _ | refine blk_drew ?_ | refine blk_alloc ?_ _)); exact BK210.out) hb); have n4_ := Aside0.mk (blk_below (g := gb211) (o := .cells #[.bool a4_0, .int .i64 a4_1] 25 (0, 0)) (by (with_reducible repeat (first | refine blk_drewN ?_ _ | refine blk_drew ?_ | refine blk_alloc ?_ _)); exact BK211.out) hb); have n5_ := Aside0.mk (below_step (by repeat (first | (with_reducible first | exact HB.out | apply below_alloc | apply pw_below_drewN | apply below_drew1 | refine below_set ?_ GE207.out | refine below_set ?_ GE208.out | refine below_set ?_ GE209.out | refine below_set ?_ GE210.out | refine below_set ?_ GE211.out) | exact HB.out)) hb); clear BK207; clear BK208; clear BK209; clear BK210; clear BK211; clear HB; have BK207 := n0_; have BK208 := n1_; have BK209 := n2_; have BK210 := n3_; have BK211 := n4_; have HB := n5_; clear n0_ n1_ n2_ n3_ n4_ n5_; (try clear hb); (try clear hb2); (try clear hk); (try clear hi); have hnb82 := NB208_209.out; have hnc82 := NB209_208.out; have hnb83 := NB208_210.out; have hnc83 := NB210_208.out; have hnb84 := NB208_211.out; have hnc84 := NB211_208.out; have hcz85_0 : w81.cell? ⟨gb208, 0, none⟩ = some (.int .i64 a1_0) := (blk_cell BK208.out 0).trans rfl; have hcz85_1 : w81.cell? ⟨gb208, 1, none⟩ = some (.int .i64 a1_1) := (blk_cell BK208.out 1).trans rfl; have hfz85_0 := blk_frozen BK208.out 0; have hfz85_1 := blk_frozen BK208.out 1) | (go_at_call 23; (with_reducible refine (valancelaw10_small.calls a1_0 a1_1 true _ A17.out).mono ?_); rintro e w86 ⟨rfl, hb⟩; have n0_ := Aside0.mk (blk_below (g := gb207) (o := .cells #[.int .i64 a0_0, .int .i64 a0_1] 23 (0, 0)) (by (with_reducible repeat (first | refine blk_drewN ?_ _ | refine blk_drew ?_ | refine blk_alloc ?_ _)); exact BK207.out) hb); have n1_ := Aside0.mk (blk_below (g := gb208) (o := .cells #[.int .i64 a1_0, .int .i64 a1_1] 23 (0, 0)) (by (with_reducible repeat (first | refine blk_drewN ?_ _ | refine blk_drew ?_ | refine blk_alloc ?_ _)); exact BK208.out) hb); have n2_ := Aside0.mk (blk_below (g := gb209) (o := .cells #[.int .i64 a2_0, .int .i64 a2_1] 23 (0, 0)) (by (with_reducible repeat (first | refine blk_drewN ?_ _ | refine blk_drew ?_ | refine blk_alloc ?_ _)); exact BK209.out) hb); have n3_ := Aside0.mk (blk_below (g := gb210) (o := .cells #[.bool a3_0, .int .i64 a3_1] 25 (0, 0)) (by (with_reducible repeat (first | refine blk_drewN ?_ _ | refine blk_drew ?_ | refine blk_alloc ?_ _)); exact BK210.out) hb); have n4_ := Aside0.mk (blk_below (g := gb211) (o := .cells #[.bool a4_0, .int .i64 a4_1] 25 (0, 0)) (by (with_reducible repeat (first | refine blk_drewN ?_ _ | refine blk_drew ?_ | refine blk_alloc ?_ _)); exact BK211.out) hb); have n5_ := Aside0.mk (below_step (by repeat (first | (with_reducible first | exact HB.out | apply below_alloc | apply pw_below_drewN | apply below_drew1 | refine below_set ?_ GE207.out | refine below_set ?_ GE208.out | refine below_set ?_ GE209.out | refine below_set ?_ GE210.out | refine below_set ?_ GE211.out) | exact HB.out)) hb); clear BK207; clear BK208; clear BK209; clear BK210; clear BK211; clear HB; have BK207 := n0_; have BK208 := n1_; have BK209 := n2_; have BK210 := n3_; have BK211 := n4_; have HB := n5_; clear n0_ n1_ n2_ n3_ n4_ n5_; (try clear hb); (try clear hb2); (try clear hk); (try clear hi); have hnb87 := NB209_210.out; have hnc87 := NB210_209.out; have hnb88 := NB209_211.out; have hnc88 := NB211_209.out; have hcz89_0 : w86.cell? ⟨gb209, 0, none⟩ = some (.int .i64 a2_0) := (blk_cell BK209.out 0).trans rfl; have hcz89_1 : w86.cell? ⟨gb209, 1, none⟩ = some (.int .i64 a2_1) := (blk_cell BK209.out 1).trans rfl; have hfz89_0 := blk_frozen BK209.out 0; have hfz89_1 := blk_frozen BK209.out 1) | (go_at_call 23; (with_reducible refine (valancelaw10_small.calls a2_0 a2_1 true _ A19.out).mono ?_); rintro e w90 ⟨rfl, hb⟩; have n0_ := Aside0.mk (blk_below (g := gb207) (o := .cells #[.int .i64 a0_0, .int .i64 a0_1] 23 (0, 0)) (by (with_reducible repeat (first | refine blk_drewN ?_ _ | refine blk_drew ?_ | refine blk_alloc ?_ _)); exact BK207.out) hb); have n1_ := Aside0.mk (blk_below (g := gb208) (o := .cells #[.int .i64 a1_0, .int .i64 a1_1] 23 (0, 0)) (by (with_reducible repeat (first | refine blk_drewN ?_ _ | refine blk_drew ?_ | refine blk_alloc ?_ _)); exact BK208.out) hb); have n2_ := Aside0.mk (blk_below (g := gb209) (o := .cells #[.int .i64 a2_0, .int .i64 a2_1] 23 (0, 0)) (by (with_reducible repeat (first | refine blk_drewN ?_ _ | refine blk_drew ?_ | refine blk_alloc ?_ _)); exact BK209.out) hb); have n3_ := Aside0.mk (blk_below (g := gb210) (o := .cells #[.bool a3_0, .int .i64 a3_1] 25 (0, 0)) (by (with_reducible repeat (first | refine blk_drewN ?_ _ | refine blk_drew ?_ | refine blk_alloc ?_ _)); exact BK210.out) hb); have n4_ := Aside0.mk (blk_below (g := gb211) (o := .cells #[.bool a4_0, .int .i64 a4_1] 25 (0, 0)) (by (with_reducible repeat (first | refine blk_drewN ?_ _ | refine blk_drew ?_ | refine blk_alloc ?_ _)); exact BK211.out) hb); have n5_ := Aside0.mk (below_step (by repeat (first | (with_reducible first | exact HB.out | apply below_alloc | apply pw_below_drewN | apply below_drew1 | refine below_set ?_ GE207.out | refine below_set ?_ GE208.out | refine below_set ?_ GE209.out | refine below_set ?_ GE210.out | refine below_set ?_ GE211.out) | exact HB.out)) hb); clear BK207; clear BK208; clear BK209; clear BK210; clear BK211; clear HB; have BK207 := n0_; have BK208 := n1_; have BK209 := n2_; have BK210 := n3_; have BK211 := n4_; have HB := n5_; clear n0_ n1_ n2_ n3_ n4_ n5_; (try clear hb); (try clear hb2); (try clear hk); (try clear hi); have hnb91 := NB210_211.out; have hnc91 := NB211_210.out; have hcz92_0 : w90.cell? ⟨gb210, 0, none⟩ = some (.bool a3_0) := (blk_cell BK210.out 0).trans rfl; have hcz92_1 : w90.cell? ⟨gb210, 1, none⟩ = some (.int .i64 a3_1) := (blk_cell BK210.out 1).trans rfl; have hfz92_0 := blk_frozen BK210.out 0; have hfz92_1 := blk_frozen BK210.out 1; have hcz93_0 : w90.cell? ⟨gb211, 0, none⟩ = some (.bool a4_0) := (blk_cell BK211.out 0).trans rfl; have hcz93_1 : w90.cell? ⟨gb211, 1, none⟩ = some (.int .i64 a4_1) := (blk_cell BK211.out 1).trans rfl; have hfz93_0 := blk_frozen BK211.out 0; have hfz93_1 := blk_frozen BK211.out 1))
                  go_meet
                  case rel => exact ⟨_, (decide (a4_1 > 1073741824)), (by first | rfl | (simp; done) | (simp [*]; done)), H', ⟨by first | omega | exact Nat.le_refl _⟩, ⟨by (with_reducible repeat (first | refine blk_drewN ?_ _ | refine blk_drew ?_ | refine blk_alloc ?_ _)); exact BK207.out⟩, ⟨by (with_reducible repeat (first | refine blk_drewN ?_ _ | refine blk_drew ?_ | refine blk_alloc ?_ _)); exact BK208.out⟩, ⟨by (with_reducible repeat (first | refine blk_drewN ?_ _ | refine blk_drew ?_ | refine blk_alloc ?_ _)); exact BK209.out⟩, ⟨by (with_reducible repeat (first | refine blk_drewN ?_ _ | refine blk_drew ?_ | refine blk_alloc ?_ _)); exact BK210.out⟩, ⟨by (with_reducible repeat (first | refine blk_drewN ?_ _ | refine blk_drew ?_ | refine blk_alloc ?_ _)); exact BK211.out⟩, ⟨by repeat (first | (with_reducible first | exact HB.out | apply below_alloc | apply pw_below_drewN | apply below_drew1 | refine below_set ?_ GE207.out | refine below_set ?_ GE208.out | refine below_set ?_ GE209.out | refine below_set ?_ GE210.out | refine below_set ?_ GE211.out) | exact HB.out)⟩⟩
          · replace c20 := Bool.eq_false_iff.mpr c20
            subst c20
            have H1 : (valancelaw10_StickWithin.j0 k true true a0_0 a0_1 a1_0 a1_1 a2_0 a2_1 a3_0 a3_1 a4_0 a4_1) = some r := by rw [if_neg (show ¬ (false = true) by decide)] at H; exact H
            clear H
            have H := H1
            clear H1
            have H' := Aside0.mk H
            clear H
            have hnb94 := NB207_208.out
            have hnc94 := NB208_207.out
            have hnb95 := NB207_209.out
            have hnc95 := NB209_207.out
            have hnb96 := NB207_210.out
            have hnc96 := NB210_207.out
            have hnb97 := NB207_211.out
            have hnc97 := NB211_207.out
            have hcz98_0 : w14.cell? ⟨gb207, 0, none⟩ = some (.int .i64 a0_0) := (blk_cell BK207.out 0).trans rfl
            have hcz98_1 : w14.cell? ⟨gb207, 1, none⟩ = some (.int .i64 a0_1) := (blk_cell BK207.out 1).trans rfl
            have hfz98_0 := blk_frozen BK207.out 0
            have hfz98_1 := blk_frozen BK207.out 1
            go_wp2_with (first | ((with_reducible refine gate_callee (f := 23) rfl ?_); refine goesL_ (some 18) rfl rfl Try.func23 (by kernel_rfl) rfl #[.agg #[.int .i64 a0_0, .int .i64 a0_1]] rfl (by (try simp only [List.map_toArray, List.map_cons, List.map_nil]); first | done | rfl | (simp only [List.length_drop, List.length_take]; rfl)) ?_; (with_reducible refine (valancelaw10_small.calls a0_0 a0_1 true _ A15.out).mono ?_); rintro e w99 ⟨rfl, hb⟩; refine ⟨_, rfl, ?_⟩; have n0_ := Aside0.mk (blk_below (g := gb207) (o := .cells #[.int .i64 a0_0, .int .i64 a0_1] 23 (0, 0)) (by (with_reducible repeat (first | refine blk_drewN ?_ _ | refine blk_drew ?_ | refine blk_alloc ?_ _)); exact BK207.out) hb); have n1_ := Aside0.mk (blk_below (g := gb208) (o := .cells #[.int .i64 a1_0, .int .i64 a1_1] 23 (0, 0)) (by (with_reducible repeat (first | refine blk_drewN ?_ _ | refine blk_drew ?_ | refine blk_alloc ?_ _)); exact BK208.out) hb); have n2_ := Aside0.mk (blk_below (g := gb209) (o := .cells #[.int .i64 a2_0, .int .i64 a2_1] 23 (0, 0)) (by (with_reducible repeat (first | refine blk_drewN ?_ _ | refine blk_drew ?_ | refine blk_alloc ?_ _)); exact BK209.out) hb); have n3_ := Aside0.mk (blk_below (g := gb210) (o := .cells #[.bool a3_0, .int .i64 a3_1] 25 (0, 0)) (by (with_reducible repeat (first | refine blk_drewN ?_ _ | refine blk_drew ?_ | refine blk_alloc ?_ _)); exact BK210.out) hb); have n4_ := Aside0.mk (blk_below (g := gb211) (o := .cells #[.bool a4_0, .int .i64 a4_1] 25 (0, 0)) (by (with_reducible repeat (first | refine blk_drewN ?_ _ | refine blk_drew ?_ | refine blk_alloc ?_ _)); exact BK211.out) hb); have n5_ := Aside0.mk (below_step (by repeat (first | (with_reducible first | exact HB.out | apply below_alloc | apply pw_below_drewN | apply below_drew1 | refine below_set ?_ GE207.out | refine below_set ?_ GE208.out | refine below_set ?_ GE209.out | refine below_set ?_ GE210.out | refine below_set ?_ GE211.out) | exact HB.out)) hb); clear BK207; clear BK208; clear BK209; clear BK210; clear BK211; clear HB; have BK207 := n0_; have BK208 := n1_; have BK209 := n2_; have BK210 := n3_; have BK211 := n4_; have HB := n5_; clear n0_ n1_ n2_ n3_ n4_ n5_; (try clear hb); (try clear hb2); (try clear hk); (try clear hi); have hnb100 := NB208_209.out; have hnc100 := NB209_208.out; have hnb101 := NB208_210.out; have hnc101 := NB210_208.out; have hnb102 := NB208_211.out; have hnc102 := NB211_208.out; have hcz103_0 : w99.cell? ⟨gb208, 0, none⟩ = some (.int .i64 a1_0) := (blk_cell BK208.out 0).trans rfl; have hcz103_1 : w99.cell? ⟨gb208, 1, none⟩ = some (.int .i64 a1_1) := (blk_cell BK208.out 1).trans rfl; have hfz103_0 := blk_frozen BK208.out 0; have hfz103_1 := blk_frozen BK208.out 1) | (go_at_call 23; (with_reducible refine (valancelaw10_small.calls a1_0 a1_1 true _ A17.out).mono ?_); rintro e w104 ⟨rfl, hb⟩; have n0_ := Aside0.mk (blk_below (g := gb207) (o := .cells #[.int .i64 a0_0, .int .i64 a0_1] 23 (0, 0)) (by (with_reducible repeat (first | refine blk_drewN ?_ _ | refine blk_drew ?_ | refine blk_alloc ?_ _)); exact BK207.out) hb); have n1_ := Aside0.mk (blk_below (g := gb208) (o := .cells #[.int .i64 a1_0, .int .i64 a1_1] 23 (0, 0)) (by (with_reducible repeat (first | refine blk_drewN ?_ _ | refine blk_drew ?_ | refine blk_alloc ?_ _)); exact BK208.out) hb); have n2_ := Aside0.mk (blk_below (g := gb209) (o := .cells #[.int .i64 a2_0, .int .i64 a2_1] 23 (0, 0)) (by (with_reducible repeat (first | refine blk_drewN ?_ _ | refine blk_drew ?_ | refine blk_alloc ?_ _)); exact BK209.out) hb); have n3_ := Aside0.mk (blk_below (g := gb210) (o := .cells #[.bool a3_0, .int .i64 a3_1] 25 (0, 0)) (by (with_reducible repeat (first | refine blk_drewN ?_ _ | refine blk_drew ?_ | refine blk_alloc ?_ _)); exact BK210.out) hb); have n4_ := Aside0.mk (blk_below (g := gb211) (o := .cells #[.bool a4_0, .int .i64 a4_1] 25 (0, 0)) (by (with_reducible repeat (first | refine blk_drewN ?_ _ | refine blk_drew ?_ | refine blk_alloc ?_ _)); exact BK211.out) hb); have n5_ := Aside0.mk (below_step (by repeat (first | (with_reducible first | exact HB.out | apply below_alloc | apply pw_below_drewN | apply below_drew1 | refine below_set ?_ GE207.out | refine below_set ?_ GE208.out | refine below_set ?_ GE209.out | refine below_set ?_ GE210.out | refine below_set ?_ GE211.out) | exact HB.out)) hb); clear BK207; clear BK208; clear BK209; clear BK210; clear BK211; clear HB; have BK207 := n0_; have BK208 := n1_; have BK209 := n2_; have BK210 := n3_; have BK211 := n4_; have HB := n5_; clear n0_ n1_ n2_ n3_ n4_ n5_; (try clear hb); (try clear hb2); (try clear hk); (try clear hi); have hnb105 := NB209_210.out; have hnc105 := NB210_209.out; have hnb106 := NB209_211.out; have hnc106 := NB211_209.out; have hcz107_0 : w104.cell? ⟨gb209, 0, none⟩ = some (.int .i64 a2_0) := (blk_cell BK209.out 0).trans rfl; have hcz107_1 : w104.cell? ⟨gb209, 1, none⟩ = some (.int .i64 a2_1) := (blk_cell BK209.out 1).trans rfl; have hfz107_0 := blk_frozen BK209.out 0; have hfz107_1 := blk_frozen BK209.out 1) | (go_at_call 23; (with_reducible refine (valancelaw10_small.calls a2_0 a2_1 false _ A19.out).mono ?_); rintro e w108 ⟨rfl, hb⟩; have n0_ := Aside0.mk (blk_below (g := gb207) (o := .cells #[.int .i64 a0_0, .int .i64 a0_1] 23 (0, 0)) (by (with_reducible repeat (first | refine blk_drewN ?_ _ | refine blk_drew ?_ | refine blk_alloc ?_ _)); exact BK207.out) hb); have n1_ := Aside0.mk (blk_below (g := gb208) (o := .cells #[.int .i64 a1_0, .int .i64 a1_1] 23 (0, 0)) (by (with_reducible repeat (first | refine blk_drewN ?_ _ | refine blk_drew ?_ | refine blk_alloc ?_ _)); exact BK208.out) hb); have n2_ := Aside0.mk (blk_below (g := gb209) (o := .cells #[.int .i64 a2_0, .int .i64 a2_1] 23 (0, 0)) (by (with_reducible repeat (first | refine blk_drewN ?_ _ | refine blk_drew ?_ | refine blk_alloc ?_ _)); exact BK209.out) hb); have n3_ := Aside0.mk (blk_below (g := gb210) (o := .cells #[.bool a3_0, .int .i64 a3_1] 25 (0, 0)) (by (with_reducible repeat (first | refine blk_drewN ?_ _ | refine blk_drew ?_ | refine blk_alloc ?_ _)); exact BK210.out) hb); have n4_ := Aside0.mk (blk_below (g := gb211) (o := .cells #[.bool a4_0, .int .i64 a4_1] 25 (0, 0)) (by (with_reducible repeat (first | refine blk_drewN ?_ _ | refine blk_drew ?_ | refine blk_alloc ?_ _)); exact BK211.out) hb); have n5_ := Aside0.mk (below_step (by repeat (first | (with_reducible first | exact HB.out | apply below_alloc | apply pw_below_drewN | apply below_drew1 | refine below_set ?_ GE207.out | refine below_set ?_ GE208.out | refine below_set ?_ GE209.out | refine below_set ?_ GE210.out | refine below_set ?_ GE211.out) | exact HB.out)) hb); clear BK207; clear BK208; clear BK209; clear BK210; clear BK211; clear HB; have BK207 := n0_; have BK208 := n1_; have BK209 := n2_; have BK210 := n3_; have BK211 := n4_; have HB := n5_; clear n0_ n1_ n2_ n3_ n4_ n5_; (try clear hb); (try clear hb2); (try clear hk); (try clear hi)))
            go_meet
            case rel => exact ⟨_, (true), (by first | rfl | (simp; done) | (simp [*]; done)), H', ⟨by first | omega | exact Nat.le_refl _⟩, ⟨by (with_reducible repeat (first | refine blk_drewN ?_ _ | refine blk_drew ?_ | refine blk_alloc ?_ _)); exact BK207.out⟩, ⟨by (with_reducible repeat (first | refine blk_drewN ?_ _ | refine blk_drew ?_ | refine blk_alloc ?_ _)); exact BK208.out⟩, ⟨by (with_reducible repeat (first | refine blk_drewN ?_ _ | refine blk_drew ?_ | refine blk_alloc ?_ _)); exact BK209.out⟩, ⟨by (with_reducible repeat (first | refine blk_drewN ?_ _ | refine blk_drew ?_ | refine blk_alloc ?_ _)); exact BK210.out⟩, ⟨by (with_reducible repeat (first | refine blk_drewN ?_ _ | refine blk_drew ?_ | refine blk_alloc ?_ _)); exact BK211.out⟩, ⟨by repeat (first | (with_reducible first | exact HB.out | apply below_alloc | apply pw_below_drewN | apply below_drew1 | refine below_set ?_ GE207.out | refine below_set ?_ GE208.out | refine below_set ?_ GE209.out | refine below_set ?_ GE210.out | refine below_set ?_ GE211.out) | exact HB.out)⟩⟩
        · replace c18 := Bool.eq_false_iff.mpr c18
          subst c18
          have H1 : (valancelaw10_StickWithin.j0 k true true a0_0 a0_1 a1_0 a1_1 a2_0 a2_1 a3_0 a3_1 a4_0 a4_1) = some r := by rw [if_neg (show ¬ (false = true) by decide)] at H; exact H
          clear H
          have H := H1
          clear H1
          have H' := Aside0.mk H
          clear H
          have hnb109 := NB207_208.out
          have hnc109 := NB208_207.out
          have hnb110 := NB207_209.out
          have hnc110 := NB209_207.out
          have hnb111 := NB207_210.out
          have hnc111 := NB210_207.out
          have hnb112 := NB207_211.out
          have hnc112 := NB211_207.out
          have hcz113_0 : w14.cell? ⟨gb207, 0, none⟩ = some (.int .i64 a0_0) := (blk_cell BK207.out 0).trans rfl
          have hcz113_1 : w14.cell? ⟨gb207, 1, none⟩ = some (.int .i64 a0_1) := (blk_cell BK207.out 1).trans rfl
          have hfz113_0 := blk_frozen BK207.out 0
          have hfz113_1 := blk_frozen BK207.out 1
          go_wp2_with (first | ((with_reducible refine gate_callee (f := 23) rfl ?_); refine goesL_ (some 18) rfl rfl Try.func23 (by kernel_rfl) rfl #[.agg #[.int .i64 a0_0, .int .i64 a0_1]] rfl (by (try simp only [List.map_toArray, List.map_cons, List.map_nil]); first | done | rfl | (simp only [List.length_drop, List.length_take]; rfl)) ?_; (with_reducible refine (valancelaw10_small.calls a0_0 a0_1 true _ A15.out).mono ?_); rintro e w114 ⟨rfl, hb⟩; refine ⟨_, rfl, ?_⟩; have n0_ := Aside0.mk (blk_below (g := gb207) (o := .cells #[.int .i64 a0_0, .int .i64 a0_1] 23 (0, 0)) (by (with_reducible repeat (first | refine blk_drewN ?_ _ | refine blk_drew ?_ | refine blk_alloc ?_ _)); exact BK207.out) hb); have n1_ := Aside0.mk (blk_below (g := gb208) (o := .cells #[.int .i64 a1_0, .int .i64 a1_1] 23 (0, 0)) (by (with_reducible repeat (first | refine blk_drewN ?_ _ | refine blk_drew ?_ | refine blk_alloc ?_ _)); exact BK208.out) hb); have n2_ := Aside0.mk (blk_below (g := gb209) (o := .cells #[.int .i64 a2_0, .int .i64 a2_1] 23 (0, 0)) (by (with_reducible repeat (first | refine blk_drewN ?_ _ | refine blk_drew ?_ | refine blk_alloc ?_ _)); exact BK209.out) hb); have n3_ := Aside0.mk (blk_below (g := gb210) (o := .cells #[.bool a3_0, .int .i64 a3_1] 25 (0, 0)) (by (with_reducible repeat (first | refine blk_drewN ?_ _ | refine blk_drew ?_ | refine blk_alloc ?_ _)); exact BK210.out) hb); have n4_ := Aside0.mk (blk_below (g := gb211) (o := .cells #[.bool a4_0, .int .i64 a4_1] 25 (0, 0)) (by (with_reducible repeat (first | refine blk_drewN ?_ _ | refine blk_drew ?_ | refine blk_alloc ?_ _)); exact BK211.out) hb); have n5_ := Aside0.mk (below_step (by repeat (first | (with_reducible first | exact HB.out | apply below_alloc | apply pw_below_drewN | apply below_drew1 | refine below_set ?_ GE207.out | refine below_set ?_ GE208.out | refine below_set ?_ GE209.out | refine below_set ?_ GE210.out | refine below_set ?_ GE211.out) | exact HB.out)) hb); clear BK207; clear BK208; clear BK209; clear BK210; clear BK211; clear HB; have BK207 := n0_; have BK208 := n1_; have BK209 := n2_; have BK210 := n3_; have BK211 := n4_; have HB := n5_; clear n0_ n1_ n2_ n3_ n4_ n5_; (try clear hb); (try clear hb2); (try clear hk); (try clear hi); have hnb115 := NB208_209.out; have hnc115 := NB209_208.out; have hnb116 := NB208_210.out; have hnc116 := NB210_208.out; have hnb117 := NB208_211.out; have hnc117 := NB211_208.out; have hcz118_0 : w114.cell? ⟨gb208, 0, none⟩ = some (.int .i64 a1_0) := (blk_cell BK208.out 0).trans rfl; have hcz118_1 : w114.cell? ⟨gb208, 1, none⟩ = some (.int .i64 a1_1) := (blk_cell BK208.out 1).trans rfl; have hfz118_0 := blk_frozen BK208.out 0; have hfz118_1 := blk_frozen BK208.out 1) | (go_at_call 23; (with_reducible refine (valancelaw10_small.calls a1_0 a1_1 false _ A17.out).mono ?_); rintro e w119 ⟨rfl, hb⟩; have n0_ := Aside0.mk (blk_below (g := gb207) (o := .cells #[.int .i64 a0_0, .int .i64 a0_1] 23 (0, 0)) (by (with_reducible repeat (first | refine blk_drewN ?_ _ | refine blk_drew ?_ | refine blk_alloc ?_ _)); exact BK207.out) hb); have n1_ := Aside0.mk (blk_below (g := gb208) (o := .cells #[.int .i64 a1_0, .int .i64 a1_1] 23 (0, 0)) (by (with_reducible repeat (first | refine blk_drewN ?_ _ | refine blk_drew ?_ | refine blk_alloc ?_ _)); exact BK208.out) hb); have n2_ := Aside0.mk (blk_below (g := gb209) (o := .cells #[.int .i64 a2_0, .int .i64 a2_1] 23 (0, 0)) (by (with_reducible repeat (first | refine blk_drewN ?_ _ | refine blk_drew ?_ | refine blk_alloc ?_ _)); exact BK209.out) hb); have n3_ := Aside0.mk (blk_below (g := gb210) (o := .cells #[.bool a3_0, .int .i64 a3_1] 25 (0, 0)) (by (with_reducible repeat (first | refine blk_drewN ?_ _ | refine blk_drew ?_ | refine blk_alloc ?_ _)); exact BK210.out) hb); have n4_ := Aside0.mk (blk_below (g := gb211) (o := .cells #[.bool a4_0, .int .i64 a4_1] 25 (0, 0)) (by (with_reducible repeat (first | refine blk_drewN ?_ _ | refine blk_drew ?_ | refine blk_alloc ?_ _)); exact BK211.out) hb); have n5_ := Aside0.mk (below_step (by repeat (first | (with_reducible first | exact HB.out | apply below_alloc | apply pw_below_drewN | apply below_drew1 | refine below_set ?_ GE207.out | refine below_set ?_ GE208.out | refine below_set ?_ GE209.out | refine below_set ?_ GE210.out | refine below_set ?_ GE211.out) | exact HB.out)) hb); clear BK207; clear BK208; clear BK209; clear BK210; clear BK211; clear HB; have BK207 := n0_; have BK208 := n1_; have BK209 := n2_; have BK210 := n3_; have BK211 := n4_; have HB := n5_; clear n0_ n1_ n2_ n3_ n4_ n5_; (try clear hb); (try clear hb2); (try clear hk); (try clear hi)))
          go_meet
          case rel => exact ⟨_, (true), (by first | rfl | (simp; done) | (simp [*]; done)), H', ⟨by first | omega | exact Nat.le_refl _⟩, ⟨by (with_reducible repeat (first | refine blk_drewN ?_ _ | refine blk_drew ?_ | refine blk_alloc ?_ _)); exact BK207.out⟩, ⟨by (with_reducible repeat (first | refine blk_drewN ?_ _ | refine blk_drew ?_ | refine blk_alloc ?_ _)); exact BK208.out⟩, ⟨by (with_reducible repeat (first | refine blk_drewN ?_ _ | refine blk_drew ?_ | refine blk_alloc ?_ _)); exact BK209.out⟩, ⟨by (with_reducible repeat (first | refine blk_drewN ?_ _ | refine blk_drew ?_ | refine blk_alloc ?_ _)); exact BK210.out⟩, ⟨by (with_reducible repeat (first | refine blk_drewN ?_ _ | refine blk_drew ?_ | refine blk_alloc ?_ _)); exact BK211.out⟩, ⟨by repeat (first | (with_reducible first | exact HB.out | apply below_alloc | apply pw_below_drewN | apply below_drew1 | refine below_set ?_ GE207.out | refine below_set ?_ GE208.out | refine below_set ?_ GE209.out | refine below_set ?_ GE210.out | refine below_set ?_ GE211.out) | exact HB.out)⟩⟩
      · replace c16 := Bool.eq_false_iff.mpr c16
        subst c16
        have H1 : (valancelaw10_StickWithin.j0 k true true a0_0 a0_1 a1_0 a1_1 a2_0 a2_1 a3_0 a3_1 a4_0 a4_1) = some r := by rw [if_neg (show ¬ (false = true) by decide)] at H; exact H
        clear H
        have H := H1
        clear H1
        have H' := Aside0.mk H
        clear H
        have hnb120 := NB207_208.out
        have hnc120 := NB208_207.out
        have hnb121 := NB207_209.out
        have hnc121 := NB209_207.out
        have hnb122 := NB207_210.out
        have hnc122 := NB210_207.out
        have hnb123 := NB207_211.out
        have hnc123 := NB211_207.out
        have hcz124_0 : w14.cell? ⟨gb207, 0, none⟩ = some (.int .i64 a0_0) := (blk_cell BK207.out 0).trans rfl
        have hcz124_1 : w14.cell? ⟨gb207, 1, none⟩ = some (.int .i64 a0_1) := (blk_cell BK207.out 1).trans rfl
        have hfz124_0 := blk_frozen BK207.out 0
        have hfz124_1 := blk_frozen BK207.out 1
        go_wp2_with (first | ((with_reducible refine gate_callee (f := 23) rfl ?_); refine goesL_ (some 18) rfl rfl Try.func23 (by kernel_rfl) rfl #[.agg #[.int .i64 a0_0, .int .i64 a0_1]] rfl (by (try simp only [List.map_toArray, List.map_cons, List.map_nil]); first | done | rfl | (simp only [List.length_drop, List.length_take]; rfl)) ?_; (with_reducible refine (valancelaw10_small.calls a0_0 a0_1 false _ A15.out).mono ?_); rintro e w125 ⟨rfl, hb⟩; refine ⟨_, rfl, ?_⟩; have n0_ := Aside0.mk (blk_below (g := gb207) (o := .cells #[.int .i64 a0_0, .int .i64 a0_1] 23 (0, 0)) (by (with_reducible repeat (first | refine blk_drewN ?_ _ | refine blk_drew ?_ | refine blk_alloc ?_ _)); exact BK207.out) hb); have n1_ := Aside0.mk (blk_below (g := gb208) (o := .cells #[.int .i64 a1_0, .int .i64 a1_1] 23 (0, 0)) (by (with_reducible repeat (first | refine blk_drewN ?_ _ | refine blk_drew ?_ | refine blk_alloc ?_ _)); exact BK208.out) hb); have n2_ := Aside0.mk (blk_below (g := gb209) (o := .cells #[.int .i64 a2_0, .int .i64 a2_1] 23 (0, 0)) (by (with_reducible repeat (first | refine blk_drewN ?_ _ | refine blk_drew ?_ | refine blk_alloc ?_ _)); exact BK209.out) hb); have n3_ := Aside0.mk (blk_below (g := gb210) (o := .cells #[.bool a3_0, .int .i64 a3_1] 25 (0, 0)) (by (with_reducible repeat (first | refine blk_drewN ?_ _ | refine blk_drew ?_ | refine blk_alloc ?_ _)); exact BK210.out) hb); have n4_ := Aside0.mk (blk_below (g := gb211) (o := .cells #[.bool a4_0, .int .i64 a4_1] 25 (0, 0)) (by (with_reducible repeat (first | refine blk_drewN ?_ _ | refine blk_drew ?_ | refine blk_alloc ?_ _)); exact BK211.out) hb); have n5_ := Aside0.mk (below_step (by repeat (first | (with_reducible first | exact HB.out | apply below_alloc | apply pw_below_drewN | apply below_drew1 | refine below_set ?_ GE207.out | refine below_set ?_ GE208.out | refine below_set ?_ GE209.out | refine below_set ?_ GE210.out | refine below_set ?_ GE211.out) | exact HB.out)) hb); clear BK207; clear BK208; clear BK209; clear BK210; clear BK211; clear HB; have BK207 := n0_; have BK208 := n1_; have BK209 := n2_; have BK210 := n3_; have BK211 := n4_; have HB := n5_; clear n0_ n1_ n2_ n3_ n4_ n5_; (try clear hb); (try clear hb2); (try clear hk); (try clear hi)))
        go_meet
        case rel => exact ⟨_, (true), (by first | rfl | (simp; done) | (simp [*]; done)), H', ⟨by first | omega | exact Nat.le_refl _⟩, ⟨by (with_reducible repeat (first | refine blk_drewN ?_ _ | refine blk_drew ?_ | refine blk_alloc ?_ _)); exact BK207.out⟩, ⟨by (with_reducible repeat (first | refine blk_drewN ?_ _ | refine blk_drew ?_ | refine blk_alloc ?_ _)); exact BK208.out⟩, ⟨by (with_reducible repeat (first | refine blk_drewN ?_ _ | refine blk_drew ?_ | refine blk_alloc ?_ _)); exact BK209.out⟩, ⟨by (with_reducible repeat (first | refine blk_drewN ?_ _ | refine blk_drew ?_ | refine blk_alloc ?_ _)); exact BK210.out⟩, ⟨by (with_reducible repeat (first | refine blk_drewN ?_ _ | refine blk_drew ?_ | refine blk_alloc ?_ _)); exact BK211.out⟩, ⟨by repeat (first | (with_reducible first | exact HB.out | apply below_alloc | apply pw_below_drewN | apply below_drew1 | refine below_set ?_ GE207.out | refine below_set ?_ GE208.out | refine below_set ?_ GE209.out | refine below_set ?_ GE210.out | refine below_set ?_ GE211.out) | exact HB.out)⟩⟩
    case rest =>
      clear HC8
      try clear c1
      try clear c2
      try clear p2
      try clear c3
      try clear c4
      try clear c5
      try clear c6
      try clear c7
      try clear c8
      try clear c9
      try clear c10
      try clear c11
      try clear c12
      try clear c15
      try clear c16
      try clear c18
      try clear c20
      try clear c21
      try clear c21b0
      try clear c22
      try clear c23
      try clear c24
      try clear c25
      try clear c28
      try clear c29
      try clear c30
      try clear c33
      try clear c34
      try clear c37
      try clear c39
      try clear c39b0
      try clear c40
      try clear c41
      try clear c42
      try clear c43
      try clear c46
      try clear c47
      try clear c48
      try clear c51
      try clear c52
      try clear c55
      try clear c57
      try clear c57b0
      try clear c58
      try clear c59
      try clear c60
      try clear c61
      try clear c64
      try clear c65
      try clear c66
      try clear c69
      try clear c70
      try clear c73
      try clear c76
      try clear c77
      try clear c78
      try clear c79
      try clear c82
      try clear c83
      try clear c84
      try clear c87
      try clear c88
      try clear c91
      try clear c94
      try clear c95
      try clear c96
      try clear c97
      try clear c100
      try clear c101
      try clear c102
      try clear c105
      try clear c106
      try clear c109
      try clear c110
      try clear c111
      try clear c112
      try clear c115
      try clear c116
      try clear c117
      try clear c120
      try clear c121
      try clear c122
      try clear c123
      try clear hcz103_0
      try clear hcz103_1
      try clear hcz107_0
      try clear hcz107_1
      try clear hcz113_0
      try clear hcz113_1
      try clear hcz118_0
      try clear hcz118_1
      try clear hcz124_0
      try clear hcz124_1
      try clear hcz26_0
      try clear hcz26_1
      try clear hcz31_0
      try clear hcz31_1
      try clear hcz35_0
      try clear hcz35_1
      try clear hcz38_0
      try clear hcz38_1
      try clear hcz44_0
      try clear hcz44_1
      try clear hcz49_0
      try clear hcz49_1
      try clear hcz53_0
      try clear hcz53_1
      try clear hcz56_0
      try clear hcz56_1
      try clear hcz62_0
      try clear hcz62_1
      try clear hcz67_0
      try clear hcz67_1
      try clear hcz71_0
      try clear hcz71_1
      try clear hcz74_0
      try clear hcz74_1
      try clear hcz75_0
      try clear hcz75_1
      try clear hcz80_0
      try clear hcz80_1
      try clear hcz85_0
      try clear hcz85_1
      try clear hcz89_0
      try clear hcz89_1
      try clear hcz92_0
      try clear hcz92_1
      try clear hcz93_0
      try clear hcz93_1
      try clear hcz98_0
      try clear hcz98_1
      try clear hfz103_0
      try clear hfz103_1
      try clear hfz107_0
      try clear hfz107_1
      try clear hfz113_0
      try clear hfz113_1
      try clear hfz118_0
      try clear hfz118_1
      try clear hfz124_0
      try clear hfz124_1
      try clear hfz26_0
      try clear hfz26_1
      try clear hfz31_0
      try clear hfz31_1
      try clear hfz35_0
      try clear hfz35_1
      try clear hfz38_0
      try clear hfz38_1
      try clear hfz44_0
      try clear hfz44_1
      try clear hfz49_0
      try clear hfz49_1
      try clear hfz53_0
      try clear hfz53_1
      try clear hfz56_0
      try clear hfz56_1
      try clear hfz62_0
      try clear hfz62_1
      try clear hfz67_0
      try clear hfz67_1
      try clear hfz71_0
      try clear hfz71_1
      try clear hfz74_0
      try clear hfz74_1
      try clear hfz75_0
      try clear hfz75_1
      try clear hfz80_0
      try clear hfz80_1
      try clear hfz85_0
      try clear hfz85_1
      try clear hfz89_0
      try clear hfz89_1
      try clear hfz92_0
      try clear hfz92_1
      try clear hfz93_0
      try clear hfz93_1
      try clear hfz98_0
      try clear hfz98_1
      obtain ⟨kq, x49_7, rfl, HA, HJ7, BK207, BK208, BK209, BK210, BK211, HB⟩ := hcut
      cases kq with
      | zero => exact absurd HA.out (by simp [valancelaw10_StickWithin.j0])
      | succ kj7 =>
        have H := HA.out
        clear HA
        simp only [valancelaw10_StickWithin.j0] at H
        by_cases c126 : x49_7 = true
        · subst c126
          have H1 : (some true) = some r := by rw [if_pos rfl] at H; exact H
          clear H
          have H := H1
          clear H1
          obtain rfl := Option.some.inj H
          go_wp2
          go_ret
          exact ⟨by first | rfl | (simp [errW_none, errW_some] <;> rfl) | (simp [*, errW_none, errW_some] <;> rfl), by repeat (first | (with_reducible first | exact HB.out | apply below_alloc | apply pw_below_drewN | apply below_drew1 | refine below_set ?_ GE207.out | refine below_set ?_ GE208.out | refine below_set ?_ GE209.out | refine below_set ?_ GE210.out | refine below_set ?_ GE211.out) | exact HB.out)⟩
        · replace c126 := Bool.eq_false_iff.mpr c126
          subst c126
          have H1 : ((stick_Shift.f kj7 a0_0 a0_1 a1_0 a1_1 a2_0 a2_1 a3_0 a3_1 a4_0 a4_1).bind fun t216 => (if a0_0 ≥ a1_0 then (if a0_1 ≤ a1_1 then (if (wrap64 (a0_0 + t216)) < a1_0 then (none) else (if (wrap64 (a0_1 + t216)) > a1_1 then (none) else (if true = true then (if t216 ≤ 0 then (if t216 ≥ 0 then (some true) else (some a4_0)) else (if a3_0 = true then (if t216 ≥ 0 then (some true) else (some a4_0)) else (none))) else (none)))) else (if true = true then (if t216 ≤ 0 then (if t216 ≥ 0 then (some true) else (some a4_0)) else (if a3_0 = true then (if t216 ≥ 0 then (some true) else (some a4_0)) else (none))) else (none))) else (if true = true then (if t216 ≤ 0 then (if t216 ≥ 0 then (some true) else (some a4_0)) else (if a3_0 = true then (if t216 ≥ 0 then (some true) else (some a4_0)) else (none))) else (none)))) = some r := by rw [if_neg (show ¬ (false = true) by decide)] at H; exact H
          clear H
          have H := H1
          clear H1
          replace H := Option.bind_eq_some_iff.mp H
          obtain ⟨t216, A1270, H⟩ := H
          replace H : (if a0_0 ≥ a1_0 then (if a0_1 ≤ a1_1 then (if (wrap64 (a0_0 + t216)) < a1_0 then (none) else (if (wrap64 (a0_1 + t216)) > a1_1 then (none) else (if true = true then (if t216 ≤ 0 then (if t216 ≥ 0 then (some true) else (some a4_0)) else (if a3_0 = true then (if t216 ≥ 0 then (some true) else (some a4_0)) else (none))) else (none)))) else (if true = true then (if t216 ≤ 0 then (if t216 ≥ 0 then (some true) else (some a4_0)) else (if a3_0 = true then (if t216 ≥ 0 then (some true) else (some a4_0)) else (none))) else (none))) else (if true = true then (if t216 ≤ 0 then (if t216 ≥ 0 then (some true) else (some a4_0)) else (if a3_0 = true then (if t216 ≥ 0 then (some true) else (some a4_0)) else (none))) else (none))) = some r := H
          have A127 := Aside0.mk A1270
          clear A1270
          by_cases c128 : a0_0 ≥ a1_0
          · rw [if_pos c128] at H
            have c128b0 : decide (a1_0 ≤ a0_0) = true := decide_eq_true c128
            clear c128
            by_cases c129 : a0_1 ≤ a1_1
            · rw [if_pos c129] at H
              have c129b0 : decide (a0_1 ≤ a1_1) = true := decide_eq_true c129
              clear c129
              by_cases c130 : (wrap64 (a0_0 + t216)) < a1_0
              · rw [if_pos c130] at H
                exact absurd H (by simp)
              · rw [if_neg c130] at H
                have c130b0 : decide ((wrap64 (a0_0 + t216)) < a1_0) = false := decide_eq_false c130
                clear c130
                by_cases c131 : (wrap64 (a0_1 + t216)) > a1_1
                · rw [if_pos c131] at H
                  exact absurd H (by simp)
                · rw [if_neg c131] at H
                  have c131b0 : decide (a1_1 < (wrap64 (a0_1 + t216))) = false := decide_eq_false c131
                  clear c131
                  by_cases c132 : true = true
                  · clear c132
                    have H1 : (if t216 ≤ 0 then (if t216 ≥ 0 then (some true) else (some a4_0)) else (if a3_0 = true then (if t216 ≥ 0 then (some true) else (some a4_0)) else (none))) = some r := by first | (rw [if_pos rfl] at H; exact H) | (rw [if_pos True.intro] at H; exact H)
                    clear H
                    have H := H1
                    clear H1
                    by_cases c133 : t216 ≤ 0
                    · rw [if_pos c133] at H
                      have c133b0 : decide (t216 ≤ 0) = true := decide_eq_true c133
                      clear c133
                      by_cases c134 : t216 ≥ 0
                      · rw [if_pos c134] at H
                        have c134b0 : decide (0 ≤ t216) = true := decide_eq_true c134
                        clear c134
                        obtain rfl := Option.some.inj H
                        have hnb135 := NB207_208.out
                        have hnc135 := NB208_207.out
                        have hnb136 := NB207_209.out
                        have hnc136 := NB209_207.out
                        have hnb137 := NB207_210.out
                        have hnc137 := NB210_207.out
                        have hnb138 := NB207_211.out
                        have hnc138 := NB211_207.out
                        have hcz139_0 : wc.cell? ⟨gb207, 0, none⟩ = some (.int .i64 a0_0) := (blk_cell BK207.out 0).trans rfl
                        have hcz139_1 : wc.cell? ⟨gb207, 1, none⟩ = some (.int .i64 a0_1) := (blk_cell BK207.out 1).trans rfl
                        have hfz139_0 := blk_frozen BK207.out 0
                        have hfz139_1 := blk_frozen BK207.out 1
                        have hnb140 := NB208_209.out
                        have hnc140 := NB209_208.out
                        have hnb141 := NB208_210.out
                        have hnc141 := NB210_208.out
                        have hnb142 := NB208_211.out
                        have hnc142 := NB211_208.out
                        have hcz143_0 : wc.cell? ⟨gb208, 0, none⟩ = some (.int .i64 a1_0) := (blk_cell BK208.out 0).trans rfl
                        have hcz143_1 : wc.cell? ⟨gb208, 1, none⟩ = some (.int .i64 a1_1) := (blk_cell BK208.out 1).trans rfl
                        have hfz143_0 := blk_frozen BK208.out 0
                        have hfz143_1 := blk_frozen BK208.out 1
                        have hnb144 := NB209_210.out
                        have hnc144 := NB210_209.out
                        have hnb145 := NB209_211.out
                        have hnc145 := NB211_209.out
                        have hcz146_0 : wc.cell? ⟨gb209, 0, none⟩ = some (.int .i64 a2_0) := (blk_cell BK209.out 0).trans rfl
                        have hcz146_1 : wc.cell? ⟨gb209, 1, none⟩ = some (.int .i64 a2_1) := (blk_cell BK209.out 1).trans rfl
                        have hfz146_0 := blk_frozen BK209.out 0
                        have hfz146_1 := blk_frozen BK209.out 1
                        have hnb147 := NB210_211.out
                        have hnc147 := NB211_210.out
                        have hcz148_0 : wc.cell? ⟨gb210, 0, none⟩ = some (.bool a3_0) := (blk_cell BK210.out 0).trans rfl
                        have hcz148_1 : wc.cell? ⟨gb210, 1, none⟩ = some (.int .i64 a3_1) := (blk_cell BK210.out 1).trans rfl
                        have hfz148_0 := blk_frozen BK210.out 0
                        have hfz148_1 := blk_frozen BK210.out 1
                        have hcz149_0 : wc.cell? ⟨gb211, 0, none⟩ = some (.bool a4_0) := (blk_cell BK211.out 0).trans rfl
                        have hcz149_1 : wc.cell? ⟨gb211, 1, none⟩ = some (.int .i64 a4_1) := (blk_cell BK211.out 1).trans rfl
                        have hfz149_0 := blk_frozen BK211.out 0
                        have hfz149_1 := blk_frozen BK211.out 1
                        go_wp2_with (first | ((with_reducible refine gate_callee (f := 16) rfl ?_); refine goesL_ (some 56) rfl rfl Try.func16 (by kernel_rfl) rfl #[.agg #[.int .i64 a0_0, .int .i64 a0_1], .agg #[.int .i64 a1_0, .int .i64 a1_1], .agg #[.int .i64 a2_0, .int .i64 a2_1], .agg #[.bool a3_0, .int .i64 a3_1], .agg #[.bool a4_0, .int .i64 a4_1]] rfl (by (try simp only [List.map_toArray, List.map_cons, List.map_nil]); first | done | rfl | (simp only [List.length_drop, List.length_take]; rfl)) ?_; (with_reducible refine (stick_Shift.calls kj7 a0_0 a0_1 a1_0 a1_1 a2_0 a2_1 a3_0 a3_1 a4_0 a4_1 t216 _ A127.out).mono ?_); rintro e w150 ⟨rfl, hb⟩; refine ⟨_, rfl, ?_⟩; have n0_ := Aside0.mk (blk_below (g := gb207) (o := .cells #[.int .i64 a0_0, .int .i64 a0_1] 23 (0, 0)) (by (with_reducible repeat (first | refine blk_drewN ?_ _ | refine blk_drew ?_ | refine blk_alloc ?_ _)); exact BK207.out) hb); have n1_ := Aside0.mk (blk_below (g := gb208) (o := .cells #[.int .i64 a1_0, .int .i64 a1_1] 23 (0, 0)) (by (with_reducible repeat (first | refine blk_drewN ?_ _ | refine blk_drew ?_ | refine blk_alloc ?_ _)); exact BK208.out) hb); have n2_ := Aside0.mk (blk_below (g := gb209) (o := .cells #[.int .i64 a2_0, .int .i64 a2_1] 23 (0, 0)) (by (with_reducible repeat (first | refine blk_drewN ?_ _ | refine blk_drew ?_ | refine blk_alloc ?_ _)); exact BK209.out) hb); have n3_ := Aside0.mk (blk_below (g := gb210) (o := .cells #[.bool a3_0, .int .i64 a3_1] 25 (0, 0)) (by (with_reducible repeat (first | refine blk_drewN ?_ _ | refine blk_drew ?_ | refine blk_alloc ?_ _)); exact BK210.out) hb); have n4_ := Aside0.mk (blk_below (g := gb211) (o := .cells #[.bool a4_0, .int .i64 a4_1] 25 (0, 0)) (by (with_reducible repeat (first | refine blk_drewN ?_ _ | refine blk_drew ?_ | refine blk_alloc ?_ _)); exact BK211.out) hb); have n5_ := Aside0.mk (below_step (by repeat (first | (with_reducible first | exact HB.out | apply below_alloc | apply pw_below_drewN | apply below_drew1 | refine below_set ?_ GE207.out | refine below_set ?_ GE208.out | refine below_set ?_ GE209.out | refine below_set ?_ GE210.out | refine below_set ?_ GE211.out) | exact HB.out)) hb); clear BK207; clear BK208; clear BK209; clear BK210; clear BK211; clear HB; have BK207 := n0_; have BK208 := n1_; have BK209 := n2_; have BK210 := n3_; have BK211 := n4_; have HB := n5_; clear n0_ n1_ n2_ n3_ n4_ n5_; (try clear hb); (try clear hb2); (try clear hk); (try clear hi); have hcz151_0 : w150.cell? ⟨gb207, 0, none⟩ = some (.int .i64 a0_0) := (blk_cell BK207.out 0).trans rfl; have hcz151_1 : w150.cell? ⟨gb207, 1, none⟩ = some (.int .i64 a0_1) := (blk_cell BK207.out 1).trans rfl; have hfz151_0 := blk_frozen BK207.out 0; have hfz151_1 := blk_frozen BK207.out 1; have hcz152_0 : w150.cell? ⟨gb208, 0, none⟩ = some (.int .i64 a1_0) := (blk_cell BK208.out 0).trans rfl; have hcz152_1 : w150.cell? ⟨gb208, 1, none⟩ = some (.int .i64 a1_1) := (blk_cell BK208.out 1).trans rfl; have hfz152_0 := blk_frozen BK208.out 0; have hfz152_1 := blk_frozen BK208.out 1))
                        go_ret
                        exact ⟨by first | rfl | (simp [errW_none, errW_some] <;> rfl) | (simp [*, errW_none, errW_some] <;> rfl), by repeat (first | (with_reducible first | exact HB.out | apply below_alloc | apply pw_below_drewN | apply below_drew1 | refine below_set ?_ GE207.out | refine below_set ?_ GE208.out | refine below_set ?_ GE209.out | refine below_set ?_ GE210.out | refine below_set ?_ GE211.out) | exact HB.out)⟩
                      · rw [if_neg c134] at H
                        have c134b0 : decide (0 ≤ t216) = false := decide_eq_false c134
                        clear c134
                        obtain rfl := Option.some.inj H
                        have hnb153 := NB207_208.out
                        have hnc153 := NB208_207.out
                        have hnb154 := NB207_209.out
                        have hnc154 := NB209_207.out
                        have hnb155 := NB207_210.out
                        have hnc155 := NB210_207.out
                        have hnb156 := NB207_211.out
                        have hnc156 := NB211_207.out
                        have hcz157_0 : wc.cell? ⟨gb207, 0, none⟩ = some (.int .i64 a0_0) := (blk_cell BK207.out 0).trans rfl
                        have hcz157_1 : wc.cell? ⟨gb207, 1, none⟩ = some (.int .i64 a0_1) := (blk_cell BK207.out 1).trans rfl
                        have hfz157_0 := blk_frozen BK207.out 0
                        have hfz157_1 := blk_frozen BK207.out 1
                        have hnb158 := NB208_209.out
                        have hnc158 := NB209_208.out
                        have hnb159 := NB208_210.out
                        have hnc159 := NB210_208.out
                        have hnb160 := NB208_211.out
                        have hnc160 := NB211_208.out
                        have hcz161_0 : wc.cell? ⟨gb208, 0, none⟩ = some (.int .i64 a1_0) := (blk_cell BK208.out 0).trans rfl
                        have hcz161_1 : wc.cell? ⟨gb208, 1, none⟩ = some (.int .i64 a1_1) := (blk_cell BK208.out 1).trans rfl
                        have hfz161_0 := blk_frozen BK208.out 0
                        have hfz161_1 := blk_frozen BK208.out 1
                        have hnb162 := NB209_210.out
                        have hnc162 := NB210_209.out
                        have hnb163 := NB209_211.out
                        have hnc163 := NB211_209.out
                        have hcz164_0 : wc.cell? ⟨gb209, 0, none⟩ = some (.int .i64 a2_0) := (blk_cell BK209.out 0).trans rfl
                        have hcz164_1 : wc.cell? ⟨gb209, 1, none⟩ = some (.int .i64 a2_1) := (blk_cell BK209.out 1).trans rfl
                        have hfz164_0 := blk_frozen BK209.out 0
                        have hfz164_1 := blk_frozen BK209.out 1
                        have hnb165 := NB210_211.out
                        have hnc165 := NB211_210.out
                        have hcz166_0 : wc.cell? ⟨gb210, 0, none⟩ = some (.bool a3_0) := (blk_cell BK210.out 0).trans rfl
                        have hcz166_1 : wc.cell? ⟨gb210, 1, none⟩ = some (.int .i64 a3_1) := (blk_cell BK210.out 1).trans rfl
                        have hfz166_0 := blk_frozen BK210.out 0
                        have hfz166_1 := blk_frozen BK210.out 1
                        have hcz167_0 : wc.cell? ⟨gb211, 0, none⟩ = some (.bool a4_0) := (blk_cell BK211.out 0).trans rfl
                        have hcz167_1 : wc.cell? ⟨gb211, 1, none⟩ = some (.int .i64 a4_1) := (blk_cell BK211.out 1).trans rfl
                        have hfz167_0 := blk_frozen BK211.out 0
                        have hfz167_1 := blk_frozen BK211.out 1
                        go_wp2_with (first | ((with_reducible refine gate_callee (f := 16) rfl ?_); refine goesL_ (some 56) rfl rfl Try.func16 (by kernel_rfl) rfl #[.agg #[.int .i64 a0_0, .int .i64 a0_1], .agg #[.int .i64 a1_0, .int .i64 a1_1], .agg #[.int .i64 a2_0, .int .i64 a2_1], .agg #[.bool a3_0, .int .i64 a3_1], .agg #[.bool a4_0, .int .i64 a4_1]] rfl (by (try simp only [List.map_toArray, List.map_cons, List.map_nil]); first | done | rfl | (simp only [List.length_drop, List.length_take]; rfl)) ?_; (with_reducible refine (stick_Shift.calls kj7 a0_0 a0_1 a1_0 a1_1 a2_0 a2_1 a3_0 a3_1 a4_0 a4_1 t216 _ A127.out).mono ?_); rintro e w168 ⟨rfl, hb⟩; refine ⟨_, rfl, ?_⟩; have n0_ := Aside0.mk (blk_below (g := gb207) (o := .cells #[.int .i64 a0_0, .int .i64 a0_1] 23 (0, 0)) (by (with_reducible repeat (first | refine blk_drewN ?_ _ | refine blk_drew ?_ | refine blk_alloc ?_ _)); exact BK207.out) hb); have n1_ := Aside0.mk (blk_below (g := gb208) (o := .cells #[.int .i64 a1_0, .int .i64 a1_1] 23 (0, 0)) (by (with_reducible repeat (first | refine blk_drewN ?_ _ | refine blk_drew ?_ | refine blk_alloc ?_ _)); exact BK208.out) hb); have n2_ := Aside0.mk (blk_below (g := gb209) (o := .cells #[.int .i64 a2_0, .int .i64 a2_1] 23 (0, 0)) (by (with_reducible repeat (first | refine blk_drewN ?_ _ | refine blk_drew ?_ | refine blk_alloc ?_ _)); exact BK209.out) hb); have n3_ := Aside0.mk (blk_below (g := gb210) (o := .cells #[.bool a3_0, .int .i64 a3_1] 25 (0, 0)) (by (with_reducible repeat (first | refine blk_drewN ?_ _ | refine blk_drew ?_ | refine blk_alloc ?_ _)); exact BK210.out) hb); have n4_ := Aside0.mk (blk_below (g := gb211) (o := .cells #[.bool a4_0, .int .i64 a4_1] 25 (0, 0)) (by (with_reducible repeat (first | refine blk_drewN ?_ _ | refine blk_drew ?_ | refine blk_alloc ?_ _)); exact BK211.out) hb); have n5_ := Aside0.mk (below_step (by repeat (first | (with_reducible first | exact HB.out | apply below_alloc | apply pw_below_drewN | apply below_drew1 | refine below_set ?_ GE207.out | refine below_set ?_ GE208.out | refine below_set ?_ GE209.out | refine below_set ?_ GE210.out | refine below_set ?_ GE211.out) | exact HB.out)) hb); clear BK207; clear BK208; clear BK209; clear BK210; clear BK211; clear HB; have BK207 := n0_; have BK208 := n1_; have BK209 := n2_; have BK210 := n3_; have BK211 := n4_; have HB := n5_; clear n0_ n1_ n2_ n3_ n4_ n5_; (try clear hb); (try clear hb2); (try clear hk); (try clear hi); have hcz169_0 : w168.cell? ⟨gb207, 0, none⟩ = some (.int .i64 a0_0) := (blk_cell BK207.out 0).trans rfl; have hcz169_1 : w168.cell? ⟨gb207, 1, none⟩ = some (.int .i64 a0_1) := (blk_cell BK207.out 1).trans rfl; have hfz169_0 := blk_frozen BK207.out 0; have hfz169_1 := blk_frozen BK207.out 1; have hcz170_0 : w168.cell? ⟨gb208, 0, none⟩ = some (.int .i64 a1_0) := (blk_cell BK208.out 0).trans rfl; have hcz170_1 : w168.cell? ⟨gb208, 1, none⟩ = some (.int .i64 a1_1) := (blk_cell BK208.out 1).trans rfl; have hfz170_0 := blk_frozen BK208.out 0; have hfz170_1 := blk_frozen BK208.out 1; have hcz171_0 : w168.cell? ⟨gb211, 0, none⟩ = some (.bool a4_0) := (blk_cell BK211.out 0).trans rfl; have hcz171_1 : w168.cell? ⟨gb211, 1, none⟩ = some (.int .i64 a4_1) := (blk_cell BK211.out 1).trans rfl; have hfz171_0 := blk_frozen BK211.out 0; have hfz171_1 := blk_frozen BK211.out 1))
                        go_ret
                        exact ⟨by first | rfl | (simp [errW_none, errW_some] <;> rfl) | (simp [*, errW_none, errW_some] <;> rfl), by repeat (first | (with_reducible first | exact HB.out | apply below_alloc | apply pw_below_drewN | apply below_drew1 | refine below_set ?_ GE207.out | refine below_set ?_ GE208.out | refine below_set ?_ GE209.out | refine below_set ?_ GE210.out | refine below_set ?_ GE211.out) | exact HB.out)⟩
                    · rw [if_neg c133] at H
                      have c133b0 : decide (t216 ≤ 0) = false := decide_eq_false c133
                      clear c133
                      by_cases c172 : a3_0 = true
                      · subst c172
                        have H1 : (if t216 ≥ 0 then (some true) else (some a4_0)) = some r := by first | (rw [if_pos rfl] at H; exact H) | (rw [if_pos True.intro] at H; exact H)
                        clear H
                        have H := H1
                        clear H1
                        by_cases c173 : t216 ≥ 0
                        · rw [if_pos c173] at H
                          have c173b0 : decide (0 ≤ t216) = true := decide_eq_true c173
                          clear c173
                          obtain rfl := Option.some.inj H
                          have hnb174 := NB207_208.out
                          have hnc174 := NB208_207.out
                          have hnb175 := NB207_209.out
                          have hnc175 := NB209_207.out
                          have hnb176 := NB207_210.out
                          have hnc176 := NB210_207.out
                          have hnb177 := NB207_211.out
                          have hnc177 := NB211_207.out
                          have hcz178_0 : wc.cell? ⟨gb207, 0, none⟩ = some (.int .i64 a0_0) := (blk_cell BK207.out 0).trans rfl
                          have hcz178_1 : wc.cell? ⟨gb207, 1, none⟩ = some (.int .i64 a0_1) := (blk_cell BK207.out 1).trans rfl
                          have hfz178_0 := blk_frozen BK207.out 0
                          have hfz178_1 := blk_frozen BK207.out 1
                          have hnb179 := NB208_209.out
                          have hnc179 := NB209_208.out
                          have hnb180 := NB208_210.out
                          have hnc180 := NB210_208.out
                          have hnb181 := NB208_211.out
                          have hnc181 := NB211_208.out
                          have hcz182_0 : wc.cell? ⟨gb208, 0, none⟩ = some (.int .i64 a1_0) := (blk_cell BK208.out 0).trans rfl
                          have hcz182_1 : wc.cell? ⟨gb208, 1, none⟩ = some (.int .i64 a1_1) := (blk_cell BK208.out 1).trans rfl
                          have hfz182_0 := blk_frozen BK208.out 0
                          have hfz182_1 := blk_frozen BK208.out 1
                          have hnb183 := NB209_210.out
                          have hnc183 := NB210_209.out
                          have hnb184 := NB209_211.out
                          have hnc184 := NB211_209.out
                          have hcz185_0 : wc.cell? ⟨gb209, 0, none⟩ = some (.int .i64 a2_0) := (blk_cell BK209.out 0).trans rfl
                          have hcz185_1 : wc.cell? ⟨gb209, 1, none⟩ = some (.int .i64 a2_1) := (blk_cell BK209.out 1).trans rfl
                          have hfz185_0 := blk_frozen BK209.out 0
                          have hfz185_1 := blk_frozen BK209.out 1
                          have hnb186 := NB210_211.out
                          have hnc186 := NB211_210.out
                          have hcz187_0 : wc.cell? ⟨gb210, 0, none⟩ = some (.bool true) := (blk_cell BK210.out 0).trans rfl
                          have hcz187_1 : wc.cell? ⟨gb210, 1, none⟩ = some (.int .i64 a3_1) := (blk_cell BK210.out 1).trans rfl
                          have hfz187_0 := blk_frozen BK210.out 0
                          have hfz187_1 := blk_frozen BK210.out 1
                          have hcz188_0 : wc.cell? ⟨gb211, 0, none⟩ = some (.bool a4_0) := (blk_cell BK211.out 0).trans rfl
                          have hcz188_1 : wc.cell? ⟨gb211, 1, none⟩ = some (.int .i64 a4_1) := (blk_cell BK211.out 1).trans rfl
                          have hfz188_0 := blk_frozen BK211.out 0
                          have hfz188_1 := blk_frozen BK211.out 1
                          go_wp2_with (first | ((with_reducible refine gate_callee (f := 16) rfl ?_); refine goesL_ (some 56) rfl rfl Try.func16 (by kernel_rfl) rfl #[.agg #[.int .i64 a0_0, .int .i64 a0_1], .agg #[.int .i64 a1_0, .int .i64 a1_1], .agg #[.int .i64 a2_0, .int .i64 a2_1], .agg #[.bool true, .int .i64 a3_1], .agg #[.bool a4_0, .int .i64 a4_1]] rfl (by (try simp only [List.map_toArray, List.map_cons, List.map_nil]); first | done | rfl | (simp only [List.length_drop, List.length_take]; rfl)) ?_; (with_reducible refine (stick_Shift.calls kj7 a0_0 a0_1 a1_0 a1_1 a2_0 a2_1 true a3_1 a4_0 a4_1 t216 _ A127.out).mono ?_); rintro e w189 ⟨rfl, hb⟩; refine ⟨_, rfl, ?_⟩; have n0_ := Aside0.mk (blk_below (g := gb207) (o := .cells #[.int .i64 a0_0, .int .i64 a0_1] 23 (0, 0)) (by (with_reducible repeat (first | refine blk_drewN ?_ _ | refine blk_drew ?_ | refine blk_alloc ?_ _)); exact BK207.out) hb); have n1_ := Aside0.mk (blk_below (g := gb208) (o := .cells #[.int .i64 a1_0, .int .i64 a1_1] 23 (0, 0)) (by (with_reducible repeat (first | refine blk_drewN ?_ _ | refine blk_drew ?_ | refine blk_alloc ?_ _)); exact BK208.out) hb); have n2_ := Aside0.mk (blk_below (g := gb209) (o := .cells #[.int .i64 a2_0, .int .i64 a2_1] 23 (0, 0)) (by (with_reducible repeat (first | refine blk_drewN ?_ _ | refine blk_drew ?_ | refine blk_alloc ?_ _)); exact BK209.out) hb); have n3_ := Aside0.mk (blk_below (g := gb210) (o := .cells #[.bool true, .int .i64 a3_1] 25 (0, 0)) (by (with_reducible repeat (first | refine blk_drewN ?_ _ | refine blk_drew ?_ | refine blk_alloc ?_ _)); exact BK210.out) hb); have n4_ := Aside0.mk (blk_below (g := gb211) (o := .cells #[.bool a4_0, .int .i64 a4_1] 25 (0, 0)) (by (with_reducible repeat (first | refine blk_drewN ?_ _ | refine blk_drew ?_ | refine blk_alloc ?_ _)); exact BK211.out) hb); have n5_ := Aside0.mk (below_step (by repeat (first | (with_reducible first | exact HB.out | apply below_alloc | apply pw_below_drewN | apply below_drew1 | refine below_set ?_ GE207.out | refine below_set ?_ GE208.out | refine below_set ?_ GE209.out | refine below_set ?_ GE210.out | refine below_set ?_ GE211.out) | exact HB.out)) hb); clear BK207; clear BK208; clear BK209; clear BK210; clear BK211; clear HB; have BK207 := n0_; have BK208 := n1_; have BK209 := n2_; have BK210 := n3_; have BK211 := n4_; have HB := n5_; clear n0_ n1_ n2_ n3_ n4_ n5_; (try clear hb); (try clear hb2); (try clear hk); (try clear hi); have hcz190_0 : w189.cell? ⟨gb207, 0, none⟩ = some (.int .i64 a0_0) := (blk_cell BK207.out 0).trans rfl; have hcz190_1 : w189.cell? ⟨gb207, 1, none⟩ = some (.int .i64 a0_1) := (blk_cell BK207.out 1).trans rfl; have hfz190_0 := blk_frozen BK207.out 0; have hfz190_1 := blk_frozen BK207.out 1; have hcz191_0 : w189.cell? ⟨gb208, 0, none⟩ = some (.int .i64 a1_0) := (blk_cell BK208.out 0).trans rfl; have hcz191_1 : w189.cell? ⟨gb208, 1, none⟩ = some (.int .i64 a1_1) := (blk_cell BK208.out 1).trans rfl; have hfz191_0 := blk_frozen BK208.out 0; have hfz191_1 := blk_frozen BK208.out 1; have hcz192_0 : w189.cell? ⟨gb210, 0, none⟩ = some (.bool true) := (blk_cell BK210.out 0).trans rfl; have hcz192_1 : w189.cell? ⟨gb210, 1, none⟩ = some (.int .i64 a3_1) := (blk_cell BK210.out 1).trans rfl; have hfz192_0 := blk_frozen BK210.out 0; have hfz192_1 := blk_frozen BK210.out 1))
                          go_ret
                          exact ⟨by first | rfl | (simp [errW_none, errW_some] <;> rfl) | (simp [*, errW_none, errW_some] <;> rfl), by repeat (first | (with_reducible first | exact HB.out | apply below_alloc | apply pw_below_drewN | apply below_drew1 | refine below_set ?_ GE207.out | refine below_set ?_ GE208.out | refine below_set ?_ GE209.out | refine below_set ?_ GE210.out | refine below_set ?_ GE211.out) | exact HB.out)⟩
                        · rw [if_neg c173] at H
                          have c173b0 : decide (0 ≤ t216) = false := decide_eq_false c173
                          clear c173
                          obtain rfl := Option.some.inj H
                          have hnb193 := NB207_208.out
                          have hnc193 := NB208_207.out
                          have hnb194 := NB207_209.out
                          have hnc194 := NB209_207.out
                          have hnb195 := NB207_210.out
                          have hnc195 := NB210_207.out
                          have hnb196 := NB207_211.out
                          have hnc196 := NB211_207.out
                          have hcz197_0 : wc.cell? ⟨gb207, 0, none⟩ = some (.int .i64 a0_0) := (blk_cell BK207.out 0).trans rfl
                          have hcz197_1 : wc.cell? ⟨gb207, 1, none⟩ = some (.int .i64 a0_1) := (blk_cell BK207.out 1).trans rfl
                          have hfz197_0 := blk_frozen BK207.out 0
                          have hfz197_1 := blk_frozen BK207.out 1
                          have hnb198 := NB208_209.out
                          have hnc198 := NB209_208.out
                          have hnb199 := NB208_210.out
                          have hnc199 := NB210_208.out
                          have hnb200 := NB208_211.out
                          have hnc200 := NB211_208.out
                          have hcz201_0 : wc.cell? ⟨gb208, 0, none⟩ = some (.int .i64 a1_0) := (blk_cell BK208.out 0).trans rfl
                          have hcz201_1 : wc.cell? ⟨gb208, 1, none⟩ = some (.int .i64 a1_1) := (blk_cell BK208.out 1).trans rfl
                          have hfz201_0 := blk_frozen BK208.out 0
                          have hfz201_1 := blk_frozen BK208.out 1
                          have hnb202 := NB209_210.out
                          have hnc202 := NB210_209.out
                          have hnb203 := NB209_211.out
                          have hnc203 := NB211_209.out
                          have hcz204_0 : wc.cell? ⟨gb209, 0, none⟩ = some (.int .i64 a2_0) := (blk_cell BK209.out 0).trans rfl
                          have hcz204_1 : wc.cell? ⟨gb209, 1, none⟩ = some (.int .i64 a2_1) := (blk_cell BK209.out 1).trans rfl
                          have hfz204_0 := blk_frozen BK209.out 0
                          have hfz204_1 := blk_frozen BK209.out 1
                          have hnb205 := NB210_211.out
                          have hnc205 := NB211_210.out
                          have hcz206_0 : wc.cell? ⟨gb210, 0, none⟩ = some (.bool true) := (blk_cell BK210.out 0).trans rfl
                          have hcz206_1 : wc.cell? ⟨gb210, 1, none⟩ = some (.int .i64 a3_1) := (blk_cell BK210.out 1).trans rfl
                          have hfz206_0 := blk_frozen BK210.out 0
                          have hfz206_1 := blk_frozen BK210.out 1
                          have hcz207_0 : wc.cell? ⟨gb211, 0, none⟩ = some (.bool a4_0) := (blk_cell BK211.out 0).trans rfl
                          have hcz207_1 : wc.cell? ⟨gb211, 1, none⟩ = some (.int .i64 a4_1) := (blk_cell BK211.out 1).trans rfl
                          have hfz207_0 := blk_frozen BK211.out 0
                          have hfz207_1 := blk_frozen BK211.out 1
                          go_wp2_with (first | ((with_reducible refine gate_callee (f := 16) rfl ?_); refine goesL_ (some 56) rfl rfl Try.func16 (by kernel_rfl) rfl #[.agg #[.int .i64 a0_0, .int .i64 a0_1], .agg #[.int .i64 a1_0, .int .i64 a1_1], .agg #[.int .i64 a2_0, .int .i64 a2_1], .agg #[.bool true, .int .i64 a3_1], .agg #[.bool a4_0, .int .i64 a4_1]] rfl (by (try simp only [List.map_toArray, List.map_cons, List.map_nil]); first | done | rfl | (simp only [List.length_drop, List.length_take]; rfl)) ?_; (with_reducible refine (stick_Shift.calls kj7 a0_0 a0_1 a1_0 a1_1 a2_0 a2_1 true a3_1 a4_0 a4_1 t216 _ A127.out).mono ?_); rintro e w208 ⟨rfl, hb⟩; refine ⟨_, rfl, ?_⟩; have n0_ := Aside0.mk (blk_below (g := gb207) (o := .cells #[.int .i64 a0_0, .int .i64 a0_1] 23 (0, 0)) (by (with_reducible repeat (first | refine blk_drewN ?_ _ | refine blk_drew ?_ | refine blk_alloc ?_ _)); exact BK207.out) hb); have n1_ := Aside0.mk (blk_below (g := gb208) (o := .cells #[.int .i64 a1_0, .int .i64 a1_1] 23 (0, 0)) (by (with_reducible repeat (first | refine blk_drewN ?_ _ | refine blk_drew ?_ | refine blk_alloc ?_ _)); exact BK208.out) hb); have n2_ := Aside0.mk (blk_below (g := gb209) (o := .cells #[.int .i64 a2_0, .int .i64 a2_1] 23 (0, 0)) (by (with_reducible repeat (first | refine blk_drewN ?_ _ | refine blk_drew ?_ | refine blk_alloc ?_ _)); exact BK209.out) hb); have n3_ := Aside0.mk (blk_below (g := gb210) (o := .cells #[.bool true, .int .i64 a3_1] 25 (0, 0)) (by (with_reducible repeat (first | refine blk_drewN ?_ _ | refine blk_drew ?_ | refine blk_alloc ?_ _)); exact BK210.out) hb); have n4_ := Aside0.mk (blk_below (g := gb211) (o := .cells #[.bool a4_0, .int .i64 a4_1] 25 (0, 0)) (by (with_reducible repeat (first | refine blk_drewN ?_ _ | refine blk_drew ?_ | refine blk_alloc ?_ _)); exact BK211.out) hb); have n5_ := Aside0.mk (below_step (by repeat (first | (with_reducible first | exact HB.out | apply below_alloc | apply pw_below_drewN | apply below_drew1 | refine below_set ?_ GE207.out | refine below_set ?_ GE208.out | refine below_set ?_ GE209.out | refine below_set ?_ GE210.out | refine below_set ?_ GE211.out) | exact HB.out)) hb); clear BK207; clear BK208; clear BK209; clear BK210; clear BK211; clear HB; have BK207 := n0_; have BK208 := n1_; have BK209 := n2_; have BK210 := n3_; have BK211 := n4_; have HB := n5_; clear n0_ n1_ n2_ n3_ n4_ n5_; (try clear hb); (try clear hb2); (try clear hk); (try clear hi); have hcz209_0 : w208.cell? ⟨gb207, 0, none⟩ = some (.int .i64 a0_0) := (blk_cell BK207.out 0).trans rfl; have hcz209_1 : w208.cell? ⟨gb207, 1, none⟩ = some (.int .i64 a0_1) := (blk_cell BK207.out 1).trans rfl; have hfz209_0 := blk_frozen BK207.out 0; have hfz209_1 := blk_frozen BK207.out 1; have hcz210_0 : w208.cell? ⟨gb208, 0, none⟩ = some (.int .i64 a1_0) := (blk_cell BK208.out 0).trans rfl; have hcz210_1 : w208.cell? ⟨gb208, 1, none⟩ = some (.int .i64 a1_1) := (blk_cell BK208.out 1).trans rfl; have hfz210_0 := blk_frozen BK208.out 0; have hfz210_1 := blk_frozen BK208.out 1; have hcz211_0 : w208.cell? ⟨gb210, 0, none⟩ = some (.bool true) := (blk_cell BK210.out 0).trans rfl; have hcz211_1 : w208.cell? ⟨gb210, 1, none⟩ = some (.int .i64 a3_1) := (blk_cell BK210.out 1).trans rfl; have hfz211_0 := blk_frozen BK210.out 0; have hfz211_1 := blk_frozen BK210.out 1; have hcz212_0 : w208.cell? ⟨gb211, 0, none⟩ = some (.bool a4_0) := (blk_cell BK211.out 0).trans rfl; have hcz212_1 : w208.cell? ⟨gb211, 1, none⟩ = some (.int .i64 a4_1) := (blk_cell BK211.out 1).trans rfl; have hfz212_0 := blk_frozen BK211.out 0; have hfz212_1 := blk_frozen BK211.out 1))
                          go_ret
                          exact ⟨by first | rfl | (simp [errW_none, errW_some] <;> rfl) | (simp [*, errW_none, errW_some] <;> rfl), by repeat (first | (with_reducible first | exact HB.out | apply below_alloc | apply pw_below_drewN | apply below_drew1 | refine below_set ?_ GE207.out | refine below_set ?_ GE208.out | refine below_set ?_ GE209.out | refine below_set ?_ GE210.out | refine below_set ?_ GE211.out) | exact HB.out)⟩
                      · replace c172 := Bool.eq_false_iff.mpr c172
                        subst c172
                        have H1 : (none) = some r := by rw [if_neg (show ¬ (false = true) by decide)] at H; exact H
                        clear H
                        have H := H1
                        clear H1
                        exact absurd H (by simp)
                  · exact absurd rfl c132
            · rw [if_neg c129] at H
              have c129b0 : decide (a0_1 ≤ a1_1) = false := decide_eq_false c129
              clear c129
              by_cases c213 : true = true
              · clear c213
                have H1 : (if t216 ≤ 0 then (if t216 ≥ 0 then (some true) else (some a4_0)) else (if a3_0 = true then (if t216 ≥ 0 then (some true) else (some a4_0)) else (none))) = some r := by first | (rw [if_pos rfl] at H; exact H) | (rw [if_pos True.intro] at H; exact H)
                clear H
                have H := H1
                clear H1
                by_cases c214 : t216 ≤ 0
                · rw [if_pos c214] at H
                  have c214b0 : decide (t216 ≤ 0) = true := decide_eq_true c214
                  clear c214
                  by_cases c215 : t216 ≥ 0
                  · rw [if_pos c215] at H
                    have c215b0 : decide (0 ≤ t216) = true := decide_eq_true c215
                    clear c215
                    obtain rfl := Option.some.inj H
                    have hnb216 := NB207_208.out
                    have hnc216 := NB208_207.out
                    have hnb217 := NB207_209.out
                    have hnc217 := NB209_207.out
                    have hnb218 := NB207_210.out
                    have hnc218 := NB210_207.out
                    have hnb219 := NB207_211.out
                    have hnc219 := NB211_207.out
                    have hcz220_0 : wc.cell? ⟨gb207, 0, none⟩ = some (.int .i64 a0_0) := (blk_cell BK207.out 0).trans rfl
                    have hcz220_1 : wc.cell? ⟨gb207, 1, none⟩ = some (.int .i64 a0_1) := (blk_cell BK207.out 1).trans rfl
                    have hfz220_0 := blk_frozen BK207.out 0
                    have hfz220_1 := blk_frozen BK207.out 1
                    have hnb221 := NB208_209.out
                    have hnc221 := NB209_208.out
                    have hnb222 := NB208_210.out
                    have hnc222 := NB210_208.out
                    have hnb223 := NB208_211.out
                    have hnc223 := NB211_208.out
                    have hcz224_0 : wc.cell? ⟨gb208, 0, none⟩ = some (.int .i64 a1_0) := (blk_cell BK208.out 0).trans rfl
                    have hcz224_1 : wc.cell? ⟨gb208, 1, none⟩ = some (.int .i64 a1_1) := (blk_cell BK208.out 1).trans rfl
                    have hfz224_0 := blk_frozen BK208.out 0
                    have hfz224_1 := blk_frozen BK208.out 1
                    have hnb225 := NB209_210.out
                    have hnc225 := NB210_209.out
                    have hnb226 := NB209_211.out
                    have hnc226 := NB211_209.out
                    have hcz227_0 : wc.cell? ⟨gb209, 0, none⟩ = some (.int .i64 a2_0) := (blk_cell BK209.out 0).trans rfl
                    have hcz227_1 : wc.cell? ⟨gb209, 1, none⟩ = some (.int .i64 a2_1) := (blk_cell BK209.out 1).trans rfl
                    have hfz227_0 := blk_frozen BK209.out 0
                    have hfz227_1 := blk_frozen BK209.out 1
                    have hnb228 := NB210_211.out
                    have hnc228 := NB211_210.out
                    have hcz229_0 : wc.cell? ⟨gb210, 0, none⟩ = some (.bool a3_0) := (blk_cell BK210.out 0).trans rfl
                    have hcz229_1 : wc.cell? ⟨gb210, 1, none⟩ = some (.int .i64 a3_1) := (blk_cell BK210.out 1).trans rfl
                    have hfz229_0 := blk_frozen BK210.out 0
                    have hfz229_1 := blk_frozen BK210.out 1
                    have hcz230_0 : wc.cell? ⟨gb211, 0, none⟩ = some (.bool a4_0) := (blk_cell BK211.out 0).trans rfl
                    have hcz230_1 : wc.cell? ⟨gb211, 1, none⟩ = some (.int .i64 a4_1) := (blk_cell BK211.out 1).trans rfl
                    have hfz230_0 := blk_frozen BK211.out 0
                    have hfz230_1 := blk_frozen BK211.out 1
                    go_wp2_with (first | ((with_reducible refine gate_callee (f := 16) rfl ?_); refine goesL_ (some 56) rfl rfl Try.func16 (by kernel_rfl) rfl #[.agg #[.int .i64 a0_0, .int .i64 a0_1], .agg #[.int .i64 a1_0, .int .i64 a1_1], .agg #[.int .i64 a2_0, .int .i64 a2_1], .agg #[.bool a3_0, .int .i64 a3_1], .agg #[.bool a4_0, .int .i64 a4_1]] rfl (by (try simp only [List.map_toArray, List.map_cons, List.map_nil]); first | done | rfl | (simp only [List.length_drop, List.length_take]; rfl)) ?_; (with_reducible refine (stick_Shift.calls kj7 a0_0 a0_1 a1_0 a1_1 a2_0 a2_1 a3_0 a3_1 a4_0 a4_1 t216 _ A127.out).mono ?_); rintro e w231 ⟨rfl, hb⟩; refine ⟨_, rfl, ?_⟩; have n0_ := Aside0.mk (blk_below (g := gb207) (o := .cells #[.int .i64 a0_0, .int .i64 a0_1] 23 (0, 0)) (by (with_reducible repeat (first | refine blk_drewN ?_ _ | refine blk_drew ?_ | refine blk_alloc ?_ _)); exact BK207.out) hb); have n1_ := Aside0.mk (blk_below (g := gb208) (o := .cells #[.int .i64 a1_0, .int .i64 a1_1] 23 (0, 0)) (by (with_reducible repeat (first | refine blk_drewN ?_ _ | refine blk_drew ?_ | refine blk_alloc ?_ _)); exact BK208.out) hb); have n2_ := Aside0.mk (blk_below (g := gb209) (o := .cells #[.int .i64 a2_0, .int .i64 a2_1] 23 (0, 0)) (by (with_reducible repeat (first | refine blk_drewN ?_ _ | refine blk_drew ?_ | refine blk_alloc ?_ _)); exact BK209.out) hb); have n3_ := Aside0.mk (blk_below (g := gb210) (o := .cells #[.bool a3_0, .int .i64 a3_1] 25 (0, 0)) (by (with_reducible repeat (first | refine blk_drewN ?_ _ | refine blk_drew ?_ | refine blk_alloc ?_ _)); exact BK210.out) hb); have n4_ := Aside0.mk (blk_below (g := gb211) (o := .cells #[.bool a4_0, .int .i64 a4_1] 25 (0, 0)) (by (with_reducible repeat (first | refine blk_drewN ?_ _ | refine blk_drew ?_ | refine blk_alloc ?_ _)); exact BK211.out) hb); have n5_ := Aside0.mk (below_step (by repeat (first | (with_reducible first | exact HB.out | apply below_alloc | apply pw_below_drewN | apply below_drew1 | refine below_set ?_ GE207.out | refine below_set ?_ GE208.out | refine below_set ?_ GE209.out | refine below_set ?_ GE210.out | refine below_set ?_ GE211.out) | exact HB.out)) hb); clear BK207; clear BK208; clear BK209; clear BK210; clear BK211; clear HB; have BK207 := n0_; have BK208 := n1_; have BK209 := n2_; have BK210 := n3_; have BK211 := n4_; have HB := n5_; clear n0_ n1_ n2_ n3_ n4_ n5_; (try clear hb); (try clear hb2); (try clear hk); (try clear hi); have hcz232_0 : w231.cell? ⟨gb207, 0, none⟩ = some (.int .i64 a0_0) := (blk_cell BK207.out 0).trans rfl; have hcz232_1 : w231.cell? ⟨gb207, 1, none⟩ = some (.int .i64 a0_1) := (blk_cell BK207.out 1).trans rfl; have hfz232_0 := blk_frozen BK207.out 0; have hfz232_1 := blk_frozen BK207.out 1; have hcz233_0 : w231.cell? ⟨gb208, 0, none⟩ = some (.int .i64 a1_0) := (blk_cell BK208.out 0).trans rfl; have hcz233_1 : w231.cell? ⟨gb208, 1, none⟩ = some (.int .i64 a1_1) := (blk_cell BK208.out 1).trans rfl; have hfz233_0 := blk_frozen BK208.out 0; have hfz233_1 := blk_frozen BK208.out 1))
                    go_ret
                    exact ⟨by first | rfl | (simp [errW_none, errW_some] <;> rfl) | (simp [*, errW_none, errW_some] <;> rfl), by repeat (first | (with_reducible first | exact HB.out | apply below_alloc | apply pw_below_drewN | apply below_drew1 | refine below_set ?_ GE207.out | refine below_set ?_ GE208.out | refine below_set ?_ GE209.out | refine below_set ?_ GE210.out | refine below_set ?_ GE211.out) | exact HB.out)⟩
                  · rw [if_neg c215] at H
                    have c215b0 : decide (0 ≤ t216) = false := decide_eq_false c215
                    clear c215
                    obtain rfl := Option.some.inj H
                    have hnb234 := NB207_208.out
                    have hnc234 := NB208_207.out
                    have hnb235 := NB207_209.out
                    have hnc235 := NB209_207.out
                    have hnb236 := NB207_210.out
                    have hnc236 := NB210_207.out
                    have hnb237 := NB207_211.out
                    have hnc237 := NB211_207.out
                    have hcz238_0 : wc.cell? ⟨gb207, 0, none⟩ = some (.int .i64 a0_0) := (blk_cell BK207.out 0).trans rfl
                    have hcz238_1 : wc.cell? ⟨gb207, 1, none⟩ = some (.int .i64 a0_1) := (blk_cell BK207.out 1).trans rfl
                    have hfz238_0 := blk_frozen BK207.out 0
                    have hfz238_1 := blk_frozen BK207.out 1
                    have hnb239 := NB208_209.out
                    have hnc239 := NB209_208.out
                    have hnb240 := NB208_210.out
                    have hnc240 := NB210_208.out
                    have hnb241 := NB208_211.out
                    have hnc241 := NB211_208.out
                    have hcz242_0 : wc.cell? ⟨gb208, 0, none⟩ = some (.int .i64 a1_0) := (blk_cell BK208.out 0).trans rfl
                    have hcz242_1 : wc.cell? ⟨gb208, 1, none⟩ = some (.int .i64 a1_1) := (blk_cell BK208.out 1).trans rfl
                    have hfz242_0 := blk_frozen BK208.out 0
                    have hfz242_1 := blk_frozen BK208.out 1
                    have hnb243 := NB209_210.out
                    have hnc243 := NB210_209.out
                    have hnb244 := NB209_211.out
                    have hnc244 := NB211_209.out
                    have hcz245_0 : wc.cell? ⟨gb209, 0, none⟩ = some (.int .i64 a2_0) := (blk_cell BK209.out 0).trans rfl
                    have hcz245_1 : wc.cell? ⟨gb209, 1, none⟩ = some (.int .i64 a2_1) := (blk_cell BK209.out 1).trans rfl
                    have hfz245_0 := blk_frozen BK209.out 0
                    have hfz245_1 := blk_frozen BK209.out 1
                    have hnb246 := NB210_211.out
                    have hnc246 := NB211_210.out
                    have hcz247_0 : wc.cell? ⟨gb210, 0, none⟩ = some (.bool a3_0) := (blk_cell BK210.out 0).trans rfl
                    have hcz247_1 : wc.cell? ⟨gb210, 1, none⟩ = some (.int .i64 a3_1) := (blk_cell BK210.out 1).trans rfl
                    have hfz247_0 := blk_frozen BK210.out 0
                    have hfz247_1 := blk_frozen BK210.out 1
                    have hcz248_0 : wc.cell? ⟨gb211, 0, none⟩ = some (.bool a4_0) := (blk_cell BK211.out 0).trans rfl
                    have hcz248_1 : wc.cell? ⟨gb211, 1, none⟩ = some (.int .i64 a4_1) := (blk_cell BK211.out 1).trans rfl
                    have hfz248_0 := blk_frozen BK211.out 0
                    have hfz248_1 := blk_frozen BK211.out 1
                    go_wp2_with (first | ((with_reducible refine gate_callee (f := 16) rfl ?_); refine goesL_ (some 56) rfl rfl Try.func16 (by kernel_rfl) rfl #[.agg #[.int .i64 a0_0, .int .i64 a0_1], .agg #[.int .i64 a1_0, .int .i64 a1_1], .agg #[.int .i64 a2_0, .int .i64 a2_1], .agg #[.bool a3_0, .int .i64 a3_1], .agg #[.bool a4_0, .int .i64 a4_1]] rfl (by (try simp only [List.map_toArray, List.map_cons, List.map_nil]); first | done | rfl | (simp only [List.length_drop, List.length_take]; rfl)) ?_; (with_reducible refine (stick_Shift.calls kj7 a0_0 a0_1 a1_0 a1_1 a2_0 a2_1 a3_0 a3_1 a4_0 a4_1 t216 _ A127.out).mono ?_); rintro e w249 ⟨rfl, hb⟩; refine ⟨_, rfl, ?_⟩; have n0_ := Aside0.mk (blk_below (g := gb207) (o := .cells #[.int .i64 a0_0, .int .i64 a0_1] 23 (0, 0)) (by (with_reducible repeat (first | refine blk_drewN ?_ _ | refine blk_drew ?_ | refine blk_alloc ?_ _)); exact BK207.out) hb); have n1_ := Aside0.mk (blk_below (g := gb208) (o := .cells #[.int .i64 a1_0, .int .i64 a1_1] 23 (0, 0)) (by (with_reducible repeat (first | refine blk_drewN ?_ _ | refine blk_drew ?_ | refine blk_alloc ?_ _)); exact BK208.out) hb); have n2_ := Aside0.mk (blk_below (g := gb209) (o := .cells #[.int .i64 a2_0, .int .i64 a2_1] 23 (0, 0)) (by (with_reducible repeat (first | refine blk_drewN ?_ _ | refine blk_drew ?_ | refine blk_alloc ?_ _)); exact BK209.out) hb); have n3_ := Aside0.mk (blk_below (g := gb210) (o := .cells #[.bool a3_0, .int .i64 a3_1] 25 (0, 0)) (by (with_reducible repeat (first | refine blk_drewN ?_ _ | refine blk_drew ?_ | refine blk_alloc ?_ _)); exact BK210.out) hb); have n4_ := Aside0.mk (blk_below (g := gb211) (o := .cells #[.bool a4_0, .int .i64 a4_1] 25 (0, 0)) (by (with_reducible repeat (first | refine blk_drewN ?_ _ | refine blk_drew ?_ | refine blk_alloc ?_ _)); exact BK211.out) hb); have n5_ := Aside0.mk (below_step (by repeat (first | (with_reducible first | exact HB.out | apply below_alloc | apply pw_below_drewN | apply below_drew1 | refine below_set ?_ GE207.out | refine below_set ?_ GE208.out | refine below_set ?_ GE209.out | refine below_set ?_ GE210.out | refine below_set ?_ GE211.out) | exact HB.out)) hb); clear BK207; clear BK208; clear BK209; clear BK210; clear BK211; clear HB; have BK207 := n0_; have BK208 := n1_; have BK209 := n2_; have BK210 := n3_; have BK211 := n4_; have HB := n5_; clear n0_ n1_ n2_ n3_ n4_ n5_; (try clear hb); (try clear hb2); (try clear hk); (try clear hi); have hcz250_0 : w249.cell? ⟨gb207, 0, none⟩ = some (.int .i64 a0_0) := (blk_cell BK207.out 0).trans rfl; have hcz250_1 : w249.cell? ⟨gb207, 1, none⟩ = some (.int .i64 a0_1) := (blk_cell BK207.out 1).trans rfl; have hfz250_0 := blk_frozen BK207.out 0; have hfz250_1 := blk_frozen BK207.out 1; have hcz251_0 : w249.cell? ⟨gb208, 0, none⟩ = some (.int .i64 a1_0) := (blk_cell BK208.out 0).trans rfl; have hcz251_1 : w249.cell? ⟨gb208, 1, none⟩ = some (.int .i64 a1_1) := (blk_cell BK208.out 1).trans rfl; have hfz251_0 := blk_frozen BK208.out 0; have hfz251_1 := blk_frozen BK208.out 1; have hcz252_0 : w249.cell? ⟨gb211, 0, none⟩ = some (.bool a4_0) := (blk_cell BK211.out 0).trans rfl; have hcz252_1 : w249.cell? ⟨gb211, 1, none⟩ = some (.int .i64 a4_1) := (blk_cell BK211.out 1).trans rfl; have hfz252_0 := blk_frozen BK211.out 0; have hfz252_1 := blk_frozen BK211.out 1))
                    go_ret
                    exact ⟨by first | rfl | (simp [errW_none, errW_some] <;> rfl) | (simp [*, errW_none, errW_some] <;> rfl), by repeat (first | (with_reducible first | exact HB.out | apply below_alloc | apply pw_below_drewN | apply below_drew1 | refine below_set ?_ GE207.out | refine below_set ?_ GE208.out | refine below_set ?_ GE209.out | refine below_set ?_ GE210.out | refine below_set ?_ GE211.out) | exact HB.out)⟩
                · rw [if_neg c214] at H
                  have c214b0 : decide (t216 ≤ 0) = false := decide_eq_false c214
                  clear c214
                  by_cases c253 : a3_0 = true
                  · subst c253
                    have H1 : (if t216 ≥ 0 then (some true) else (some a4_0)) = some r := by first | (rw [if_pos rfl] at H; exact H) | (rw [if_pos True.intro] at H; exact H)
                    clear H
                    have H := H1
                    clear H1
                    by_cases c254 : t216 ≥ 0
                    · rw [if_pos c254] at H
                      have c254b0 : decide (0 ≤ t216) = true := decide_eq_true c254
                      clear c254
                      obtain rfl := Option.some.inj H
                      have hnb255 := NB207_208.out
                      have hnc255 := NB208_207.out
                      have hnb256 := NB207_209.out
                      have hnc256 := NB209_207.out
                      have hnb257 := NB207_210.out
                      have hnc257 := NB210_207.out
                      have hnb258 := NB207_211.out
                      have hnc258 := NB211_207.out
                      have hcz259_0 : wc.cell? ⟨gb207, 0, none⟩ = some (.int .i64 a0_0) := (blk_cell BK207.out 0).trans rfl
                      have hcz259_1 : wc.cell? ⟨gb207, 1, none⟩ = some (.int .i64 a0_1) := (blk_cell BK207.out 1).trans rfl
                      have hfz259_0 := blk_frozen BK207.out 0
                      have hfz259_1 := blk_frozen BK207.out 1
                      have hnb260 := NB208_209.out
                      have hnc260 := NB209_208.out
                      have hnb261 := NB208_210.out
                      have hnc261 := NB210_208.out
                      have hnb262 := NB208_211.out
                      have hnc262 := NB211_208.out
                      have hcz263_0 : wc.cell? ⟨gb208, 0, none⟩ = some (.int .i64 a1_0) := (blk_cell BK208.out 0).trans rfl
                      have hcz263_1 : wc.cell? ⟨gb208, 1, none⟩ = some (.int .i64 a1_1) := (blk_cell BK208.out 1).trans rfl
                      have hfz263_0 := blk_frozen BK208.out 0
                      have hfz263_1 := blk_frozen BK208.out 1
                      have hnb264 := NB209_210.out
                      have hnc264 := NB210_209.out
                      have hnb265 := NB209_211.out
                      have hnc265 := NB211_209.out
                      have hcz266_0 : wc.cell? ⟨gb209, 0, none⟩ = some (.int .i64 a2_0) := (blk_cell BK209.out 0).trans rfl
                      have hcz266_1 : wc.cell? ⟨gb209, 1, none⟩ = some (.int .i64 a2_1) := (blk_cell BK209.out 1).trans rfl
                      have hfz266_0 := blk_frozen BK209.out 0
                      have hfz266_1 := blk_frozen BK209.out 1
                      have hnb267 := NB210_211.out
                      have hnc267 := NB211_210.out
                      have hcz268_0 : wc.cell? ⟨gb210, 0, none⟩ = some (.bool true) := (blk_cell BK210.out 0).trans rfl
                      have hcz268_1 : wc.cell? ⟨gb210, 1, none⟩ = some (.int .i64 a3_1) := (blk_cell BK210.out 1).trans rfl
                      have hfz268_0 := blk_frozen BK210.out 0
                      have hfz268_1 := blk_frozen BK210.out 1
                      have hcz269_0 : wc.cell? ⟨gb211, 0, none⟩ = some (.bool a4_0) := (blk_cell BK211.out 0).trans rfl
                      have hcz269_1 : wc.cell? ⟨gb211, 1, none⟩ = some (.int .i64 a4_1) := (blk_cell BK211.out 1).trans rfl
                      have hfz269_0 := blk_frozen BK211.out 0
                      have hfz269_1 := blk_frozen BK211.out 1
                      go_wp2_with (first | ((with_reducible refine gate_callee (f := 16) rfl ?_); refine goesL_ (some 56) rfl rfl Try.func16 (by kernel_rfl) rfl #[.agg #[.int .i64 a0_0, .int .i64 a0_1], .agg #[.int .i64 a1_0, .int .i64 a1_1], .agg #[.int .i64 a2_0, .int .i64 a2_1], .agg #[.bool true, .int .i64 a3_1], .agg #[.bool a4_0, .int .i64 a4_1]] rfl (by (try simp only [List.map_toArray, List.map_cons, List.map_nil]); first | done | rfl | (simp only [List.length_drop, List.length_take]; rfl)) ?_; (with_reducible refine (stick_Shift.calls kj7 a0_0 a0_1 a1_0 a1_1 a2_0 a2_1 true a3_1 a4_0 a4_1 t216 _ A127.out).mono ?_); rintro e w270 ⟨rfl, hb⟩; refine ⟨_, rfl, ?_⟩; have n0_ := Aside0.mk (blk_below (g := gb207) (o := .cells #[.int .i64 a0_0, .int .i64 a0_1] 23 (0, 0)) (by (with_reducible repeat (first | refine blk_drewN ?_ _ | refine blk_drew ?_ | refine blk_alloc ?_ _)); exact BK207.out) hb); have n1_ := Aside0.mk (blk_below (g := gb208) (o := .cells #[.int .i64 a1_0, .int .i64 a1_1] 23 (0, 0)) (by (with_reducible repeat (first | refine blk_drewN ?_ _ | refine blk_drew ?_ | refine blk_alloc ?_ _)); exact BK208.out) hb); have n2_ := Aside0.mk (blk_below (g := gb209) (o := .cells #[.int .i64 a2_0, .int .i64 a2_1] 23 (0, 0)) (by (with_reducible repeat (first | refine blk_drewN ?_ _ | refine blk_drew ?_ | refine blk_alloc ?_ _)); exact BK209.out) hb); have n3_ := Aside0.mk (blk_below (g := gb210) (o := .cells #[.bool true, .int .i64 a3_1] 25 (0, 0)) (by (with_reducible repeat (first | refine blk_drewN ?_ _ | refine blk_drew ?_ | refine blk_alloc ?_ _)); exact BK210.out) hb); have n4_ := Aside0.mk (blk_below (g := gb211) (o := .cells #[.bool a4_0, .int .i64 a4_1] 25 (0, 0)) (by (with_reducible repeat (first | refine blk_drewN ?_ _ | refine blk_drew ?_ | refine blk_alloc ?_ _)); exact BK211.out) hb); have n5_ := Aside0.mk (below_step (by repeat (first | (with_reducible first | exact HB.out | apply below_alloc | apply pw_below_drewN | apply below_drew1 | refine below_set ?_ GE207.out | refine below_set ?_ GE208.out | refine below_set ?_ GE209.out | refine below_set ?_ GE210.out | refine below_set ?_ GE211.out) | exact HB.out)) hb); clear BK207; clear BK208; clear BK209; clear BK210; clear BK211; clear HB; have BK207 := n0_; have BK208 := n1_; have BK209 := n2_; have BK210 := n3_; have BK211 := n4_; have HB := n5_; clear n0_ n1_ n2_ n3_ n4_ n5_; (try clear hb); (try clear hb2); (try clear hk); (try clear hi); have hcz271_0 : w270.cell? ⟨gb207, 0, none⟩ = some (.int .i64 a0_0) := (blk_cell BK207.out 0).trans rfl; have hcz271_1 : w270.cell? ⟨gb207, 1, none⟩ = some (.int .i64 a0_1) := (blk_cell BK207.out 1).trans rfl; have hfz271_0 := blk_frozen BK207.out 0; have hfz271_1 := blk_frozen BK207.out 1; have hcz272_0 : w270.cell? ⟨gb208, 0, none⟩ = some (.int .i64 a1_0) := (blk_cell BK208.out 0).trans rfl; have hcz272_1 : w270.cell? ⟨gb208, 1, none⟩ = some (.int .i64 a1_1) := (blk_cell BK208.out 1).trans rfl; have hfz272_0 := blk_frozen BK208.out 0; have hfz272_1 := blk_frozen BK208.out 1; have hcz273_0 : w270.cell? ⟨gb210, 0, none⟩ = some (.bool true) := (blk_cell BK210.out 0).trans rfl; have hcz273_1 : w270.cell? ⟨gb210, 1, none⟩ = some (.int .i64 a3_1) := (blk_cell BK210.out 1).trans rfl; have hfz273_0 := blk_frozen BK210.out 0; have hfz273_1 := blk_frozen BK210.out 1))
                      go_ret
                      exact ⟨by first | rfl | (simp [errW_none, errW_some] <;> rfl) | (simp [*, errW_none, errW_some] <;> rfl), by repeat (first | (with_reducible first | exact HB.out | apply below_alloc | apply pw_below_drewN | apply below_drew1 | refine below_set ?_ GE207.out | refine below_set ?_ GE208.out | refine below_set ?_ GE209.out | refine below_set ?_ GE210.out | refine below_set ?_ GE211.out) | exact HB.out)⟩
                    · rw [if_neg c254] at H
                      have c254b0 : decide (0 ≤ t216) = false := decide_eq_false c254
                      clear c254
                      obtain rfl := Option.some.inj H
                      have hnb274 := NB207_208.out
                      have hnc274 := NB208_207.out
                      have hnb275 := NB207_209.out
                      have hnc275 := NB209_207.out
                      have hnb276 := NB207_210.out
                      have hnc276 := NB210_207.out
                      have hnb277 := NB207_211.out
                      have hnc277 := NB211_207.out
                      have hcz278_0 : wc.cell? ⟨gb207, 0, none⟩ = some (.int .i64 a0_0) := (blk_cell BK207.out 0).trans rfl
                      have hcz278_1 : wc.cell? ⟨gb207, 1, none⟩ = some (.int .i64 a0_1) := (blk_cell BK207.out 1).trans rfl
                      have hfz278_0 := blk_frozen BK207.out 0
                      have hfz278_1 := blk_frozen BK207.out 1
                      have hnb279 := NB208_209.out
                      have hnc279 := NB209_208.out
                      have hnb280 := NB208_210.out
                      have hnc280 := NB210_208.out
                      have hnb281 := NB208_211.out
                      have hnc281 := NB211_208.out
                      have hcz282_0 : wc.cell? ⟨gb208, 0, none⟩ = some (.int .i64 a1_0) := (blk_cell BK208.out 0).trans rfl
                      have hcz282_1 : wc.cell? ⟨gb208, 1, none⟩ = some (.int .i64 a1_1) := (blk_cell BK208.out 1).trans rfl
                      have hfz282_0 := blk_frozen BK208.out 0
                      have hfz282_1 := blk_frozen BK208.out 1
                      have hnb283 := NB209_210.out
                      have hnc283 := NB210_209.out
                      have hnb284 := NB209_211.out
                      have hnc284 := NB211_209.out
                      have hcz285_0 : wc.cell? ⟨gb209, 0, none⟩ = some (.int .i64 a2_0) := (blk_cell BK209.out 0).trans rfl
                      have hcz285_1 : wc.cell? ⟨gb209, 1, none⟩ = some (.int .i64 a2_1) := (blk_cell BK209.out 1).trans rfl
                      have hfz285_0 := blk_frozen BK209.out 0
                      have hfz285_1 := blk_frozen BK209.out 1
                      have hnb286 := NB210_211.out
                      have hnc286 := NB211_210.out
                      have hcz287_0 : wc.cell? ⟨gb210, 0, none⟩ = some (.bool true) := (blk_cell BK210.out 0).trans rfl
                      have hcz287_1 : wc.cell? ⟨gb210, 1, none⟩ = some (.int .i64 a3_1) := (blk_cell BK210.out 1).trans rfl
                      have hfz287_0 := blk_frozen BK210.out 0
                      have hfz287_1 := blk_frozen BK210.out 1
                      have hcz288_0 : wc.cell? ⟨gb211, 0, none⟩ = some (.bool a4_0) := (blk_cell BK211.out 0).trans rfl
                      have hcz288_1 : wc.cell? ⟨gb211, 1, none⟩ = some (.int .i64 a4_1) := (blk_cell BK211.out 1).trans rfl
                      have hfz288_0 := blk_frozen BK211.out 0
                      have hfz288_1 := blk_frozen BK211.out 1
                      go_wp2_with (first | ((with_reducible refine gate_callee (f := 16) rfl ?_); refine goesL_ (some 56) rfl rfl Try.func16 (by kernel_rfl) rfl #[.agg #[.int .i64 a0_0, .int .i64 a0_1], .agg #[.int .i64 a1_0, .int .i64 a1_1], .agg #[.int .i64 a2_0, .int .i64 a2_1], .agg #[.bool true, .int .i64 a3_1], .agg #[.bool a4_0, .int .i64 a4_1]] rfl (by (try simp only [List.map_toArray, List.map_cons, List.map_nil]); first | done | rfl | (simp only [List.length_drop, List.length_take]; rfl)) ?_; (with_reducible refine (stick_Shift.calls kj7 a0_0 a0_1 a1_0 a1_1 a2_0 a2_1 true a3_1 a4_0 a4_1 t216 _ A127.out).mono ?_); rintro e w289 ⟨rfl, hb⟩; refine ⟨_, rfl, ?_⟩; have n0_ := Aside0.mk (blk_below (g := gb207) (o := .cells #[.int .i64 a0_0, .int .i64 a0_1] 23 (0, 0)) (by (with_reducible repeat (first | refine blk_drewN ?_ _ | refine blk_drew ?_ | refine blk_alloc ?_ _)); exact BK207.out) hb); have n1_ := Aside0.mk (blk_below (g := gb208) (o := .cells #[.int .i64 a1_0, .int .i64 a1_1] 23 (0, 0)) (by (with_reducible repeat (first | refine blk_drewN ?_ _ | refine blk_drew ?_ | refine blk_alloc ?_ _)); exact BK208.out) hb); have n2_ := Aside0.mk (blk_below (g := gb209) (o := .cells #[.int .i64 a2_0, .int .i64 a2_1] 23 (0, 0)) (by (with_reducible repeat (first | refine blk_drewN ?_ _ | refine blk_drew ?_ | refine blk_alloc ?_ _)); exact BK209.out) hb); have n3_ := Aside0.mk (blk_below (g := gb210) (o := .cells #[.bool true, .int .i64 a3_1] 25 (0, 0)) (by (with_reducible repeat (first | refine blk_drewN ?_ _ | refine blk_drew ?_ | refine blk_alloc ?_ _)); exact BK210.out) hb); have n4_ := Aside0.mk (blk_below (g := gb211) (o := .cells #[.bool a4_0, .int .i64 a4_1] 25 (0, 0)) (by (with_reducible repeat (first | refine blk_drewN ?_ _ | refine blk_drew ?_ | refine blk_alloc ?_ _)); exact BK211.out) hb); have n5_ := Aside0.mk (below_step (by repeat (first | (with_reducible first | exact HB.out | apply below_alloc | apply pw_below_drewN | apply below_drew1 | refine below_set ?_ GE207.out | refine below_set ?_ GE208.out | refine below_set ?_ GE209.out | refine below_set ?_ GE210.out | refine below_set ?_ GE211.out) | exact HB.out)) hb); clear BK207; clear BK208; clear BK209; clear BK210; clear BK211; clear HB; have BK207 := n0_; have BK208 := n1_; have BK209 := n2_; have BK210 := n3_; have BK211 := n4_; have HB := n5_; clear n0_ n1_ n2_ n3_ n4_ n5_; (try clear hb); (try clear hb2); (try clear hk); (try clear hi); have hcz290_0 : w289.cell? ⟨gb207, 0, none⟩ = some (.int .i64 a0_0) := (blk_cell BK207.out 0).trans rfl; have hcz290_1 : w289.cell? ⟨gb207, 1, none⟩ = some (.int .i64 a0_1) := (blk_cell BK207.out 1).trans rfl; have hfz290_0 := blk_frozen BK207.out 0; have hfz290_1 := blk_frozen BK207.out 1; have hcz291_0 : w289.cell? ⟨gb208, 0, none⟩ = some (.int .i64 a1_0) := (blk_cell BK208.out 0).trans rfl; have hcz291_1 : w289.cell? ⟨gb208, 1, none⟩ = some (.int .i64 a1_1) := (blk_cell BK208.out 1).trans rfl; have hfz291_0 := blk_frozen BK208.out 0; have hfz291_1 := blk_frozen BK208.out 1; have hcz292_0 : w289.cell? ⟨gb210, 0, none⟩ = some (.bool true) := (blk_cell BK210.out 0).trans rfl; have hcz292_1 : w289.cell? ⟨gb210, 1, none⟩ = some (.int .i64 a3_1) := (blk_cell BK210.out 1).trans rfl; have hfz292_0 := blk_frozen BK210.out 0; have hfz292_1 := blk_frozen BK210.out 1; have hcz293_0 : w289.cell? ⟨gb211, 0, none⟩ = some (.bool a4_0) := (blk_cell BK211.out 0).trans rfl; have hcz293_1 : w289.cell? ⟨gb211, 1, none⟩ = some (.int .i64 a4_1) := (blk_cell BK211.out 1).trans rfl; have hfz293_0 := blk_frozen BK211.out 0; have hfz293_1 := blk_frozen BK211.out 1))
                      go_ret
                      exact ⟨by first | rfl | (simp [errW_none, errW_some] <;> rfl) | (simp [*, errW_none, errW_some] <;> rfl), by repeat (first | (with_reducible first | exact HB.out | apply below_alloc | apply pw_below_drewN | apply below_drew1 | refine below_set ?_ GE207.out | refine below_set ?_ GE208.out | refine below_set ?_ GE209.out | refine below_set ?_ GE210.out | refine below_set ?_ GE211.out) | exact HB.out)⟩
                  · replace c253 := Bool.eq_false_iff.mpr c253
                    subst c253
                    have H1 : (none) = some r := by rw [if_neg (show ¬ (false = true) by decide)] at H; exact H
                    clear H
                    have H := H1
                    clear H1
                    exact absurd H (by simp)
              · exact absurd rfl c213
          · rw [if_neg c128] at H
            have c128b0 : decide (a1_0 ≤ a0_0) = false := decide_eq_false c128
            clear c128
            by_cases c294 : true = true
            · clear c294
              have H1 : (if t216 ≤ 0 then (if t216 ≥ 0 then (some true) else (some a4_0)) else (if a3_0 = true then (if t216 ≥ 0 then (some true) else (some a4_0)) else (none))) = some r := by first | (rw [if_pos rfl] at H; exact H) | (rw [if_pos True.intro] at H; exact H)
              clear H
              have H := H1
              clear H1
              by_cases c295 : t216 ≤ 0
              · rw [if_pos c295] at H
                have c295b0 : decide (t216 ≤ 0) = true := decide_eq_true c295
                clear c295
                by_cases c296 : t216 ≥ 0
                · rw [if_pos c296] at H
                  have c296b0 : decide (0 ≤ t216) = true := decide_eq_true c296
                  clear c296
                  obtain rfl := Option.some.inj H
                  have hnb297 := NB207_208.out
                  have hnc297 := NB208_207.out
                  have hnb298 := NB207_209.out
                  have hnc298 := NB209_207.out
                  have hnb299 := NB207_210.out
                  have hnc299 := NB210_207.out
                  have hnb300 := NB207_211.out
                  have hnc300 := NB211_207.out
                  have hcz301_0 : wc.cell? ⟨gb207, 0, none⟩ = some (.int .i64 a0_0) := (blk_cell BK207.out 0).trans rfl
                  have hcz301_1 : wc.cell? ⟨gb207, 1, none⟩ = some (.int .i64 a0_1) := (blk_cell BK207.out 1).trans rfl
                  have hfz301_0 := blk_frozen BK207.out 0
                  have hfz301_1 := blk_frozen BK207.out 1
                  have hnb302 := NB208_209.out
                  have hnc302 := NB209_208.out
                  have hnb303 := NB208_210.out
                  have hnc303 := NB210_208.out
                  have hnb304 := NB208_211.out
                  have hnc304 := NB211_208.out
                  have hcz305_0 : wc.cell? ⟨gb208, 0, none⟩ = some (.int .i64 a1_0) := (blk_cell BK208.out 0).trans rfl
                  have hcz305_1 : wc.cell? ⟨gb208, 1, none⟩ = some (.int .i64 a1_1) := (blk_cell BK208.out 1).trans rfl
                  have hfz305_0 := blk_frozen BK208.out 0
                  have hfz305_1 := blk_frozen BK208.out 1
                  have hnb306 := NB209_210.out
                  have hnc306 := NB210_209.out
                  have hnb307 := NB209_211.out
                  have hnc307 := NB211_209.out
                  have hcz308_0 : wc.cell? ⟨gb209, 0, none⟩ = some (.int .i64 a2_0) := (blk_cell BK209.out 0).trans rfl
                  have hcz308_1 : wc.cell? ⟨gb209, 1, none⟩ = some (.int .i64 a2_1) := (blk_cell BK209.out 1).trans rfl
                  have hfz308_0 := blk_frozen BK209.out 0
                  have hfz308_1 := blk_frozen BK209.out 1
                  have hnb309 := NB210_211.out
                  have hnc309 := NB211_210.out
                  have hcz310_0 : wc.cell? ⟨gb210, 0, none⟩ = some (.bool a3_0) := (blk_cell BK210.out 0).trans rfl
                  have hcz310_1 : wc.cell? ⟨gb210, 1, none⟩ = some (.int .i64 a3_1) := (blk_cell BK210.out 1).trans rfl
                  have hfz310_0 := blk_frozen BK210.out 0
                  have hfz310_1 := blk_frozen BK210.out 1
                  have hcz311_0 : wc.cell? ⟨gb211, 0, none⟩ = some (.bool a4_0) := (blk_cell BK211.out 0).trans rfl
                  have hcz311_1 : wc.cell? ⟨gb211, 1, none⟩ = some (.int .i64 a4_1) := (blk_cell BK211.out 1).trans rfl
                  have hfz311_0 := blk_frozen BK211.out 0
                  have hfz311_1 := blk_frozen BK211.out 1
                  go_wp2_with (first | ((with_reducible refine gate_callee (f := 16) rfl ?_); refine goesL_ (some 56) rfl rfl Try.func16 (by kernel_rfl) rfl #[.agg #[.int .i64 a0_0, .int .i64 a0_1], .agg #[.int .i64 a1_0, .int .i64 a1_1], .agg #[.int .i64 a2_0, .int .i64 a2_1], .agg #[.bool a3_0, .int .i64 a3_1], .agg #[.bool a4_0, .int .i64 a4_1]] rfl (by (try simp only [List.map_toArray, List.map_cons, List.map_nil]); first | done | rfl | (simp only [List.length_drop, List.length_take]; rfl)) ?_; (with_reducible refine (stick_Shift.calls kj7 a0_0 a0_1 a1_0 a1_1 a2_0 a2_1 a3_0 a3_1 a4_0 a4_1 t216 _ A127.out).mono ?_); rintro e w312 ⟨rfl, hb⟩; refine ⟨_, rfl, ?_⟩; have n0_ := Aside0.mk (blk_below (g := gb207) (o := .cells #[.int .i64 a0_0, .int .i64 a0_1] 23 (0, 0)) (by (with_reducible repeat (first | refine blk_drewN ?_ _ | refine blk_drew ?_ | refine blk_alloc ?_ _)); exact BK207.out) hb); have n1_ := Aside0.mk (blk_below (g := gb208) (o := .cells #[.int .i64 a1_0, .int .i64 a1_1] 23 (0, 0)) (by (with_reducible repeat (first | refine blk_drewN ?_ _ | refine blk_drew ?_ | refine blk_alloc ?_ _)); exact BK208.out) hb); have n2_ := Aside0.mk (blk_below (g := gb209) (o := .cells #[.int .i64 a2_0, .int .i64 a2_1] 23 (0, 0)) (by (with_reducible repeat (first | refine blk_drewN ?_ _ | refine blk_drew ?_ | refine blk_alloc ?_ _)); exact BK209.out) hb); have n3_ := Aside0.mk (blk_below (g := gb210) (o := .cells #[.bool a3_0, .int .i64 a3_1] 25 (0, 0)) (by (with_reducible repeat (first | refine blk_drewN ?_ _ | refine blk_drew ?_ | refine blk_alloc ?_ _)); exact BK210.out) hb); have n4_ := Aside0.mk (blk_below (g := gb211) (o := .cells #[.bool a4_0, .int .i64 a4_1] 25 (0, 0)) (by (with_reducible repeat (first | refine blk_drewN ?_ _ | refine blk_drew ?_ | refine blk_alloc ?_ _)); exact BK211.out) hb); have n5_ := Aside0.mk (below_step (by repeat (first | (with_reducible first | exact HB.out | apply below_alloc | apply pw_below_drewN | apply below_drew1 | refine below_set ?_ GE207.out | refine below_set ?_ GE208.out | refine below_set ?_ GE209.out | refine below_set ?_ GE210.out | refine below_set ?_ GE211.out) | exact HB.out)) hb); clear BK207; clear BK208; clear BK209; clear BK210; clear BK211; clear HB; have BK207 := n0_; have BK208 := n1_; have BK209 := n2_; have BK210 := n3_; have BK211 := n4_; have HB := n5_; clear n0_ n1_ n2_ n3_ n4_ n5_; (try clear hb); (try clear hb2); (try clear hk); (try clear hi); have hcz313_0 : w312.cell? ⟨gb207, 0, none⟩ = some (.int .i64 a0_0) := (blk_cell BK207.out 0).trans rfl; have hcz313_1 : w312.cell? ⟨gb207, 1, none⟩ = some (.int .i64 a0_1) := (blk_cell BK207.out 1).trans rfl; have hfz313_0 := blk_frozen BK207.out 0; have hfz313_1 := blk_frozen BK207.out 1; have hcz314_0 : w312.cell? ⟨gb208, 0, none⟩ = some (.int .i64 a1_0) := (blk_cell BK208.out 0).trans rfl; have hcz314_1 : w312.cell? ⟨gb208, 1, none⟩ = some (.int .i64 a1_1) := (blk_cell BK208.out 1).trans rfl; have hfz314_0 := blk_frozen BK208.out 0; have hfz314_1 := blk_frozen BK208.out 1))
                  go_ret
                  exact ⟨by first | rfl | (simp [errW_none, errW_some] <;> rfl) | (simp [*, errW_none, errW_some] <;> rfl), by repeat (first | (with_reducible first | exact HB.out | apply below_alloc | apply pw_below_drewN | apply below_drew1 | refine below_set ?_ GE207.out | refine below_set ?_ GE208.out | refine below_set ?_ GE209.out | refine below_set ?_ GE210.out | refine below_set ?_ GE211.out) | exact HB.out)⟩
                · rw [if_neg c296] at H
                  have c296b0 : decide (0 ≤ t216) = false := decide_eq_false c296
                  clear c296
                  obtain rfl := Option.some.inj H
                  have hnb315 := NB207_208.out
                  have hnc315 := NB208_207.out
                  have hnb316 := NB207_209.out
                  have hnc316 := NB209_207.out
                  have hnb317 := NB207_210.out
                  have hnc317 := NB210_207.out
                  have hnb318 := NB207_211.out
                  have hnc318 := NB211_207.out
                  have hcz319_0 : wc.cell? ⟨gb207, 0, none⟩ = some (.int .i64 a0_0) := (blk_cell BK207.out 0).trans rfl
                  have hcz319_1 : wc.cell? ⟨gb207, 1, none⟩ = some (.int .i64 a0_1) := (blk_cell BK207.out 1).trans rfl
                  have hfz319_0 := blk_frozen BK207.out 0
                  have hfz319_1 := blk_frozen BK207.out 1
                  have hnb320 := NB208_209.out
                  have hnc320 := NB209_208.out
                  have hnb321 := NB208_210.out
                  have hnc321 := NB210_208.out
                  have hnb322 := NB208_211.out
                  have hnc322 := NB211_208.out
                  have hcz323_0 : wc.cell? ⟨gb208, 0, none⟩ = some (.int .i64 a1_0) := (blk_cell BK208.out 0).trans rfl
                  have hcz323_1 : wc.cell? ⟨gb208, 1, none⟩ = some (.int .i64 a1_1) := (blk_cell BK208.out 1).trans rfl
                  have hfz323_0 := blk_frozen BK208.out 0
                  have hfz323_1 := blk_frozen BK208.out 1
                  have hnb324 := NB209_210.out
                  have hnc324 := NB210_209.out
                  have hnb325 := NB209_211.out
                  have hnc325 := NB211_209.out
                  have hcz326_0 : wc.cell? ⟨gb209, 0, none⟩ = some (.int .i64 a2_0) := (blk_cell BK209.out 0).trans rfl
                  have hcz326_1 : wc.cell? ⟨gb209, 1, none⟩ = some (.int .i64 a2_1) := (blk_cell BK209.out 1).trans rfl
                  have hfz326_0 := blk_frozen BK209.out 0
                  have hfz326_1 := blk_frozen BK209.out 1
                  have hnb327 := NB210_211.out
                  have hnc327 := NB211_210.out
                  have hcz328_0 : wc.cell? ⟨gb210, 0, none⟩ = some (.bool a3_0) := (blk_cell BK210.out 0).trans rfl
                  have hcz328_1 : wc.cell? ⟨gb210, 1, none⟩ = some (.int .i64 a3_1) := (blk_cell BK210.out 1).trans rfl
                  have hfz328_0 := blk_frozen BK210.out 0
                  have hfz328_1 := blk_frozen BK210.out 1
                  have hcz329_0 : wc.cell? ⟨gb211, 0, none⟩ = some (.bool a4_0) := (blk_cell BK211.out 0).trans rfl
                  have hcz329_1 : wc.cell? ⟨gb211, 1, none⟩ = some (.int .i64 a4_1) := (blk_cell BK211.out 1).trans rfl
                  have hfz329_0 := blk_frozen BK211.out 0
                  have hfz329_1 := blk_frozen BK211.out 1
                  go_wp2_with (first | ((with_reducible refine gate_callee (f := 16) rfl ?_); refine goesL_ (some 56) rfl rfl Try.func16 (by kernel_rfl) rfl #[.agg #[.int .i64 a0_0, .int .i64 a0_1], .agg #[.int .i64 a1_0, .int .i64 a1_1], .agg #[.int .i64 a2_0, .int .i64 a2_1], .agg #[.bool a3_0, .int .i64 a3_1], .agg #[.bool a4_0, .int .i64 a4_1]] rfl (by (try simp only [List.map_toArray, List.map_cons, List.map_nil]); first | done | rfl | (simp only [List.length_drop, List.length_take]; rfl)) ?_; (with_reducible refine (stick_Shift.calls kj7 a0_0 a0_1 a1_0 a1_1 a2_0 a2_1 a3_0 a3_1 a4_0 a4_1 t216 _ A127.out).mono ?_); rintro e w330 ⟨rfl, hb⟩; refine ⟨_, rfl, ?_⟩; have n0_ := Aside0.mk (blk_below (g := gb207) (o := .cells #[.int .i64 a0_0, .int .i64 a0_1] 23 (0, 0)) (by (with_reducible repeat (first | refine blk_drewN ?_ _ | refine blk_drew ?_ | refine blk_alloc ?_ _)); exact BK207.out) hb); have n1_ := Aside0.mk (blk_below (g := gb208) (o := .cells #[.int .i64 a1_0, .int .i64 a1_1] 23 (0, 0)) (by (with_reducible repeat (first | refine blk_drewN ?_ _ | refine blk_drew ?_ | refine blk_alloc ?_ _)); exact BK208.out) hb); have n2_ := Aside0.mk (blk_below (g := gb209) (o := .cells #[.int .i64 a2_0, .int .i64 a2_1] 23 (0, 0)) (by (with_reducible repeat (first | refine blk_drewN ?_ _ | refine blk_drew ?_ | refine blk_alloc ?_ _)); exact BK209.out) hb); have n3_ := Aside0.mk (blk_below (g := gb210) (o := .cells #[.bool a3_0, .int .i64 a3_1] 25 (0, 0)) (by (with_reducible repeat (first | refine blk_drewN ?_ _ | refine blk_drew ?_ | refine blk_alloc ?_ _)); exact BK210.out) hb); have n4_ := Aside0.mk (blk_below (g := gb211) (o := .cells #[.bool a4_0, .int .i64 a4_1] 25 (0, 0)) (by (with_reducible repeat (first | refine blk_drewN ?_ _ | refine blk_drew ?_ | refine blk_alloc ?_ _)); exact BK211.out) hb); have n5_ := Aside0.mk (below_step (by repeat (first | (with_reducible first | exact HB.out | apply below_alloc | apply pw_below_drewN | apply below_drew1 | refine below_set ?_ GE207.out | refine below_set ?_ GE208.out | refine below_set ?_ GE209.out | refine below_set ?_ GE210.out | refine below_set ?_ GE211.out) | exact HB.out)) hb); clear BK207; clear BK208; clear BK209; clear BK210; clear BK211; clear HB; have BK207 := n0_; have BK208 := n1_; have BK209 := n2_; have BK210 := n3_; have BK211 := n4_; have HB := n5_; clear n0_ n1_ n2_ n3_ n4_ n5_; (try clear hb); (try clear hb2); (try clear hk); (try clear hi); have hcz331_0 : w330.cell? ⟨gb207, 0, none⟩ = some (.int .i64 a0_0) := (blk_cell BK207.out 0).trans rfl; have hcz331_1 : w330.cell? ⟨gb207, 1, none⟩ = some (.int .i64 a0_1) := (blk_cell BK207.out 1).trans rfl; have hfz331_0 := blk_frozen BK207.out 0; have hfz331_1 := blk_frozen BK207.out 1; have hcz332_0 : w330.cell? ⟨gb208, 0, none⟩ = some (.int .i64 a1_0) := (blk_cell BK208.out 0).trans rfl; have hcz332_1 : w330.cell? ⟨gb208, 1, none⟩ = some (.int .i64 a1_1) := (blk_cell BK208.out 1).trans rfl; have hfz332_0 := blk_frozen BK208.out 0; have hfz332_1 := blk_frozen BK208.out 1; have hcz333_0 : w330.cell? ⟨gb211, 0, none⟩ = some (.bool a4_0) := (blk_cell BK211.out 0).trans rfl; have hcz333_1 : w330.cell? ⟨gb211, 1, none⟩ = some (.int .i64 a4_1) := (blk_cell BK211.out 1).trans rfl; have hfz333_0 := blk_frozen BK211.out 0; have hfz333_1 := blk_frozen BK211.out 1))
                  go_ret
                  exact ⟨by first | rfl | (simp [errW_none, errW_some] <;> rfl) | (simp [*, errW_none, errW_some] <;> rfl), by repeat (first | (with_reducible first | exact HB.out | apply below_alloc | apply pw_below_drewN | apply below_drew1 | refine below_set ?_ GE207.out | refine below_set ?_ GE208.out | refine below_set ?_ GE209.out | refine below_set ?_ GE210.out | refine below_set ?_ GE211.out) | exact HB.out)⟩
              · rw [if_neg c295] at H
                have c295b0 : decide (t216 ≤ 0) = false := decide_eq_false c295
                clear c295
                by_cases c334 : a3_0 = true
                · subst c334
                  have H1 : (if t216 ≥ 0 then (some true) else (some a4_0)) = some r := by first | (rw [if_pos rfl] at H; exact H) | (rw [if_pos True.intro] at H; exact H)
                  clear H
                  have H := H1
                  clear H1
                  by_cases c335 : t216 ≥ 0
                  · rw [if_pos c335] at H
                    have c335b0 : decide (0 ≤ t216) = true := decide_eq_true c335
                    clear c335
                    obtain rfl := Option.some.inj H
                    have hnb336 := NB207_208.out
                    have hnc336 := NB208_207.out
                    have hnb337 := NB207_209.out
                    have hnc337 := NB209_207.out
                    have hnb338 := NB207_210.out
                    have hnc338 := NB210_207.out
                    have hnb339 := NB207_211.out
                    have hnc339 := NB211_207.out
                    have hcz340_0 : wc.cell? ⟨gb207, 0, none⟩ = some (.int .i64 a0_0) := (blk_cell BK207.out 0).trans rfl
                    have hcz340_1 : wc.cell? ⟨gb207, 1, none⟩ = some (.int .i64 a0_1) := (blk_cell BK207.out 1).trans rfl
                    have hfz340_0 := blk_frozen BK207.out 0
                    have hfz340_1 := blk_frozen BK207.out 1
                    have hnb341 := NB208_209.out
                    have hnc341 := NB209_208.out
                    have hnb342 := NB208_210.out
                    have hnc342 := NB210_208.out
                    have hnb343 := NB208_211.out
                    have hnc343 := NB211_208.out
                    have hcz344_0 : wc.cell? ⟨gb208, 0, none⟩ = some (.int .i64 a1_0) := (blk_cell BK208.out 0).trans rfl
                    have hcz344_1 : wc.cell? ⟨gb208, 1, none⟩ = some (.int .i64 a1_1) := (blk_cell BK208.out 1).trans rfl
                    have hfz344_0 := blk_frozen BK208.out 0
                    have hfz344_1 := blk_frozen BK208.out 1
                    have hnb345 := NB209_210.out
                    have hnc345 := NB210_209.out
                    have hnb346 := NB209_211.out
                    have hnc346 := NB211_209.out
                    have hcz347_0 : wc.cell? ⟨gb209, 0, none⟩ = some (.int .i64 a2_0) := (blk_cell BK209.out 0).trans rfl
                    have hcz347_1 : wc.cell? ⟨gb209, 1, none⟩ = some (.int .i64 a2_1) := (blk_cell BK209.out 1).trans rfl
                    have hfz347_0 := blk_frozen BK209.out 0
                    have hfz347_1 := blk_frozen BK209.out 1
                    have hnb348 := NB210_211.out
                    have hnc348 := NB211_210.out
                    have hcz349_0 : wc.cell? ⟨gb210, 0, none⟩ = some (.bool true) := (blk_cell BK210.out 0).trans rfl
                    have hcz349_1 : wc.cell? ⟨gb210, 1, none⟩ = some (.int .i64 a3_1) := (blk_cell BK210.out 1).trans rfl
                    have hfz349_0 := blk_frozen BK210.out 0
                    have hfz349_1 := blk_frozen BK210.out 1
                    have hcz350_0 : wc.cell? ⟨gb211, 0, none⟩ = some (.bool a4_0) := (blk_cell BK211.out 0).trans rfl
                    have hcz350_1 : wc.cell? ⟨gb211, 1, none⟩ = some (.int .i64 a4_1) := (blk_cell BK211.out 1).trans rfl
                    have hfz350_0 := blk_frozen BK211.out 0
                    have hfz350_1 := blk_frozen BK211.out 1
                    go_wp2_with (first | ((with_reducible refine gate_callee (f := 16) rfl ?_); refine goesL_ (some 56) rfl rfl Try.func16 (by kernel_rfl) rfl #[.agg #[.int .i64 a0_0, .int .i64 a0_1], .agg #[.int .i64 a1_0, .int .i64 a1_1], .agg #[.int .i64 a2_0, .int .i64 a2_1], .agg #[.bool true, .int .i64 a3_1], .agg #[.bool a4_0, .int .i64 a4_1]] rfl (by (try simp only [List.map_toArray, List.map_cons, List.map_nil]); first | done | rfl | (simp only [List.length_drop, List.length_take]; rfl)) ?_; (with_reducible refine (stick_Shift.calls kj7 a0_0 a0_1 a1_0 a1_1 a2_0 a2_1 true a3_1 a4_0 a4_1 t216 _ A127.out).mono ?_); rintro e w351 ⟨rfl, hb⟩; refine ⟨_, rfl, ?_⟩; have n0_ := Aside0.mk (blk_below (g := gb207) (o := .cells #[.int .i64 a0_0, .int .i64 a0_1] 23 (0, 0)) (by (with_reducible repeat (first | refine blk_drewN ?_ _ | refine blk_drew ?_ | refine blk_alloc ?_ _)); exact BK207.out) hb); have n1_ := Aside0.mk (blk_below (g := gb208) (o := .cells #[.int .i64 a1_0, .int .i64 a1_1] 23 (0, 0)) (by (with_reducible repeat (first | refine blk_drewN ?_ _ | refine blk_drew ?_ | refine blk_alloc ?_ _)); exact BK208.out) hb); have n2_ := Aside0.mk (blk_below (g := gb209) (o := .cells #[.int .i64 a2_0, .int .i64 a2_1] 23 (0, 0)) (by (with_reducible repeat (first | refine blk_drewN ?_ _ | refine blk_drew ?_ | refine blk_alloc ?_ _)); exact BK209.out) hb); have n3_ := Aside0.mk (blk_below (g := gb210) (o := .cells #[.bool true, .int .i64 a3_1] 25 (0, 0)) (by (with_reducible repeat (first | refine blk_drewN ?_ _ | refine blk_drew ?_ | refine blk_alloc ?_ _)); exact BK210.out) hb); have n4_ := Aside0.mk (blk_below (g := gb211) (o := .cells #[.bool a4_0, .int .i64 a4_1] 25 (0, 0)) (by (with_reducible repeat (first | refine blk_drewN ?_ _ | refine blk_drew ?_ | refine blk_alloc ?_ _)); exact BK211.out) hb); have n5_ := Aside0.mk (below_step (by repeat (first | (with_reducible first | exact HB.out | apply below_alloc | apply pw_below_drewN | apply below_drew1 | refine below_set ?_ GE207.out | refine below_set ?_ GE208.out | refine below_set ?_ GE209.out | refine below_set ?_ GE210.out | refine below_set ?_ GE211.out) | exact HB.out)) hb); clear BK207; clear BK208; clear BK209; clear BK210; clear BK211; clear HB; have BK207 := n0_; have BK208 := n1_; have BK209 := n2_; have BK210 := n3_; have BK211 := n4_; have HB := n5_; clear n0_ n1_ n2_ n3_ n4_ n5_; (try clear hb); (try clear hb2); (try clear hk); (try clear hi); have hcz352_0 : w351.cell? ⟨gb207, 0, none⟩ = some (.int .i64 a0_0) := (blk_cell BK207.out 0).trans rfl; have hcz352_1 : w351.cell? ⟨gb207, 1, none⟩ = some (.int .i64 a0_1) := (blk_cell BK207.out 1).trans rfl; have hfz352_0 := blk_frozen BK207.out 0; have hfz352_1 := blk_frozen BK207.out 1; have hcz353_0 : w351.cell? ⟨gb208, 0, none⟩ = some (.int .i64 a1_0) := (blk_cell BK208.out 0).trans rfl; have hcz353_1 : w351.cell? ⟨gb208, 1, none⟩ = some (.int .i64 a1_1) := (blk_cell BK208.out 1).trans rfl; have hfz353_0 := blk_frozen BK208.out 0; have hfz353_1 := blk_frozen BK208.out 1; have hcz354_0 : w351.cell? ⟨gb210, 0, none⟩ = some (.bool true) := (blk_cell BK210.out 0).trans rfl; have hcz354_1 : w351.cell? ⟨gb210, 1, none⟩ = some (.int .i64 a3_1) := (blk_cell BK210.out 1).trans rfl; have hfz354_0 := blk_frozen BK210.out 0; have hfz354_1 := blk_frozen BK210.out 1))
                    go_ret
                    exact ⟨by first | rfl | (simp [errW_none, errW_some] <;> rfl) | (simp [*, errW_none, errW_some] <;> rfl), by repeat (first | (with_reducible first | exact HB.out | apply below_alloc | apply pw_below_drewN | apply below_drew1 | refine below_set ?_ GE207.out | refine below_set ?_ GE208.out | refine below_set ?_ GE209.out | refine below_set ?_ GE210.out | refine below_set ?_ GE211.out) | exact HB.out)⟩
                  · rw [if_neg c335] at H
                    have c335b0 : decide (0 ≤ t216) = false := decide_eq_false c335
                    clear c335
                    obtain rfl := Option.some.inj H
                    have hnb355 := NB207_208.out
                    have hnc355 := NB208_207.out
                    have hnb356 := NB207_209.out
                    have hnc356 := NB209_207.out
                    have hnb357 := NB207_210.out
                    have hnc357 := NB210_207.out
                    have hnb358 := NB207_211.out
                    have hnc358 := NB211_207.out
                    have hcz359_0 : wc.cell? ⟨gb207, 0, none⟩ = some (.int .i64 a0_0) := (blk_cell BK207.out 0).trans rfl
                    have hcz359_1 : wc.cell? ⟨gb207, 1, none⟩ = some (.int .i64 a0_1) := (blk_cell BK207.out 1).trans rfl
                    have hfz359_0 := blk_frozen BK207.out 0
                    have hfz359_1 := blk_frozen BK207.out 1
                    have hnb360 := NB208_209.out
                    have hnc360 := NB209_208.out
                    have hnb361 := NB208_210.out
                    have hnc361 := NB210_208.out
                    have hnb362 := NB208_211.out
                    have hnc362 := NB211_208.out
                    have hcz363_0 : wc.cell? ⟨gb208, 0, none⟩ = some (.int .i64 a1_0) := (blk_cell BK208.out 0).trans rfl
                    have hcz363_1 : wc.cell? ⟨gb208, 1, none⟩ = some (.int .i64 a1_1) := (blk_cell BK208.out 1).trans rfl
                    have hfz363_0 := blk_frozen BK208.out 0
                    have hfz363_1 := blk_frozen BK208.out 1
                    have hnb364 := NB209_210.out
                    have hnc364 := NB210_209.out
                    have hnb365 := NB209_211.out
                    have hnc365 := NB211_209.out
                    have hcz366_0 : wc.cell? ⟨gb209, 0, none⟩ = some (.int .i64 a2_0) := (blk_cell BK209.out 0).trans rfl
                    have hcz366_1 : wc.cell? ⟨gb209, 1, none⟩ = some (.int .i64 a2_1) := (blk_cell BK209.out 1).trans rfl
                    have hfz366_0 := blk_frozen BK209.out 0
                    have hfz366_1 := blk_frozen BK209.out 1
                    have hnb367 := NB210_211.out
                    have hnc367 := NB211_210.out
                    have hcz368_0 : wc.cell? ⟨gb210, 0, none⟩ = some (.bool true) := (blk_cell BK210.out 0).trans rfl
                    have hcz368_1 : wc.cell? ⟨gb210, 1, none⟩ = some (.int .i64 a3_1) := (blk_cell BK210.out 1).trans rfl
                    have hfz368_0 := blk_frozen BK210.out 0
                    have hfz368_1 := blk_frozen BK210.out 1
                    have hcz369_0 : wc.cell? ⟨gb211, 0, none⟩ = some (.bool a4_0) := (blk_cell BK211.out 0).trans rfl
                    have hcz369_1 : wc.cell? ⟨gb211, 1, none⟩ = some (.int .i64 a4_1) := (blk_cell BK211.out 1).trans rfl
                    have hfz369_0 := blk_frozen BK211.out 0
                    have hfz369_1 := blk_frozen BK211.out 1
                    go_wp2_with (first | ((with_reducible refine gate_callee (f := 16) rfl ?_); refine goesL_ (some 56) rfl rfl Try.func16 (by kernel_rfl) rfl #[.agg #[.int .i64 a0_0, .int .i64 a0_1], .agg #[.int .i64 a1_0, .int .i64 a1_1], .agg #[.int .i64 a2_0, .int .i64 a2_1], .agg #[.bool true, .int .i64 a3_1], .agg #[.bool a4_0, .int .i64 a4_1]] rfl (by (try simp only [List.map_toArray, List.map_cons, List.map_nil]); first | done | rfl | (simp only [List.length_drop, List.length_take]; rfl)) ?_; (with_reducible refine (stick_Shift.calls kj7 a0_0 a0_1 a1_0 a1_1 a2_0 a2_1 true a3_1 a4_0 a4_1 t216 _ A127.out).mono ?_); rintro e w370 ⟨rfl, hb⟩; refine ⟨_, rfl, ?_⟩; have n0_ := Aside0.mk (blk_below (g := gb207) (o := .cells #[.int .i64 a0_0, .int .i64 a0_1] 23 (0, 0)) (by (with_reducible repeat (first | refine blk_drewN ?_ _ | refine blk_drew ?_ | refine blk_alloc ?_ _)); exact BK207.out) hb); have n1_ := Aside0.mk (blk_below (g := gb208) (o := .cells #[.int .i64 a1_0, .int .i64 a1_1] 23 (0, 0)) (by (with_reducible repeat (first | refine blk_drewN ?_ _ | refine blk_drew ?_ | refine blk_alloc ?_ _)); exact BK208.out) hb); have n2_ := Aside0.mk (blk_below (g := gb209) (o := .cells #[.int .i64 a2_0, .int .i64 a2_1] 23 (0, 0)) (by (with_reducible repeat (first | refine blk_drewN ?_ _ | refine blk_drew ?_ | refine blk_alloc ?_ _)); exact BK209.out) hb); have n3_ := Aside0.mk (blk_below (g := gb210) (o := .cells #[.bool true, .int .i64 a3_1] 25 (0, 0)) (by (with_reducible repeat (first | refine blk_drewN ?_ _ | refine blk_drew ?_ | refine blk_alloc ?_ _)); exact BK210.out) hb); have n4_ := Aside0.mk (blk_below (g := gb211) (o := .cells #[.bool a4_0, .int .i64 a4_1] 25 (0, 0)) (by (with_reducible repeat (first | refine blk_drewN ?_ _ | refine blk_drew ?_ | refine blk_alloc ?_ _)); exact BK211.out) hb); have n5_ := Aside0.mk (below_step (by repeat (first | (with_reducible first | exact HB.out | apply below_alloc | apply pw_below_drewN | apply below_drew1 | refine below_set ?_ GE207.out | refine below_set ?_ GE208.out | refine below_set ?_ GE209.out | refine below_set ?_ GE210.out | refine below_set ?_ GE211.out) | exact HB.out)) hb); clear BK207; clear BK208; clear BK209; clear BK210; clear BK211; clear HB; have BK207 := n0_; have BK208 := n1_; have BK209 := n2_; have BK210 := n3_; have BK211 := n4_; have HB := n5_; clear n0_ n1_ n2_ n3_ n4_ n5_; (try clear hb); (try clear hb2); (try clear hk); (try clear hi); have hcz371_0 : w370.cell? ⟨gb207, 0, none⟩ = some (.int .i64 a0_0) := (blk_cell BK207.out 0).trans rfl; have hcz371_1 : w370.cell? ⟨gb207, 1, none⟩ = some (.int .i64 a0_1) := (blk_cell BK207.out 1).trans rfl; have hfz371_0 := blk_frozen BK207.out 0; have hfz371_1 := blk_frozen BK207.out 1; have hcz372_0 : w370.cell? ⟨gb208, 0, none⟩ = some (.int .i64 a1_0) := (blk_cell BK208.out 0).trans rfl; have hcz372_1 : w370.cell? ⟨gb208, 1, none⟩ = some (.int .i64 a1_1) := (blk_cell BK208.out 1).trans rfl; have hfz372_0 := blk_frozen BK208.out 0; have hfz372_1 := blk_frozen BK208.out 1; have hcz373_0 : w370.cell? ⟨gb210, 0, none⟩ = some (.bool true) := (blk_cell BK210.out 0).trans rfl; have hcz373_1 : w370.cell? ⟨gb210, 1, none⟩ = some (.int .i64 a3_1) := (blk_cell BK210.out 1).trans rfl; have hfz373_0 := blk_frozen BK210.out 0; have hfz373_1 := blk_frozen BK210.out 1; have hcz374_0 : w370.cell? ⟨gb211, 0, none⟩ = some (.bool a4_0) := (blk_cell BK211.out 0).trans rfl; have hcz374_1 : w370.cell? ⟨gb211, 1, none⟩ = some (.int .i64 a4_1) := (blk_cell BK211.out 1).trans rfl; have hfz374_0 := blk_frozen BK211.out 0; have hfz374_1 := blk_frozen BK211.out 1))
                    go_ret
                    exact ⟨by first | rfl | (simp [errW_none, errW_some] <;> rfl) | (simp [*, errW_none, errW_some] <;> rfl), by repeat (first | (with_reducible first | exact HB.out | apply below_alloc | apply pw_below_drewN | apply below_drew1 | refine below_set ?_ GE207.out | refine below_set ?_ GE208.out | refine below_set ?_ GE209.out | refine below_set ?_ GE210.out | refine below_set ?_ GE211.out) | exact HB.out)⟩
                · replace c334 := Bool.eq_false_iff.mpr c334
                  subst c334
                  have H1 : (none) = some r := by rw [if_neg (show ¬ (false = true) by decide)] at H; exact H
                  clear H
                  have H := H1
                  clear H1
                  exact absurd H (by simp)
            · exact absurd rfl c294
  · replace c7 := Bool.eq_false_iff.mpr c7
    subst c7
    have H1 : (none) = some r := by rw [if_neg (show ¬ (false = true) by decide)] at H; exact H
    clear H
    have H := H1
    clear H1
    exact absurd H (by simp)

/-- THE ONE PURE STATEMENT of valancelaw10_StickWithin: yours. -/
def valancelaw10_StickWithin.Pure : Prop := ∀ (a0_0 : Int) (a0_1 : Int) (a1_0 : Int) (a1_1 : Int) (a2_0 : Int) (a2_1 : Int) (a3_0 : Bool) (a3_1 : Int) (a4_0 : Bool) (a4_1 : Int), (Lit.int .i64 a0_0).wf = true → (Lit.int .i64 a0_1).wf = true → (Lit.int .i64 a1_0).wf = true → (Lit.int .i64 a1_1).wf = true → (Lit.int .i64 a2_0).wf = true → (Lit.int .i64 a2_1).wf = true → (Lit.int .i64 a3_1).wf = true → (Lit.int .i64 a4_1).wf = true → ∃ k, valancelaw10_StickWithin.f k a0_0 a0_1 a1_0 a1_1 a2_0 a2_1 a3_0 a3_1 a4_0 a4_1 = some true
theorem valancelaw10_StickWithin.walk (P : valancelaw10_StickWithin.Pure) (a0_0 : Int) (a0_1 : Int) (a1_0 : Int) (a1_1 : Int) (a2_0 : Int) (a2_1 : Int) (a3_0 : Bool) (a3_1 : Int) (a4_0 : Bool) (a4_1 : Int) (w : World) (w0_0 : (Lit.int .i64 a0_0).wf = true) (w0_1 : (Lit.int .i64 a0_1).wf = true) (w1_0 : (Lit.int .i64 a1_0).wf = true) (w1_1 : (Lit.int .i64 a1_1).wf = true) (w2_0 : (Lit.int .i64 a2_0).wf = true) (w2_1 : (Lit.int .i64 a2_1).wf = true) (w3_1 : (Lit.int .i64 a3_1).wf = true) (w4_1 : (Lit.int .i64 a4_1).wf = true) :
    Calls Try.prog 5 #[.agg #[.int .i64 a0_0, .int .i64 a0_1], .agg #[.int .i64 a1_0, .int .i64 a1_1], .agg #[.int .i64 a2_0, .int .i64 a2_1], .agg #[.bool a3_0, .int .i64 a3_1], .agg #[.bool a4_0, .int .i64 a4_1]] w fun e w' => e = .returned (.bool true) ∧ Below w.heap.size w w' := by
  obtain ⟨k, h⟩ := P a0_0 a0_1 a1_0 a1_1 a2_0 a2_1 a3_0 a3_1 a4_0 a4_1 w0_0 w0_1 w1_0 w1_1 w2_0 w2_1 w3_1 w4_1
  refine (valancelaw10_StickWithin.calls k a0_0 a0_1 a1_0 a1_1 a2_0 a2_1 a3_0 a3_1 a4_0 a4_1 true w h).mono ?_
  rintro e w' ⟨rfl, hd⟩
  exact ⟨rfl, hd⟩

end Go.Proofs.Ytnmcefpnpfaklab.V
