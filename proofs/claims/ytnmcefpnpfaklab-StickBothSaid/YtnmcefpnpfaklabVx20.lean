/- What the functions of this seat answer, as plain Lean functions, and that the calls come to just that (written by a program of this repo, over the kit's printer; Lean checks it). -/
import Derived.Test.YtnmcefpnpfaklabVx0
import Derived.Test.YtnmcefpnpfaklabVx16
import Derived.Test.YtnmcefpnpfaklabVx18
namespace Go.Proofs.Ytnmcefpnpfaklab.V
open Go.RowKit Go.Proofs.Ytnmcefpnpfaklab.Flt Go.Proofs.YtnmcefpnpfaklabW.PrintWords Go.Proofs.YtnmcefpnpfaklabW.PrintLast Go.Proofs.YtnmcefpnpfaklabW.PrintMore
attribute [local go_sem high] run_eql_vpt2 run_neq_vpt2 eqGuard_vpt2 vpt2_zero run_add_vpt2
attribute [local go_sem] max2_int min2_int max_two min_two max_three min_three max_four min_four   -- for this text's walks alone
set_option linter.unusedVariables false
set_option linter.unusedSimpArgs false

/-! ### valanceref10_Sides: function 20 -/
mutual
def valanceref10_Sides.l0 : Nat → Int → Int → Int → Int → Int → Int → Int → Int → Int → Int → Int → Bool → Int → Bool → Int → Bool → Int → Bool → Int → Option (Bool × Int × Bool × Int × Bool × Int × Bool × Int)
  | 0, _, _, _, _, _, _, _, _, _, _, _, _, _, _, _, _, _, _, _ => none
  | k + 1, x1, x2, x8, x196000, x196001, x196002, x196003, x196004, x196005, x196006, x196007, x198000, x198001, x198002, x198003, x198004, x198005, x198006, x198007 => if x8 < 4 then (if (Int.tmod x8 2) = 1 then (valanceref10_Sides.j1 k x1 x2 x8 x1 x196000 x196001 x196002 x196003 x196004 x196005 x196006 x196007 x198000 x198001 x198002 x198003 x198004 x198005 x198006 x198007) else (valanceref10_Sides.j1 k x1 x2 x8 x2 x196000 x196001 x196002 x196003 x196004 x196005 x196006 x196007 x198000 x198001 x198002 x198003 x198004 x198005 x198006 x198007)) else (some (x198000, x198001, x198002, x198003, x198004, x198005, x198006, x198007))
def valanceref10_Sides.j1 : Nat → Int → Int → Int → Int → Int → Int → Int → Int → Int → Int → Int → Int → Bool → Int → Bool → Int → Bool → Int → Bool → Int → Option (Bool × Int × Bool × Int × Bool × Int × Bool × Int)
  | 0, _, _, _, _, _, _, _, _, _, _, _, _, _, _, _, _, _, _, _, _ => none
  | k + 1, x1, x2, x8, x9, x196000, x196001, x196002, x196003, x196004, x196005, x196006, x196007, x198000, x198001, x198002, x198003, x198004, x198005, x198006, x198007 => if x8 = 0 then ((valanceref05_Fixed.f x196000 x196001 x9).bind fun t198 => (if t198 = true then ((valanceref05_Of.f k x196000 x196001 x9 0).bind fun t199 => (valanceref10_Sides.l0 k x1 x2 (wrap64 (x8 + 1)) x196000 x196001 x196002 x196003 x196004 x196005 x196006 x196007 true t199 x198002 x198003 x198004 x198005 x198006 x198007)) else (valanceref10_Sides.l0 k x1 x2 (wrap64 (x8 + 1)) x196000 x196001 x196002 x196003 x196004 x196005 x196006 x196007 x198000 x198001 x198002 x198003 x198004 x198005 x198006 x198007))) else (if x8 = 1 then ((valanceref05_Fixed.f x196002 x196003 x9).bind fun t200 => (if t200 = true then ((valanceref05_Of.f k x196002 x196003 x9 0).bind fun t201 => (valanceref10_Sides.l0 k x1 x2 (wrap64 (x8 + 1)) x196000 x196001 x196002 x196003 x196004 x196005 x196006 x196007 x198000 x198001 true t201 x198004 x198005 x198006 x198007)) else (valanceref10_Sides.l0 k x1 x2 (wrap64 (x8 + 1)) x196000 x196001 x196002 x196003 x196004 x196005 x196006 x196007 x198000 x198001 x198002 x198003 x198004 x198005 x198006 x198007))) else (if x8 = 2 then ((valanceref05_Fixed.f x196004 x196005 x9).bind fun t202 => (if t202 = true then ((valanceref05_Of.f k x196004 x196005 x9 0).bind fun t203 => (valanceref10_Sides.l0 k x1 x2 (wrap64 (x8 + 1)) x196000 x196001 x196002 x196003 x196004 x196005 x196006 x196007 x198000 x198001 x198002 x198003 true t203 x198006 x198007)) else (valanceref10_Sides.l0 k x1 x2 (wrap64 (x8 + 1)) x196000 x196001 x196002 x196003 x196004 x196005 x196006 x196007 x198000 x198001 x198002 x198003 x198004 x198005 x198006 x198007))) else (if x8 = 3 then ((valanceref05_Fixed.f x196006 x196007 x9).bind fun t204 => (if t204 = true then ((valanceref05_Of.f k x196006 x196007 x9 0).bind fun t205 => (valanceref10_Sides.l0 k x1 x2 (wrap64 (x8 + 1)) x196000 x196001 x196002 x196003 x196004 x196005 x196006 x196007 x198000 x198001 x198002 x198003 x198004 x198005 true t205)) else (valanceref10_Sides.l0 k x1 x2 (wrap64 (x8 + 1)) x196000 x196001 x196002 x196003 x196004 x196005 x196006 x196007 x198000 x198001 x198002 x198003 x198004 x198005 x198006 x198007))) else (none))))
end
def valanceref10_Sides.f (k : Nat) (a0_0 : Int) (a0_1 : Int) (a0_2 : Int) (a0_3 : Int) (a0_4 : Int) (a0_5 : Int) (a0_6 : Int) (a0_7 : Int) (a1 : Int) (a2 : Int) : Option (Bool × Int × Bool × Int × Bool × Int × Bool × Int) := valanceref10_Sides.l0 k a1 a2 0 a0_0 a0_1 a0_2 a0_3 a0_4 a0_5 a0_6 a0_7 false 0 false 0 false 0 false 0
theorem valanceref10_Sides.mono_l : ∀ k, (∀ y0 y1 y2 y3 y4 y5 y6 y7 y8 y9 y10 y11 y12 y13 y14 y15 y16 y17 y18, LeO (valanceref10_Sides.l0 k y0 y1 y2 y3 y4 y5 y6 y7 y8 y9 y10 y11 y12 y13 y14 y15 y16 y17 y18) (valanceref10_Sides.l0 (k + 1) y0 y1 y2 y3 y4 y5 y6 y7 y8 y9 y10 y11 y12 y13 y14 y15 y16 y17 y18)) ∧ (∀ y0 y1 y2 y3 y4 y5 y6 y7 y8 y9 y10 y11 y12 y13 y14 y15 y16 y17 y18 y19, LeO (valanceref10_Sides.j1 k y0 y1 y2 y3 y4 y5 y6 y7 y8 y9 y10 y11 y12 y13 y14 y15 y16 y17 y18 y19) (valanceref10_Sides.j1 (k + 1) y0 y1 y2 y3 y4 y5 y6 y7 y8 y9 y10 y11 y12 y13 y14 y15 y16 y17 y18 y19))
  | 0 => ⟨fun _ _ _ _ _ _ _ _ _ _ _ _ _ _ _ _ _ _ _ r h => by simp [valanceref10_Sides.l0] at h, fun _ _ _ _ _ _ _ _ _ _ _ _ _ _ _ _ _ _ _ _ r h => by simp [valanceref10_Sides.j1] at h⟩
  | k + 1 => by
    obtain ⟨ih0, ih1⟩ := valanceref10_Sides.mono_l k
    refine ⟨?_, ?_⟩
    · intro y0 y1 y2 y3 y4 y5 y6 y7 y8 y9 y10 y11 y12 y13 y14 y15 y16 y17 y18
      unfold valanceref10_Sides.l0
      repeat' first
      | (with_reducible exact ih0 _ _ _ _ _ _ _ _ _ _ _ _ _ _ _ _ _ _ _)
      | (with_reducible exact ih1 _ _ _ _ _ _ _ _ _ _ _ _ _ _ _ _ _ _ _ _)
      | (with_reducible exact valanceref05_Of.mono _ _ _ _ _)
      | (with_reducible exact LeO.refl _)
      | (with_reducible exact LeO.none _)
      | (with_reducible refine LeO.ite ?_ ?_)
      | (with_reducible refine LeO.bind ?_ (fun _ => ?_))
      | exact ih0 _ _ _ _ _ _ _ _ _ _ _ _ _ _ _ _ _ _ _
      | exact ih1 _ _ _ _ _ _ _ _ _ _ _ _ _ _ _ _ _ _ _ _
      | exact valanceref05_Of.mono _ _ _ _ _
      | exact LeO.none _
      | refine LeO.ite ?_ ?_
      | refine LeO.bind ?_ (fun _ => ?_)
    · intro y0 y1 y2 y3 y4 y5 y6 y7 y8 y9 y10 y11 y12 y13 y14 y15 y16 y17 y18 y19
      unfold valanceref10_Sides.j1
      repeat' first
      | (with_reducible exact ih0 _ _ _ _ _ _ _ _ _ _ _ _ _ _ _ _ _ _ _)
      | (with_reducible exact ih1 _ _ _ _ _ _ _ _ _ _ _ _ _ _ _ _ _ _ _ _)
      | (with_reducible exact valanceref05_Of.mono _ _ _ _ _)
      | (with_reducible exact LeO.refl _)
      | (with_reducible exact LeO.none _)
      | (with_reducible refine LeO.ite ?_ ?_)
      | (with_reducible refine LeO.bind ?_ (fun _ => ?_))
      | exact ih0 _ _ _ _ _ _ _ _ _ _ _ _ _ _ _ _ _ _ _
      | exact ih1 _ _ _ _ _ _ _ _ _ _ _ _ _ _ _ _ _ _ _ _
      | exact valanceref05_Of.mono _ _ _ _ _
      | exact LeO.none _
      | refine LeO.ite ?_ ?_
      | refine LeO.bind ?_ (fun _ => ?_)
theorem valanceref10_Sides.mono : ∀ a0 a1 a2 a3 a4 a5 a6 a7 a8 a9 k, LeO (valanceref10_Sides.f k a0 a1 a2 a3 a4 a5 a6 a7 a8 a9) (valanceref10_Sides.f (k + 1) a0 a1 a2 a3 a4 a5 a6 a7 a8 a9) := by
  intro a0 a1 a2 a3 a4 a5 a6 a7 a8 a9 k
  obtain ⟨ih0, ih1⟩ := valanceref10_Sides.mono_l k
  unfold valanceref10_Sides.f
  repeat' first
      | (with_reducible exact ih0 _ _ _ _ _ _ _ _ _ _ _ _ _ _ _ _ _ _ _)
      | (with_reducible exact ih1 _ _ _ _ _ _ _ _ _ _ _ _ _ _ _ _ _ _ _ _)
      | (with_reducible exact valanceref05_Of.mono _ _ _ _ _)
      | (with_reducible exact LeO.refl _)
      | (with_reducible exact LeO.none _)
      | (with_reducible refine LeO.ite ?_ ?_)
      | (with_reducible refine LeO.bind ?_ (fun _ => ?_))
      | exact ih0 _ _ _ _ _ _ _ _ _ _ _ _ _ _ _ _ _ _ _
      | exact ih1 _ _ _ _ _ _ _ _ _ _ _ _ _ _ _ _ _ _ _ _
      | exact valanceref05_Of.mono _ _ _ _ _
      | exact LeO.none _
      | refine LeO.ite ?_ ?_
      | refine LeO.bind ?_ (fun _ => ?_)
set_option maxHeartbeats 8000000 in
set_option maxRecDepth 100000 in
theorem valanceref10_Sides.calls (k : Nat) (a0_0 : Int) (a0_1 : Int) (a0_2 : Int) (a0_3 : Int) (a0_4 : Int) (a0_5 : Int) (a0_6 : Int) (a0_7 : Int) (a1 : Int) (a2 : Int) (r1 : Bool) (r2 : Int) (r3 : Bool) (r4 : Int) (r5 : Bool) (r6 : Int) (r7 : Bool) (r8 : Int) (w : World) (h : valanceref10_Sides.f k a0_0 a0_1 a0_2 a0_3 a0_4 a0_5 a0_6 a0_7 a1 a2 = some (r1, r2, r3, r4, r5, r6, r7, r8)) :
    Calls Try.prog 20 #[.agg #[.int .i64 a0_0, .int .i64 a0_1, .int .i64 a0_2, .int .i64 a0_3, .int .i64 a0_4, .int .i64 a0_5, .int .i64 a0_6, .int .i64 a0_7], .int .i64 a1, .int .i64 a2] w fun e w' => e = .returned (.agg #[.bool r1, .int .i64 r2, .bool r3, .int .i64 r4, .bool r5, .int .i64 r6, .bool r7, .int .i64 r8]) ∧ Below w.heap.size w w' := by
  have hu37 := Try.underlying37
  have hu40 := Try.underlying40
  have hu36 := Try.underlying36
  have hu29 := Try.underlying29
  have HB := Aside0.mk (Below.refl w.heap.size w)
  have H : (valanceref10_Sides.l0 k a1 a2 0 a0_0 a0_1 a0_2 a0_3 a0_4 a0_5 a0_6 a0_7 false 0 false 0 false 0 false 0) = some (r1, r2, r3, r4, r5, r6, r7, r8) := h
  clear h
  have H' := Aside0.mk H
  clear H
  go_enter Try.func20, Try.ntmps20
  go_wp2_with (first | ((with_reducible refine gate_dst (N := 3) rfl ?_); refine box_event ?hg (N := 3) ?hd (cs := #[.int .i64 a0_0, .int .i64 a0_1, .int .i64 a0_2, .int .i64 a0_3, .int .i64 a0_4, .int .i64 a0_5, .int .i64 a0_6, .int .i64 a0_7]) (t := 37) ?hr ?_; (case hd => rfl); (case hg => rfl); (case hr => first | (go_simp; done) | (go_simp; rfl)); intro gb195 hg w4 hbox hb; have n0_ := Aside0.mk (below_step (by repeat (first | (with_reducible first | exact HB.out | apply below_alloc | apply pw_below_drewN | apply below_drew1) | exact HB.out)) hb); have n1_ := Aside0.mk (hbox); have n2_ := Aside0.mk ((by rw [hg]; exact (below_size (by repeat (first | (with_reducible first | exact HB.out | apply below_alloc | apply pw_below_drewN | apply below_drew1) | exact HB.out))) : w.heap.size ≤ gb195)); have n3_ := Aside0.mk ((by rw [hg]; exact (below_size (by repeat (first | (with_reducible first | exact HB.out | apply below_alloc | apply pw_below_drewN | apply below_drew1) | exact HB.out))) : w.heap.size ≤ gb195)); clear HB; have HB := n0_; have BK195 := n1_; have GW195 := n2_; have GE195 := n3_; clear n0_ n1_ n2_ n3_; clear hb hbox hg) | ((with_reducible refine gate_dst (N := 6) rfl ?_); refine box_event ?hg (N := 6) ?hd (cs := #[.bool false, .int .i64 0, .bool false, .int .i64 0, .bool false, .int .i64 0, .bool false, .int .i64 0]) (t := 40) ?hr ?_; (case hd => rfl); (case hg => rfl); (case hr => first | (go_simp; done) | (go_simp; rfl)); intro gb196 hg w5 hbox hb; have n0_ := Aside0.mk (blk_below (g := gb195) (o := .cells #[.int .i64 a0_0, .int .i64 a0_1, .int .i64 a0_2, .int .i64 a0_3, .int .i64 a0_4, .int .i64 a0_5, .int .i64 a0_6, .int .i64 a0_7] 37 (0, 0)) (by (with_reducible repeat (first | refine blk_drewN ?_ _ | refine blk_drew ?_ | refine blk_alloc ?_ _)); exact BK195.out) hb); have n1_ := Aside0.mk (below_step (by repeat (first | (with_reducible first | exact HB.out | apply below_alloc | apply pw_below_drewN | apply below_drew1 | refine below_set ?_ GE195.out) | exact HB.out)) hb); have n2_ := Aside0.mk (hbox); have n3_ := Aside0.mk ((by rw [hg]; exact (below_size (by repeat (first | (with_reducible first | exact HB.out | apply below_alloc | apply pw_below_drewN | apply below_drew1 | refine below_set ?_ GE195.out) | exact HB.out))) : w.heap.size ≤ gb196)); have n4_ := Aside0.mk ((by rw [hg]; exact (below_size (by repeat (first | (with_reducible first | exact HB.out | apply below_alloc | apply pw_below_drewN | apply below_drew1 | refine below_set ?_ GE195.out) | exact HB.out))) : w.heap.size ≤ gb196)); have n5_ := Aside0.mk ((by rw [hg]; exact Nat.ne_of_lt (blk_lt (g := gb195) (o := .cells #[.int .i64 a0_0, .int .i64 a0_1, .int .i64 a0_2, .int .i64 a0_3, .int .i64 a0_4, .int .i64 a0_5, .int .i64 a0_6, .int .i64 a0_7] 37 (0, 0)) (by (with_reducible repeat (first | refine blk_drewN ?_ _ | refine blk_drew ?_ | refine blk_alloc ?_ _)); exact BK195.out)) : gb195 ≠ gb196)); have n6_ := Aside0.mk ((by rw [hg]; exact Nat.ne_of_gt (blk_lt (g := gb195) (o := .cells #[.int .i64 a0_0, .int .i64 a0_1, .int .i64 a0_2, .int .i64 a0_3, .int .i64 a0_4, .int .i64 a0_5, .int .i64 a0_6, .int .i64 a0_7] 37 (0, 0)) (by (with_reducible repeat (first | refine blk_drewN ?_ _ | refine blk_drew ?_ | refine blk_alloc ?_ _)); exact BK195.out)) : gb196 ≠ gb195)); clear BK195; clear HB; have BK195 := n0_; have HB := n1_; have BK196 := n2_; have GW196 := n3_; have GE196 := n4_; have NB195_196 := n5_; have NB196_195 := n6_; clear n0_ n1_ n2_ n3_ n4_ n5_ n6_; clear hb hbox hg) | ((with_reducible refine gate_dst (N := 7) rfl ?_); refine box_event ?hg (N := 7) ?hd (cs := #[.bool false, .int .i64 0, .bool false, .int .i64 0, .bool false, .int .i64 0, .bool false, .int .i64 0]) (t := 40) ?hr ?_; (case hd => rfl); (case hg => rfl); (case hr => first | (go_simp; done) | (go_simp; rfl)); intro gb197 hg w6 hbox hb; have n0_ := Aside0.mk (blk_below (g := gb195) (o := .cells #[.int .i64 a0_0, .int .i64 a0_1, .int .i64 a0_2, .int .i64 a0_3, .int .i64 a0_4, .int .i64 a0_5, .int .i64 a0_6, .int .i64 a0_7] 37 (0, 0)) (by (with_reducible repeat (first | refine blk_drewN ?_ _ | refine blk_drew ?_ | refine blk_alloc ?_ _)); exact BK195.out) hb); have n1_ := Aside0.mk (blk_below (g := gb196) (o := .cells #[.bool false, .int .i64 0, .bool false, .int .i64 0, .bool false, .int .i64 0, .bool false, .int .i64 0] 40 (0, 0)) (by (with_reducible repeat (first | refine blk_drewN ?_ _ | refine blk_drew ?_ | refine blk_alloc ?_ _)); exact BK196.out) hb); have n2_ := Aside0.mk (below_step (by repeat (first | (with_reducible first | exact HB.out | apply below_alloc | apply pw_below_drewN | apply below_drew1 | refine below_set ?_ GE195.out | refine below_set ?_ GE196.out) | exact HB.out)) hb); have n3_ := Aside0.mk (hbox); have n4_ := Aside0.mk ((by rw [hg]; exact (below_size (by repeat (first | (with_reducible first | exact HB.out | apply below_alloc | apply pw_below_drewN | apply below_drew1 | refine below_set ?_ GE195.out | refine below_set ?_ GE196.out) | exact HB.out))) : w.heap.size ≤ gb197)); have n5_ := Aside0.mk ((by rw [hg]; exact (below_size (by repeat (first | (with_reducible first | exact HB.out | apply below_alloc | apply pw_below_drewN | apply below_drew1 | refine below_set ?_ GE195.out | refine below_set ?_ GE196.out) | exact HB.out))) : w.heap.size ≤ gb197)); have n6_ := Aside0.mk ((by rw [hg]; exact Nat.ne_of_lt (blk_lt (g := gb195) (o := .cells #[.int .i64 a0_0, .int .i64 a0_1, .int .i64 a0_2, .int .i64 a0_3, .int .i64 a0_4, .int .i64 a0_5, .int .i64 a0_6, .int .i64 a0_7] 37 (0, 0)) (by (with_reducible repeat (first | refine blk_drewN ?_ _ | refine blk_drew ?_ | refine blk_alloc ?_ _)); exact BK195.out)) : gb195 ≠ gb197)); have n7_ := Aside0.mk ((by rw [hg]; exact Nat.ne_of_gt (blk_lt (g := gb195) (o := .cells #[.int .i64 a0_0, .int .i64 a0_1, .int .i64 a0_2, .int .i64 a0_3, .int .i64 a0_4, .int .i64 a0_5, .int .i64 a0_6, .int .i64 a0_7] 37 (0, 0)) (by (with_reducible repeat (first | refine blk_drewN ?_ _ | refine blk_drew ?_ | refine blk_alloc ?_ _)); exact BK195.out)) : gb197 ≠ gb195)); have n8_ := Aside0.mk ((by rw [hg]; exact Nat.ne_of_lt (blk_lt (g := gb196) (o := .cells #[.bool false, .int .i64 0, .bool false, .int .i64 0, .bool false, .int .i64 0, .bool false, .int .i64 0] 40 (0, 0)) (by (with_reducible repeat (first | refine blk_drewN ?_ _ | refine blk_drew ?_ | refine blk_alloc ?_ _)); exact BK196.out)) : gb196 ≠ gb197)); have n9_ := Aside0.mk ((by rw [hg]; exact Nat.ne_of_gt (blk_lt (g := gb196) (o := .cells #[.bool false, .int .i64 0, .bool false, .int .i64 0, .bool false, .int .i64 0, .bool false, .int .i64 0] 40 (0, 0)) (by (with_reducible repeat (first | refine blk_drewN ?_ _ | refine blk_drew ?_ | refine blk_alloc ?_ _)); exact BK196.out)) : gb197 ≠ gb196)); clear BK195; clear BK196; clear HB; have BK195 := n0_; have BK196 := n1_; have HB := n2_; have BK197 := n3_; have GW197 := n4_; have GE197 := n5_; have NB195_197 := n6_; have NB197_195 := n7_; have NB196_197 := n8_; have NB197_196 := n9_; clear n0_ n1_ n2_ n3_ n4_ n5_ n6_ n7_ n8_ n9_; clear hb hbox hg))
  go_loopg [8] k (fun kq v8 w' => ∃ (x8_1 : Int) (x198000_1 : Bool) (x198001_1 : Int) (x198002_1 : Bool) (x198003_1 : Int) (x198004_1 : Bool) (x198005_1 : Int) (x198006_1 : Bool) (x198007_1 : Int), v8 = .int .i64 x8_1 ∧ Aside0 (valanceref10_Sides.l0 kq a1 a2 x8_1 a0_0 a0_1 a0_2 a0_3 a0_4 a0_5 a0_6 a0_7 x198000_1 x198001_1 x198002_1 x198003_1 x198004_1 x198005_1 x198006_1 x198007_1 = some (r1, r2, r3, r4, r5, r6, r7, r8)) ∧ Aside0 (kq ≤ k) ∧ Aside0 (w'.heap[gb195]? = some (.cells #[.int .i64 a0_0, .int .i64 a0_1, .int .i64 a0_2, .int .i64 a0_3, .int .i64 a0_4, .int .i64 a0_5, .int .i64 a0_6, .int .i64 a0_7] 37 (0, 0))) ∧ Aside0 (w'.heap[gb196]? = some (.cells #[.bool false, .int .i64 0, .bool false, .int .i64 0, .bool false, .int .i64 0, .bool false, .int .i64 0] 40 (0, 0))) ∧ Aside0 (w'.heap[gb197]? = some (.cells #[.bool x198000_1, .int .i64 x198001_1, .bool x198002_1, .int .i64 x198003_1, .bool x198004_1, .int .i64 x198005_1, .bool x198006_1, .int .i64 x198007_1] 40 (0, 0))) ∧ Aside0 (Below w.heap.size w w'))
  case atStart => exact ⟨(0), (false), (0), (false), (0), (false), (0), (false), (0), (by first | rfl | (simp; done) | (simp [*]; done)), H', ⟨Nat.le_refl _⟩, ⟨by (with_reducible repeat (first | refine blk_drewN ?_ _ | refine blk_drew ?_ | refine blk_alloc ?_ _)); exact BK195.out⟩, ⟨by (with_reducible repeat (first | refine blk_drewN ?_ _ | refine blk_drew ?_ | refine blk_alloc ?_ _)); exact BK196.out⟩, ⟨by (with_reducible repeat (first | refine blk_drewN ?_ _ | refine blk_drew ?_ | refine blk_alloc ?_ _)); exact BK197.out⟩, ⟨by repeat (first | (with_reducible first | exact HB.out | apply below_alloc | apply pw_below_drewN | apply below_drew1 | refine below_set ?_ GE195.out | refine below_set ?_ GE196.out | refine below_set ?_ GE197.out) | exact HB.out)⟩⟩
  case round =>
    clear H'
    try clear c2
    try clear p2
    obtain ⟨x8_1, x198000_1, x198001_1, x198002_1, x198003_1, x198004_1, x198005_1, x198006_1, x198007_1, rfl, HA, HK1, BK195, BK196, BK197, HB⟩ := hrel
    cases gk with
    | zero => exact absurd HA.out (by simp [valanceref10_Sides.l0])
    | succ k1 =>
      have H := HA.out
      clear HA
      simp only [valanceref10_Sides.l0] at H
      by_cases c7 : x8_1 < 4
      · rw [if_pos c7] at H
        have c7b0 : decide (x8_1 < 4) = true := decide_eq_true c7
        clear c7
        have HC8 := Aside0.mk H
        clear H
        go_upto_if 17 with (fail)
        go_cut [9] (fun v9 wc => ∃ (kq : Nat) (x9_7 : Int), v9 = .int .i64 x9_7 ∧ Aside0 (valanceref10_Sides.j1 kq a1 a2 x8_1 x9_7 a0_0 a0_1 a0_2 a0_3 a0_4 a0_5 a0_6 a0_7 x198000_1 x198001_1 x198002_1 x198003_1 x198004_1 x198005_1 x198006_1 x198007_1 = some (r1, r2, r3, r4, r5, r6, r7, r8)) ∧ Aside0 (kq ≤ k1) ∧ Aside0 (wc.heap[gb195]? = some (.cells #[.int .i64 a0_0, .int .i64 a0_1, .int .i64 a0_2, .int .i64 a0_3, .int .i64 a0_4, .int .i64 a0_5, .int .i64 a0_6, .int .i64 a0_7] 37 (0, 0))) ∧ Aside0 (wc.heap[gb196]? = some (.cells #[.bool false, .int .i64 0, .bool false, .int .i64 0, .bool false, .int .i64 0, .bool false, .int .i64 0] 40 (0, 0))) ∧ Aside0 (wc.heap[gb197]? = some (.cells #[.bool x198000_1, .int .i64 x198001_1, .bool x198002_1, .int .i64 x198003_1, .bool x198004_1, .int .i64 x198005_1, .bool x198006_1, .int .i64 x198007_1] 40 (0, 0))) ∧ Aside0 (Below w.heap.size w wc))
        case first =>
          have H := HC8.out
          clear HC8
          by_cases c9 : (Int.tmod x8_1 2) = 1
          · rw [if_pos c9] at H
            have c9b0 : ((Int.tmod x8_1 2) == 1) = true := beq_iff_eq.mpr c9
            have c9b1 : ((Int.tmod x8_1 2) != 1) = false := bne_eq_false_iff_eq.mpr c9
            clear c9
            (first | rw [c9b0] | (simp only [i64_w, i32_w]; rw [c9b0]) | skip)
            have H' := Aside0.mk H
            clear H
            go_wp2
            go_meet
            case rel => exact ⟨_, (a1), (by first | rfl | (simp; done) | (simp [*]; done)), H', ⟨by have := HK1.out; first | omega | exact Nat.le_refl _⟩, ⟨by (with_reducible repeat (first | refine blk_drewN ?_ _ | refine blk_drew ?_ | refine blk_alloc ?_ _)); exact BK195.out⟩, ⟨by (with_reducible repeat (first | refine blk_drewN ?_ _ | refine blk_drew ?_ | refine blk_alloc ?_ _)); exact BK196.out⟩, ⟨by (with_reducible repeat (first | refine blk_drewN ?_ _ | refine blk_drew ?_ | refine blk_alloc ?_ _)); exact BK197.out⟩, ⟨by repeat (first | (with_reducible first | exact HB.out | apply below_alloc | apply pw_below_drewN | apply below_drew1 | refine below_set ?_ GE195.out | refine below_set ?_ GE196.out | refine below_set ?_ GE197.out) | exact HB.out)⟩⟩
          · rw [if_neg c9] at H
            have c9b0 : ((Int.tmod x8_1 2) == 1) = false := beq_eq_false_iff_ne.mpr c9
            have c9b1 : ((Int.tmod x8_1 2) != 1) = true := bne_iff_ne.mpr c9
            (first | rw [c9b0] | (simp only [i64_w, i32_w]; rw [c9b0]) | skip)
            have H' := Aside0.mk H
            clear H
            go_wp2
            go_meet
            case rel => exact ⟨_, (a2), (by first | rfl | (simp; done) | (simp [*]; done)), H', ⟨by have := HK1.out; first | omega | exact Nat.le_refl _⟩, ⟨by (with_reducible repeat (first | refine blk_drewN ?_ _ | refine blk_drew ?_ | refine blk_alloc ?_ _)); exact BK195.out⟩, ⟨by (with_reducible repeat (first | refine blk_drewN ?_ _ | refine blk_drew ?_ | refine blk_alloc ?_ _)); exact BK196.out⟩, ⟨by (with_reducible repeat (first | refine blk_drewN ?_ _ | refine blk_drew ?_ | refine blk_alloc ?_ _)); exact BK197.out⟩, ⟨by repeat (first | (with_reducible first | exact HB.out | apply below_alloc | apply pw_below_drewN | apply below_drew1 | refine below_set ?_ GE195.out | refine below_set ?_ GE196.out | refine below_set ?_ GE197.out) | exact HB.out)⟩⟩
        case rest =>
          clear HC8
          try clear c2
          try clear p2
          try clear c7
          try clear c7b0
          try clear c9
          try clear c9b0
          try clear c9b1
          try clear p2
          obtain ⟨kq, x9_7, rfl, HA, HJ7, BK195, BK196, BK197, HB⟩ := hcut
          cases kq with
          | zero => exact absurd HA.out (by simp [valanceref10_Sides.j1])
          | succ kj7 =>
            have H := HA.out
            clear HA
            simp only [valanceref10_Sides.j1] at H
            by_cases c10 : x8_1 = 0
            · subst c10
              have H1 : ((valanceref05_Fixed.f a0_0 a0_1 x9_7).bind fun t198 => (if t198 = true then ((valanceref05_Of.f kj7 a0_0 a0_1 x9_7 0).bind fun t199 => (valanceref10_Sides.l0 kj7 a1 a2 (wrap64 (0 + 1)) a0_0 a0_1 a0_2 a0_3 a0_4 a0_5 a0_6 a0_7 true t199 x198002_1 x198003_1 x198004_1 x198005_1 x198006_1 x198007_1)) else (valanceref10_Sides.l0 kj7 a1 a2 (wrap64 (0 + 1)) a0_0 a0_1 a0_2 a0_3 a0_4 a0_5 a0_6 a0_7 x198000_1 x198001_1 x198002_1 x198003_1 x198004_1 x198005_1 x198006_1 x198007_1))) = some (r1, r2, r3, r4, r5, r6, r7, r8) := by rw [if_pos rfl] at H; exact H
              clear H
              have H := H1
              clear H1
              replace H := Option.bind_eq_some_iff.mp H
              obtain ⟨t198, A110, H⟩ := H
              replace H : (if t198 = true then ((valanceref05_Of.f kj7 a0_0 a0_1 x9_7 0).bind fun t199 => (valanceref10_Sides.l0 kj7 a1 a2 (wrap64 (0 + 1)) a0_0 a0_1 a0_2 a0_3 a0_4 a0_5 a0_6 a0_7 true t199 x198002_1 x198003_1 x198004_1 x198005_1 x198006_1 x198007_1)) else (valanceref10_Sides.l0 kj7 a1 a2 (wrap64 (0 + 1)) a0_0 a0_1 a0_2 a0_3 a0_4 a0_5 a0_6 a0_7 x198000_1 x198001_1 x198002_1 x198003_1 x198004_1 x198005_1 x198006_1 x198007_1)) = some (r1, r2, r3, r4, r5, r6, r7, r8) := H
              have A11 := Aside0.mk A110
              clear A110
              by_cases c12 : t198 = true
              · subst c12
                have H1 : ((valanceref05_Of.f kj7 a0_0 a0_1 x9_7 0).bind fun t199 => (valanceref10_Sides.l0 kj7 a1 a2 (wrap64 (0 + 1)) a0_0 a0_1 a0_2 a0_3 a0_4 a0_5 a0_6 a0_7 true t199 x198002_1 x198003_1 x198004_1 x198005_1 x198006_1 x198007_1)) = some (r1, r2, r3, r4, r5, r6, r7, r8) := by rw [if_pos rfl] at H; exact H
                clear H
                have H := H1
                clear H1
                replace H := Option.bind_eq_some_iff.mp H
                obtain ⟨t199, A130, H⟩ := H
                replace H : (valanceref10_Sides.l0 kj7 a1 a2 (wrap64 (0 + 1)) a0_0 a0_1 a0_2 a0_3 a0_4 a0_5 a0_6 a0_7 true t199 x198002_1 x198003_1 x198004_1 x198005_1 x198006_1 x198007_1) = some (r1, r2, r3, r4, r5, r6, r7, r8) := H
                have A13 := Aside0.mk A130
                clear A130
                have H' := Aside0.mk H
                clear H
                have hnb14 := NB195_196.out
                have hnc14 := NB196_195.out
                have hnb15 := NB195_197.out
                have hnc15 := NB197_195.out
                have hcz16_0 : wc.cell? ⟨gb195, 0, none⟩ = some (.int .i64 a0_0) := (blk_cell BK195.out 0).trans rfl
                have hcz16_1 : wc.cell? ⟨gb195, 1, none⟩ = some (.int .i64 a0_1) := (blk_cell BK195.out 1).trans rfl
                have hcz16_2 : wc.cell? ⟨gb195, 2, none⟩ = some (.int .i64 a0_2) := (blk_cell BK195.out 2).trans rfl
                have hcz16_3 : wc.cell? ⟨gb195, 3, none⟩ = some (.int .i64 a0_3) := (blk_cell BK195.out 3).trans rfl
                have hcz16_4 : wc.cell? ⟨gb195, 4, none⟩ = some (.int .i64 a0_4) := (blk_cell BK195.out 4).trans rfl
                have hcz16_5 : wc.cell? ⟨gb195, 5, none⟩ = some (.int .i64 a0_5) := (blk_cell BK195.out 5).trans rfl
                have hcz16_6 : wc.cell? ⟨gb195, 6, none⟩ = some (.int .i64 a0_6) := (blk_cell BK195.out 6).trans rfl
                have hcz16_7 : wc.cell? ⟨gb195, 7, none⟩ = some (.int .i64 a0_7) := (blk_cell BK195.out 7).trans rfl
                have hfz16_0 := blk_frozen BK195.out 0
                have hfz16_1 := blk_frozen BK195.out 1
                have hfz16_2 := blk_frozen BK195.out 2
                have hfz16_3 := blk_frozen BK195.out 3
                have hfz16_4 := blk_frozen BK195.out 4
                have hfz16_5 := blk_frozen BK195.out 5
                have hfz16_6 := blk_frozen BK195.out 6
                have hfz16_7 := blk_frozen BK195.out 7
                go_wp2_with (first | ((with_reducible refine gate_callee (f := 43) rfl ?_); refine goesL_ (some 23) rfl rfl Try.func43 (by kernel_rfl) rfl #[.agg #[.int .i64 a0_0, .int .i64 a0_1], .int .i64 x9_7] rfl (by (try simp only [List.map_toArray, List.map_cons, List.map_nil]); first | done | rfl | (simp only [List.length_drop, List.length_take]; rfl)) ?_; (with_reducible refine (valanceref05_Fixed.calls a0_0 a0_1 x9_7 true _ A11.out).mono ?_); rintro e w17 ⟨rfl, hb⟩; refine ⟨_, rfl, ?_⟩; have n0_ := Aside0.mk (blk_below (g := gb195) (o := .cells #[.int .i64 a0_0, .int .i64 a0_1, .int .i64 a0_2, .int .i64 a0_3, .int .i64 a0_4, .int .i64 a0_5, .int .i64 a0_6, .int .i64 a0_7] 37 (0, 0)) (by (with_reducible repeat (first | refine blk_drewN ?_ _ | refine blk_drew ?_ | refine blk_alloc ?_ _)); exact BK195.out) hb); have n1_ := Aside0.mk (blk_below (g := gb196) (o := .cells #[.bool false, .int .i64 0, .bool false, .int .i64 0, .bool false, .int .i64 0, .bool false, .int .i64 0] 40 (0, 0)) (by (with_reducible repeat (first | refine blk_drewN ?_ _ | refine blk_drew ?_ | refine blk_alloc ?_ _)); exact BK196.out) hb); have n2_ := Aside0.mk (blk_below (g := gb197) (o := .cells #[.bool x198000_1, .int .i64 x198001_1, .bool x198002_1, .int .i64 x198003_1, .bool x198004_1, .int .i64 x198005_1, .bool x198006_1, .int .i64 x198007_1] 40 (0, 0)) (by (with_reducible repeat (first | refine blk_drewN ?_ _ | refine blk_drew ?_ | refine blk_alloc ?_ _)); exact BK197.out) hb); have n3_ := Aside0.mk (below_step (by repeat (first | (with_reducible first | exact HB.out | apply below_alloc | apply pw_below_drewN | apply below_drew1 | refine below_set ?_ GE195.out | refine below_set ?_ GE196.out | refine below_set ?_ GE197.out) | exact HB.out)) hb); clear BK195; clear BK196; clear BK197; clear HB; have BK195 := n0_; have BK196 := n1_; have BK197 := n2_; have HB := n3_; clear n0_ n1_ n2_ n3_; (try clear hb); (try clear hb2); (try clear hk); (try clear hi); have hcz18_0 : w17.cell? ⟨gb195, 0, none⟩ = some (.int .i64 a0_0) := (blk_cell BK195.out 0).trans rfl; have hcz18_1 : w17.cell? ⟨gb195, 1, none⟩ = some (.int .i64 a0_1) := (blk_cell BK195.out 1).trans rfl; have hcz18_2 : w17.cell? ⟨gb195, 2, none⟩ = some (.int .i64 a0_2) := (blk_cell BK195.out 2).trans rfl; have hcz18_3 : w17.cell? ⟨gb195, 3, none⟩ = some (.int .i64 a0_3) := (blk_cell BK195.out 3).trans rfl; have hcz18_4 : w17.cell? ⟨gb195, 4, none⟩ = some (.int .i64 a0_4) := (blk_cell BK195.out 4).trans rfl; have hcz18_5 : w17.cell? ⟨gb195, 5, none⟩ = some (.int .i64 a0_5) := (blk_cell BK195.out 5).trans rfl; have hcz18_6 : w17.cell? ⟨gb195, 6, none⟩ = some (.int .i64 a0_6) := (blk_cell BK195.out 6).trans rfl; have hcz18_7 : w17.cell? ⟨gb195, 7, none⟩ = some (.int .i64 a0_7) := (blk_cell BK195.out 7).trans rfl; have hfz18_0 := blk_frozen BK195.out 0; have hfz18_1 := blk_frozen BK195.out 1; have hfz18_2 := blk_frozen BK195.out 2; have hfz18_3 := blk_frozen BK195.out 3; have hfz18_4 := blk_frozen BK195.out 4; have hfz18_5 := blk_frozen BK195.out 5; have hfz18_6 := blk_frozen BK195.out 6; have hfz18_7 := blk_frozen BK195.out 7) | ((with_reducible refine gate_callee (f := 44) rfl ?_); refine goesL_ (some 29) rfl rfl Try.func44 (by kernel_rfl) rfl #[.agg #[.int .i64 a0_0, .int .i64 a0_1], .int .i64 x9_7, .int .i64 0] rfl (by (try simp only [List.map_toArray, List.map_cons, List.map_nil]); first | done | rfl | (simp only [List.length_drop, List.length_take]; rfl)) ?_; (with_reducible refine (valanceref05_Of.calls kj7 a0_0 a0_1 x9_7 0 t199 _ A13.out).mono ?_); rintro e w19 ⟨rfl, hb⟩; refine ⟨_, rfl, ?_⟩; have n0_ := Aside0.mk (blk_below (g := gb195) (o := .cells #[.int .i64 a0_0, .int .i64 a0_1, .int .i64 a0_2, .int .i64 a0_3, .int .i64 a0_4, .int .i64 a0_5, .int .i64 a0_6, .int .i64 a0_7] 37 (0, 0)) (by (with_reducible repeat (first | refine blk_drewN ?_ _ | refine blk_drew ?_ | refine blk_alloc ?_ _)); exact BK195.out) hb); have n1_ := Aside0.mk (blk_below (g := gb196) (o := .cells #[.bool false, .int .i64 0, .bool false, .int .i64 0, .bool false, .int .i64 0, .bool false, .int .i64 0] 40 (0, 0)) (by (with_reducible repeat (first | refine blk_drewN ?_ _ | refine blk_drew ?_ | refine blk_alloc ?_ _)); exact BK196.out) hb); have n2_ := Aside0.mk (blk_below (g := gb197) (o := .cells #[.bool x198000_1, .int .i64 x198001_1, .bool x198002_1, .int .i64 x198003_1, .bool x198004_1, .int .i64 x198005_1, .bool x198006_1, .int .i64 x198007_1] 40 (0, 0)) (by (with_reducible repeat (first | refine blk_drewN ?_ _ | refine blk_drew ?_ | refine blk_alloc ?_ _)); exact BK197.out) hb); have n3_ := Aside0.mk (below_step (by repeat (first | (with_reducible first | exact HB.out | apply below_alloc | apply pw_below_drewN | apply below_drew1 | refine below_set ?_ GE195.out | refine below_set ?_ GE196.out | refine below_set ?_ GE197.out) | exact HB.out)) hb); clear BK195; clear BK196; clear BK197; clear HB; have BK195 := n0_; have BK196 := n1_; have BK197 := n2_; have HB := n3_; clear n0_ n1_ n2_ n3_; (try clear hb); (try clear hb2); (try clear hk); (try clear hi); have hnb20 := NB197_196.out; have hnc20 := NB196_197.out; have hcz21_0 : w19.cell? ⟨gb197, 0, none⟩ = some (.bool x198000_1) := (blk_cell BK197.out 0).trans rfl; have hcz21_1 : w19.cell? ⟨gb197, 1, none⟩ = some (.int .i64 x198001_1) := (blk_cell BK197.out 1).trans rfl; have hcz21_2 : w19.cell? ⟨gb197, 2, none⟩ = some (.bool x198002_1) := (blk_cell BK197.out 2).trans rfl; have hcz21_3 : w19.cell? ⟨gb197, 3, none⟩ = some (.int .i64 x198003_1) := (blk_cell BK197.out 3).trans rfl; have hcz21_4 : w19.cell? ⟨gb197, 4, none⟩ = some (.bool x198004_1) := (blk_cell BK197.out 4).trans rfl; have hcz21_5 : w19.cell? ⟨gb197, 5, none⟩ = some (.int .i64 x198005_1) := (blk_cell BK197.out 5).trans rfl; have hcz21_6 : w19.cell? ⟨gb197, 6, none⟩ = some (.bool x198006_1) := (blk_cell BK197.out 6).trans rfl; have hcz21_7 : w19.cell? ⟨gb197, 7, none⟩ = some (.int .i64 x198007_1) := (blk_cell BK197.out 7).trans rfl; have hfz21_0 := blk_frozen BK197.out 0; have hfz21_1 := blk_frozen BK197.out 1; have hfz21_2 := blk_frozen BK197.out 2; have hfz21_3 := blk_frozen BK197.out 3; have hfz21_4 := blk_frozen BK197.out 4; have hfz21_5 := blk_frozen BK197.out 5; have hfz21_6 := blk_frozen BK197.out 6; have hfz21_7 := blk_frozen BK197.out 7))
                go_roundg kj7
                case measure => have := HK1.out; have := HJ7.out; omega
                case rel => exact ⟨(wrap64 (0 + 1)), (true), (t199), (x198002_1), (x198003_1), (x198004_1), (x198005_1), (x198006_1), (x198007_1), (by first | rfl | (simp <;> unfold wrap64 <;> omega) | (simp; done) | (simp [*]; done)), H', ⟨by have := HK1.out; have := HJ7.out; omega⟩, ⟨by (with_reducible repeat (first | refine blk_drewN ?_ _ | refine blk_drew ?_ | refine blk_alloc ?_ _)); refine blk_far ?_ NB195_197.out _; (with_reducible repeat (first | refine blk_drewN ?_ _ | refine blk_drew ?_ | refine blk_alloc ?_ _)); refine blk_far ?_ NB195_197.out _; (with_reducible repeat (first | refine blk_drewN ?_ _ | refine blk_drew ?_ | refine blk_alloc ?_ _)); exact BK195.out⟩, ⟨by (with_reducible repeat (first | refine blk_drewN ?_ _ | refine blk_drew ?_ | refine blk_alloc ?_ _)); refine blk_far ?_ NB196_197.out _; (with_reducible repeat (first | refine blk_drewN ?_ _ | refine blk_drew ?_ | refine blk_alloc ?_ _)); refine blk_far ?_ NB196_197.out _; (with_reducible repeat (first | refine blk_drewN ?_ _ | refine blk_drew ?_ | refine blk_alloc ?_ _)); exact BK196.out⟩, ⟨by (with_reducible repeat (first | refine blk_drewN ?_ _ | refine blk_drew ?_ | refine blk_alloc ?_ _)); refine blk_put (cs := #[.bool true, .int .i64 x198001_1, .bool x198002_1, .int .i64 x198003_1, .bool x198004_1, .int .i64 x198005_1, .bool x198006_1, .int .i64 x198007_1]) ?_ 1 _ rfl; (with_reducible repeat (first | refine blk_drewN ?_ _ | refine blk_drew ?_ | refine blk_alloc ?_ _)); refine blk_put (cs := #[.bool x198000_1, .int .i64 x198001_1, .bool x198002_1, .int .i64 x198003_1, .bool x198004_1, .int .i64 x198005_1, .bool x198006_1, .int .i64 x198007_1]) ?_ 0 _ rfl; (with_reducible repeat (first | refine blk_drewN ?_ _ | refine blk_drew ?_ | refine blk_alloc ?_ _)); exact BK197.out⟩, ⟨by repeat (first | (with_reducible first | exact HB.out | apply below_alloc | apply pw_below_drewN | apply below_drew1 | refine below_set ?_ GE195.out | refine below_set ?_ GE196.out | refine below_set ?_ GE197.out) | exact HB.out)⟩⟩
              · replace c12 := Bool.eq_false_iff.mpr c12
                subst c12
                have H1 : (valanceref10_Sides.l0 kj7 a1 a2 (wrap64 (0 + 1)) a0_0 a0_1 a0_2 a0_3 a0_4 a0_5 a0_6 a0_7 x198000_1 x198001_1 x198002_1 x198003_1 x198004_1 x198005_1 x198006_1 x198007_1) = some (r1, r2, r3, r4, r5, r6, r7, r8) := by rw [if_neg (show ¬ (false = true) by decide)] at H; exact H
                clear H
                have H := H1
                clear H1
                have H' := Aside0.mk H
                clear H
                have hnb22 := NB195_196.out
                have hnc22 := NB196_195.out
                have hnb23 := NB195_197.out
                have hnc23 := NB197_195.out
                have hcz24_0 : wc.cell? ⟨gb195, 0, none⟩ = some (.int .i64 a0_0) := (blk_cell BK195.out 0).trans rfl
                have hcz24_1 : wc.cell? ⟨gb195, 1, none⟩ = some (.int .i64 a0_1) := (blk_cell BK195.out 1).trans rfl
                have hcz24_2 : wc.cell? ⟨gb195, 2, none⟩ = some (.int .i64 a0_2) := (blk_cell BK195.out 2).trans rfl
                have hcz24_3 : wc.cell? ⟨gb195, 3, none⟩ = some (.int .i64 a0_3) := (blk_cell BK195.out 3).trans rfl
                have hcz24_4 : wc.cell? ⟨gb195, 4, none⟩ = some (.int .i64 a0_4) := (blk_cell BK195.out 4).trans rfl
                have hcz24_5 : wc.cell? ⟨gb195, 5, none⟩ = some (.int .i64 a0_5) := (blk_cell BK195.out 5).trans rfl
                have hcz24_6 : wc.cell? ⟨gb195, 6, none⟩ = some (.int .i64 a0_6) := (blk_cell BK195.out 6).trans rfl
                have hcz24_7 : wc.cell? ⟨gb195, 7, none⟩ = some (.int .i64 a0_7) := (blk_cell BK195.out 7).trans rfl
                have hfz24_0 := blk_frozen BK195.out 0
                have hfz24_1 := blk_frozen BK195.out 1
                have hfz24_2 := blk_frozen BK195.out 2
                have hfz24_3 := blk_frozen BK195.out 3
                have hfz24_4 := blk_frozen BK195.out 4
                have hfz24_5 := blk_frozen BK195.out 5
                have hfz24_6 := blk_frozen BK195.out 6
                have hfz24_7 := blk_frozen BK195.out 7
                go_wp2_with (first | ((with_reducible refine gate_callee (f := 43) rfl ?_); refine goesL_ (some 23) rfl rfl Try.func43 (by kernel_rfl) rfl #[.agg #[.int .i64 a0_0, .int .i64 a0_1], .int .i64 x9_7] rfl (by (try simp only [List.map_toArray, List.map_cons, List.map_nil]); first | done | rfl | (simp only [List.length_drop, List.length_take]; rfl)) ?_; (with_reducible refine (valanceref05_Fixed.calls a0_0 a0_1 x9_7 false _ A11.out).mono ?_); rintro e w25 ⟨rfl, hb⟩; refine ⟨_, rfl, ?_⟩; have n0_ := Aside0.mk (blk_below (g := gb195) (o := .cells #[.int .i64 a0_0, .int .i64 a0_1, .int .i64 a0_2, .int .i64 a0_3, .int .i64 a0_4, .int .i64 a0_5, .int .i64 a0_6, .int .i64 a0_7] 37 (0, 0)) (by (with_reducible repeat (first | refine blk_drewN ?_ _ | refine blk_drew ?_ | refine blk_alloc ?_ _)); exact BK195.out) hb); have n1_ := Aside0.mk (blk_below (g := gb196) (o := .cells #[.bool false, .int .i64 0, .bool false, .int .i64 0, .bool false, .int .i64 0, .bool false, .int .i64 0] 40 (0, 0)) (by (with_reducible repeat (first | refine blk_drewN ?_ _ | refine blk_drew ?_ | refine blk_alloc ?_ _)); exact BK196.out) hb); have n2_ := Aside0.mk (blk_below (g := gb197) (o := .cells #[.bool x198000_1, .int .i64 x198001_1, .bool x198002_1, .int .i64 x198003_1, .bool x198004_1, .int .i64 x198005_1, .bool x198006_1, .int .i64 x198007_1] 40 (0, 0)) (by (with_reducible repeat (first | refine blk_drewN ?_ _ | refine blk_drew ?_ | refine blk_alloc ?_ _)); exact BK197.out) hb); have n3_ := Aside0.mk (below_step (by repeat (first | (with_reducible first | exact HB.out | apply below_alloc | apply pw_below_drewN | apply below_drew1 | refine below_set ?_ GE195.out | refine below_set ?_ GE196.out | refine below_set ?_ GE197.out) | exact HB.out)) hb); clear BK195; clear BK196; clear BK197; clear HB; have BK195 := n0_; have BK196 := n1_; have BK197 := n2_; have HB := n3_; clear n0_ n1_ n2_ n3_; (try clear hb); (try clear hb2); (try clear hk); (try clear hi)))
                go_roundg kj7
                case measure => have := HK1.out; have := HJ7.out; omega
                case rel => exact ⟨(wrap64 (0 + 1)), (x198000_1), (x198001_1), (x198002_1), (x198003_1), (x198004_1), (x198005_1), (x198006_1), (x198007_1), (by first | rfl | (simp <;> unfold wrap64 <;> omega) | (simp; done) | (simp [*]; done)), H', ⟨by have := HK1.out; have := HJ7.out; omega⟩, ⟨by (with_reducible repeat (first | refine blk_drewN ?_ _ | refine blk_drew ?_ | refine blk_alloc ?_ _)); exact BK195.out⟩, ⟨by (with_reducible repeat (first | refine blk_drewN ?_ _ | refine blk_drew ?_ | refine blk_alloc ?_ _)); exact BK196.out⟩, ⟨by (with_reducible repeat (first | refine blk_drewN ?_ _ | refine blk_drew ?_ | refine blk_alloc ?_ _)); exact BK197.out⟩, ⟨by repeat (first | (with_reducible first | exact HB.out | apply below_alloc | apply pw_below_drewN | apply below_drew1 | refine below_set ?_ GE195.out | refine below_set ?_ GE196.out | refine below_set ?_ GE197.out) | exact HB.out)⟩⟩
            · rw [if_neg c10] at H
              by_cases c26 : x8_1 = 1
              · subst c26
                have H1 : ((valanceref05_Fixed.f a0_2 a0_3 x9_7).bind fun t200 => (if t200 = true then ((valanceref05_Of.f kj7 a0_2 a0_3 x9_7 0).bind fun t201 => (valanceref10_Sides.l0 kj7 a1 a2 (wrap64 (1 + 1)) a0_0 a0_1 a0_2 a0_3 a0_4 a0_5 a0_6 a0_7 x198000_1 x198001_1 true t201 x198004_1 x198005_1 x198006_1 x198007_1)) else (valanceref10_Sides.l0 kj7 a1 a2 (wrap64 (1 + 1)) a0_0 a0_1 a0_2 a0_3 a0_4 a0_5 a0_6 a0_7 x198000_1 x198001_1 x198002_1 x198003_1 x198004_1 x198005_1 x198006_1 x198007_1))) = some (r1, r2, r3, r4, r5, r6, r7, r8) := by rw [if_pos rfl] at H; exact H
                clear H
                have H := H1
                clear H1
                replace H := Option.bind_eq_some_iff.mp H
                obtain ⟨t200, A270, H⟩ := H
                replace H : (if t200 = true then ((valanceref05_Of.f kj7 a0_2 a0_3 x9_7 0).bind fun t201 => (valanceref10_Sides.l0 kj7 a1 a2 (wrap64 (1 + 1)) a0_0 a0_1 a0_2 a0_3 a0_4 a0_5 a0_6 a0_7 x198000_1 x198001_1 true t201 x198004_1 x198005_1 x198006_1 x198007_1)) else (valanceref10_Sides.l0 kj7 a1 a2 (wrap64 (1 + 1)) a0_0 a0_1 a0_2 a0_3 a0_4 a0_5 a0_6 a0_7 x198000_1 x198001_1 x198002_1 x198003_1 x198004_1 x198005_1 x198006_1 x198007_1)) = some (r1, r2, r3, r4, r5, r6, r7, r8) := H
                have A27 := Aside0.mk A270
                clear A270
                by_cases c28 : t200 = true
                · subst c28
                  have H1 : ((valanceref05_Of.f kj7 a0_2 a0_3 x9_7 0).bind fun t201 => (valanceref10_Sides.l0 kj7 a1 a2 (wrap64 (1 + 1)) a0_0 a0_1 a0_2 a0_3 a0_4 a0_5 a0_6 a0_7 x198000_1 x198001_1 true t201 x198004_1 x198005_1 x198006_1 x198007_1)) = some (r1, r2, r3, r4, r5, r6, r7, r8) := by rw [if_pos rfl] at H; exact H
                  clear H
                  have H := H1
                  clear H1
                  replace H := Option.bind_eq_some_iff.mp H
                  obtain ⟨t201, A290, H⟩ := H
                  replace H : (valanceref10_Sides.l0 kj7 a1 a2 (wrap64 (1 + 1)) a0_0 a0_1 a0_2 a0_3 a0_4 a0_5 a0_6 a0_7 x198000_1 x198001_1 true t201 x198004_1 x198005_1 x198006_1 x198007_1) = some (r1, r2, r3, r4, r5, r6, r7, r8) := H
                  have A29 := Aside0.mk A290
                  clear A290
                  have H' := Aside0.mk H
                  clear H
                  have hnb30 := NB195_196.out
                  have hnc30 := NB196_195.out
                  have hnb31 := NB195_197.out
                  have hnc31 := NB197_195.out
                  have hcz32_0 : wc.cell? ⟨gb195, 0, none⟩ = some (.int .i64 a0_0) := (blk_cell BK195.out 0).trans rfl
                  have hcz32_1 : wc.cell? ⟨gb195, 1, none⟩ = some (.int .i64 a0_1) := (blk_cell BK195.out 1).trans rfl
                  have hcz32_2 : wc.cell? ⟨gb195, 2, none⟩ = some (.int .i64 a0_2) := (blk_cell BK195.out 2).trans rfl
                  have hcz32_3 : wc.cell? ⟨gb195, 3, none⟩ = some (.int .i64 a0_3) := (blk_cell BK195.out 3).trans rfl
                  have hcz32_4 : wc.cell? ⟨gb195, 4, none⟩ = some (.int .i64 a0_4) := (blk_cell BK195.out 4).trans rfl
                  have hcz32_5 : wc.cell? ⟨gb195, 5, none⟩ = some (.int .i64 a0_5) := (blk_cell BK195.out 5).trans rfl
                  have hcz32_6 : wc.cell? ⟨gb195, 6, none⟩ = some (.int .i64 a0_6) := (blk_cell BK195.out 6).trans rfl
                  have hcz32_7 : wc.cell? ⟨gb195, 7, none⟩ = some (.int .i64 a0_7) := (blk_cell BK195.out 7).trans rfl
                  have hfz32_0 := blk_frozen BK195.out 0
                  have hfz32_1 := blk_frozen BK195.out 1
                  have hfz32_2 := blk_frozen BK195.out 2
                  have hfz32_3 := blk_frozen BK195.out 3
                  have hfz32_4 := blk_frozen BK195.out 4
                  have hfz32_5 := blk_frozen BK195.out 5
                  have hfz32_6 := blk_frozen BK195.out 6
                  have hfz32_7 := blk_frozen BK195.out 7
                  go_wp2_with (first | ((with_reducible refine gate_callee (f := 43) rfl ?_); refine goesL_ (some 23) rfl rfl Try.func43 (by kernel_rfl) rfl #[.agg #[.int .i64 a0_2, .int .i64 a0_3], .int .i64 x9_7] rfl (by (try simp only [List.map_toArray, List.map_cons, List.map_nil]); first | done | rfl | (simp only [List.length_drop, List.length_take]; rfl)) ?_; (with_reducible refine (valanceref05_Fixed.calls a0_2 a0_3 x9_7 true _ A27.out).mono ?_); rintro e w33 ⟨rfl, hb⟩; refine ⟨_, rfl, ?_⟩; have n0_ := Aside0.mk (blk_below (g := gb195) (o := .cells #[.int .i64 a0_0, .int .i64 a0_1, .int .i64 a0_2, .int .i64 a0_3, .int .i64 a0_4, .int .i64 a0_5, .int .i64 a0_6, .int .i64 a0_7] 37 (0, 0)) (by (with_reducible repeat (first | refine blk_drewN ?_ _ | refine blk_drew ?_ | refine blk_alloc ?_ _)); exact BK195.out) hb); have n1_ := Aside0.mk (blk_below (g := gb196) (o := .cells #[.bool false, .int .i64 0, .bool false, .int .i64 0, .bool false, .int .i64 0, .bool false, .int .i64 0] 40 (0, 0)) (by (with_reducible repeat (first | refine blk_drewN ?_ _ | refine blk_drew ?_ | refine blk_alloc ?_ _)); exact BK196.out) hb); have n2_ := Aside0.mk (blk_below (g := gb197) (o := .cells #[.bool x198000_1, .int .i64 x198001_1, .bool x198002_1, .int .i64 x198003_1, .bool x198004_1, .int .i64 x198005_1, .bool x198006_1, .int .i64 x198007_1] 40 (0, 0)) (by (with_reducible repeat (first | refine blk_drewN ?_ _ | refine blk_drew ?_ | refine blk_alloc ?_ _)); exact BK197.out) hb); have n3_ := Aside0.mk (below_step (by repeat (first | (with_reducible first | exact HB.out | apply below_alloc | apply pw_below_drewN | apply below_drew1 | refine below_set ?_ GE195.out | refine below_set ?_ GE196.out | refine below_set ?_ GE197.out) | exact HB.out)) hb); clear BK195; clear BK196; clear BK197; clear HB; have BK195 := n0_; have BK196 := n1_; have BK197 := n2_; have HB := n3_; clear n0_ n1_ n2_ n3_; (try clear hb); (try clear hb2); (try clear hk); (try clear hi); have hcz34_0 : w33.cell? ⟨gb195, 0, none⟩ = some (.int .i64 a0_0) := (blk_cell BK195.out 0).trans rfl; have hcz34_1 : w33.cell? ⟨gb195, 1, none⟩ = some (.int .i64 a0_1) := (blk_cell BK195.out 1).trans rfl; have hcz34_2 : w33.cell? ⟨gb195, 2, none⟩ = some (.int .i64 a0_2) := (blk_cell BK195.out 2).trans rfl; have hcz34_3 : w33.cell? ⟨gb195, 3, none⟩ = some (.int .i64 a0_3) := (blk_cell BK195.out 3).trans rfl; have hcz34_4 : w33.cell? ⟨gb195, 4, none⟩ = some (.int .i64 a0_4) := (blk_cell BK195.out 4).trans rfl; have hcz34_5 : w33.cell? ⟨gb195, 5, none⟩ = some (.int .i64 a0_5) := (blk_cell BK195.out 5).trans rfl; have hcz34_6 : w33.cell? ⟨gb195, 6, none⟩ = some (.int .i64 a0_6) := (blk_cell BK195.out 6).trans rfl; have hcz34_7 : w33.cell? ⟨gb195, 7, none⟩ = some (.int .i64 a0_7) := (blk_cell BK195.out 7).trans rfl; have hfz34_0 := blk_frozen BK195.out 0; have hfz34_1 := blk_frozen BK195.out 1; have hfz34_2 := blk_frozen BK195.out 2; have hfz34_3 := blk_frozen BK195.out 3; have hfz34_4 := blk_frozen BK195.out 4; have hfz34_5 := blk_frozen BK195.out 5; have hfz34_6 := blk_frozen BK195.out 6; have hfz34_7 := blk_frozen BK195.out 7) | ((with_reducible refine gate_callee (f := 44) rfl ?_); refine goesL_ (some 29) rfl rfl Try.func44 (by kernel_rfl) rfl #[.agg #[.int .i64 a0_2, .int .i64 a0_3], .int .i64 x9_7, .int .i64 0] rfl (by (try simp only [List.map_toArray, List.map_cons, List.map_nil]); first | done | rfl | (simp only [List.length_drop, List.length_take]; rfl)) ?_; (with_reducible refine (valanceref05_Of.calls kj7 a0_2 a0_3 x9_7 0 t201 _ A29.out).mono ?_); rintro e w35 ⟨rfl, hb⟩; refine ⟨_, rfl, ?_⟩; have n0_ := Aside0.mk (blk_below (g := gb195) (o := .cells #[.int .i64 a0_0, .int .i64 a0_1, .int .i64 a0_2, .int .i64 a0_3, .int .i64 a0_4, .int .i64 a0_5, .int .i64 a0_6, .int .i64 a0_7] 37 (0, 0)) (by (with_reducible repeat (first | refine blk_drewN ?_ _ | refine blk_drew ?_ | refine blk_alloc ?_ _)); exact BK195.out) hb); have n1_ := Aside0.mk (blk_below (g := gb196) (o := .cells #[.bool false, .int .i64 0, .bool false, .int .i64 0, .bool false, .int .i64 0, .bool false, .int .i64 0] 40 (0, 0)) (by (with_reducible repeat (first | refine blk_drewN ?_ _ | refine blk_drew ?_ | refine blk_alloc ?_ _)); exact BK196.out) hb); have n2_ := Aside0.mk (blk_below (g := gb197) (o := .cells #[.bool x198000_1, .int .i64 x198001_1, .bool x198002_1, .int .i64 x198003_1, .bool x198004_1, .int .i64 x198005_1, .bool x198006_1, .int .i64 x198007_1] 40 (0, 0)) (by (with_reducible repeat (first | refine blk_drewN ?_ _ | refine blk_drew ?_ | refine blk_alloc ?_ _)); exact BK197.out) hb); have n3_ := Aside0.mk (below_step (by repeat (first | (with_reducible first | exact HB.out | apply below_alloc | apply pw_below_drewN | apply below_drew1 | refine below_set ?_ GE195.out | refine below_set ?_ GE196.out | refine below_set ?_ GE197.out) | exact HB.out)) hb); clear BK195; clear BK196; clear BK197; clear HB; have BK195 := n0_; have BK196 := n1_; have BK197 := n2_; have HB := n3_; clear n0_ n1_ n2_ n3_; (try clear hb); (try clear hb2); (try clear hk); (try clear hi); have hnb36 := NB197_196.out; have hnc36 := NB196_197.out; have hcz37_0 : w35.cell? ⟨gb197, 0, none⟩ = some (.bool x198000_1) := (blk_cell BK197.out 0).trans rfl; have hcz37_1 : w35.cell? ⟨gb197, 1, none⟩ = some (.int .i64 x198001_1) := (blk_cell BK197.out 1).trans rfl; have hcz37_2 : w35.cell? ⟨gb197, 2, none⟩ = some (.bool x198002_1) := (blk_cell BK197.out 2).trans rfl; have hcz37_3 : w35.cell? ⟨gb197, 3, none⟩ = some (.int .i64 x198003_1) := (blk_cell BK197.out 3).trans rfl; have hcz37_4 : w35.cell? ⟨gb197, 4, none⟩ = some (.bool x198004_1) := (blk_cell BK197.out 4).trans rfl; have hcz37_5 : w35.cell? ⟨gb197, 5, none⟩ = some (.int .i64 x198005_1) := (blk_cell BK197.out 5).trans rfl; have hcz37_6 : w35.cell? ⟨gb197, 6, none⟩ = some (.bool x198006_1) := (blk_cell BK197.out 6).trans rfl; have hcz37_7 : w35.cell? ⟨gb197, 7, none⟩ = some (.int .i64 x198007_1) := (blk_cell BK197.out 7).trans rfl; have hfz37_0 := blk_frozen BK197.out 0; have hfz37_1 := blk_frozen BK197.out 1; have hfz37_2 := blk_frozen BK197.out 2; have hfz37_3 := blk_frozen BK197.out 3; have hfz37_4 := blk_frozen BK197.out 4; have hfz37_5 := blk_frozen BK197.out 5; have hfz37_6 := blk_frozen BK197.out 6; have hfz37_7 := blk_frozen BK197.out 7))
                  go_roundg kj7
                  case measure => have := HK1.out; have := HJ7.out; omega
                  case rel => exact ⟨(wrap64 (1 + 1)), (x198000_1), (x198001_1), (true), (t201), (x198004_1), (x198005_1), (x198006_1), (x198007_1), (by first | rfl | (simp <;> unfold wrap64 <;> omega) | (simp; done) | (simp [*]; done)), H', ⟨by have := HK1.out; have := HJ7.out; omega⟩, ⟨by (with_reducible repeat (first | refine blk_drewN ?_ _ | refine blk_drew ?_ | refine blk_alloc ?_ _)); refine blk_far ?_ NB195_197.out _; (with_reducible repeat (first | refine blk_drewN ?_ _ | refine blk_drew ?_ | refine blk_alloc ?_ _)); refine blk_far ?_ NB195_197.out _; (with_reducible repeat (first | refine blk_drewN ?_ _ | refine blk_drew ?_ | refine blk_alloc ?_ _)); exact BK195.out⟩, ⟨by (with_reducible repeat (first | refine blk_drewN ?_ _ | refine blk_drew ?_ | refine blk_alloc ?_ _)); refine blk_far ?_ NB196_197.out _; (with_reducible repeat (first | refine blk_drewN ?_ _ | refine blk_drew ?_ | refine blk_alloc ?_ _)); refine blk_far ?_ NB196_197.out _; (with_reducible repeat (first | refine blk_drewN ?_ _ | refine blk_drew ?_ | refine blk_alloc ?_ _)); exact BK196.out⟩, ⟨by (with_reducible repeat (first | refine blk_drewN ?_ _ | refine blk_drew ?_ | refine blk_alloc ?_ _)); refine blk_put (cs := #[.bool x198000_1, .int .i64 x198001_1, .bool true, .int .i64 x198003_1, .bool x198004_1, .int .i64 x198005_1, .bool x198006_1, .int .i64 x198007_1]) ?_ 3 _ rfl; (with_reducible repeat (first | refine blk_drewN ?_ _ | refine blk_drew ?_ | refine blk_alloc ?_ _)); refine blk_put (cs := #[.bool x198000_1, .int .i64 x198001_1, .bool x198002_1, .int .i64 x198003_1, .bool x198004_1, .int .i64 x198005_1, .bool x198006_1, .int .i64 x198007_1]) ?_ 2 _ rfl; (with_reducible repeat (first | refine blk_drewN ?_ _ | refine blk_drew ?_ | refine blk_alloc ?_ _)); exact BK197.out⟩, ⟨by repeat (first | (with_reducible first | exact HB.out | apply below_alloc | apply pw_below_drewN | apply below_drew1 | refine below_set ?_ GE195.out | refine below_set ?_ GE196.out | refine below_set ?_ GE197.out) | exact HB.out)⟩⟩
                · replace c28 := Bool.eq_false_iff.mpr c28
                  subst c28
                  have H1 : (valanceref10_Sides.l0 kj7 a1 a2 (wrap64 (1 + 1)) a0_0 a0_1 a0_2 a0_3 a0_4 a0_5 a0_6 a0_7 x198000_1 x198001_1 x198002_1 x198003_1 x198004_1 x198005_1 x198006_1 x198007_1) = some (r1, r2, r3, r4, r5, r6, r7, r8) := by rw [if_neg (show ¬ (false = true) by decide)] at H; exact H
                  clear H
                  have H := H1
                  clear H1
                  have H' := Aside0.mk H
                  clear H
                  have hnb38 := NB195_196.out
                  have hnc38 := NB196_195.out
                  have hnb39 := NB195_197.out
                  have hnc39 := NB197_195.out
                  have hcz40_0 : wc.cell? ⟨gb195, 0, none⟩ = some (.int .i64 a0_0) := (blk_cell BK195.out 0).trans rfl
                  have hcz40_1 : wc.cell? ⟨gb195, 1, none⟩ = some (.int .i64 a0_1) := (blk_cell BK195.out 1).trans rfl
                  have hcz40_2 : wc.cell? ⟨gb195, 2, none⟩ = some (.int .i64 a0_2) := (blk_cell BK195.out 2).trans rfl
                  have hcz40_3 : wc.cell? ⟨gb195, 3, none⟩ = some (.int .i64 a0_3) := (blk_cell BK195.out 3).trans rfl
                  have hcz40_4 : wc.cell? ⟨gb195, 4, none⟩ = some (.int .i64 a0_4) := (blk_cell BK195.out 4).trans rfl
                  have hcz40_5 : wc.cell? ⟨gb195, 5, none⟩ = some (.int .i64 a0_5) := (blk_cell BK195.out 5).trans rfl
                  have hcz40_6 : wc.cell? ⟨gb195, 6, none⟩ = some (.int .i64 a0_6) := (blk_cell BK195.out 6).trans rfl
                  have hcz40_7 : wc.cell? ⟨gb195, 7, none⟩ = some (.int .i64 a0_7) := (blk_cell BK195.out 7).trans rfl
                  have hfz40_0 := blk_frozen BK195.out 0
                  have hfz40_1 := blk_frozen BK195.out 1
                  have hfz40_2 := blk_frozen BK195.out 2
                  have hfz40_3 := blk_frozen BK195.out 3
                  have hfz40_4 := blk_frozen BK195.out 4
                  have hfz40_5 := blk_frozen BK195.out 5
                  have hfz40_6 := blk_frozen BK195.out 6
                  have hfz40_7 := blk_frozen BK195.out 7
                  go_wp2_with (first | ((with_reducible refine gate_callee (f := 43) rfl ?_); refine goesL_ (some 23) rfl rfl Try.func43 (by kernel_rfl) rfl #[.agg #[.int .i64 a0_2, .int .i64 a0_3], .int .i64 x9_7] rfl (by (try simp only [List.map_toArray, List.map_cons, List.map_nil]); first | done | rfl | (simp only [List.length_drop, List.length_take]; rfl)) ?_; (with_reducible refine (valanceref05_Fixed.calls a0_2 a0_3 x9_7 false _ A27.out).mono ?_); rintro e w41 ⟨rfl, hb⟩; refine ⟨_, rfl, ?_⟩; have n0_ := Aside0.mk (blk_below (g := gb195) (o := .cells #[.int .i64 a0_0, .int .i64 a0_1, .int .i64 a0_2, .int .i64 a0_3, .int .i64 a0_4, .int .i64 a0_5, .int .i64 a0_6, .int .i64 a0_7] 37 (0, 0)) (by (with_reducible repeat (first | refine blk_drewN ?_ _ | refine blk_drew ?_ | refine blk_alloc ?_ _)); exact BK195.out) hb); have n1_ := Aside0.mk (blk_below (g := gb196) (o := .cells #[.bool false, .int .i64 0, .bool false, .int .i64 0, .bool false, .int .i64 0, .bool false, .int .i64 0] 40 (0, 0)) (by (with_reducible repeat (first | refine blk_drewN ?_ _ | refine blk_drew ?_ | refine blk_alloc ?_ _)); exact BK196.out) hb); have n2_ := Aside0.mk (blk_below (g := gb197) (o := .cells #[.bool x198000_1, .int .i64 x198001_1, .bool x198002_1, .int .i64 x198003_1, .bool x198004_1, .int .i64 x198005_1, .bool x198006_1, .int .i64 x198007_1] 40 (0, 0)) (by (with_reducible repeat (first | refine blk_drewN ?_ _ | refine blk_drew ?_ | refine blk_alloc ?_ _)); exact BK197.out) hb); have n3_ := Aside0.mk (below_step (by repeat (first | (with_reducible first | exact HB.out | apply below_alloc | apply pw_below_drewN | apply below_drew1 | refine below_set ?_ GE195.out | refine below_set ?_ GE196.out | refine below_set ?_ GE197.out) | exact HB.out)) hb); clear BK195; clear BK196; clear BK197; clear HB; have BK195 := n0_; have BK196 := n1_; have BK197 := n2_; have HB := n3_; clear n0_ n1_ n2_ n3_; (try clear hb); (try clear hb2); (try clear hk); (try clear hi)))
                  go_roundg kj7
                  case measure => have := HK1.out; have := HJ7.out; omega
                  case rel => exact ⟨(wrap64 (1 + 1)), (x198000_1), (x198001_1), (x198002_1), (x198003_1), (x198004_1), (x198005_1), (x198006_1), (x198007_1), (by first | rfl | (simp <;> unfold wrap64 <;> omega) | (simp; done) | (simp [*]; done)), H', ⟨by have := HK1.out; have := HJ7.out; omega⟩, ⟨by (with_reducible repeat (first | refine blk_drewN ?_ _ | refine blk_drew ?_ | refine blk_alloc ?_ _)); exact BK195.out⟩, ⟨by (with_reducible repeat (first | refine blk_drewN ?_ _ | refine blk_drew ?_ | refine blk_alloc ?_ _)); exact BK196.out⟩, ⟨by (with_reducible repeat (first | refine blk_drewN ?_ _ | refine blk_drew ?_ | refine blk_alloc ?_ _)); exact BK197.out⟩, ⟨by repeat (first | (with_reducible first | exact HB.out | apply below_alloc | apply pw_below_drewN | apply below_drew1 | refine below_set ?_ GE195.out | refine below_set ?_ GE196.out | refine below_set ?_ GE197.out) | exact HB.out)⟩⟩
              · rw [if_neg c26] at H
                by_cases c42 : x8_1 = 2
                · subst c42
                  have H1 : ((valanceref05_Fixed.f a0_4 a0_5 x9_7).bind fun t202 => (if t202 = true then ((valanceref05_Of.f kj7 a0_4 a0_5 x9_7 0).bind fun t203 => (valanceref10_Sides.l0 kj7 a1 a2 (wrap64 (2 + 1)) a0_0 a0_1 a0_2 a0_3 a0_4 a0_5 a0_6 a0_7 x198000_1 x198001_1 x198002_1 x198003_1 true t203 x198006_1 x198007_1)) else (valanceref10_Sides.l0 kj7 a1 a2 (wrap64 (2 + 1)) a0_0 a0_1 a0_2 a0_3 a0_4 a0_5 a0_6 a0_7 x198000_1 x198001_1 x198002_1 x198003_1 x198004_1 x198005_1 x198006_1 x198007_1))) = some (r1, r2, r3, r4, r5, r6, r7, r8) := by rw [if_pos rfl] at H; exact H
                  clear H
                  have H := H1
                  clear H1
                  replace H := Option.bind_eq_some_iff.mp H
                  obtain ⟨t202, A430, H⟩ := H
                  replace H : (if t202 = true then ((valanceref05_Of.f kj7 a0_4 a0_5 x9_7 0).bind fun t203 => (valanceref10_Sides.l0 kj7 a1 a2 (wrap64 (2 + 1)) a0_0 a0_1 a0_2 a0_3 a0_4 a0_5 a0_6 a0_7 x198000_1 x198001_1 x198002_1 x198003_1 true t203 x198006_1 x198007_1)) else (valanceref10_Sides.l0 kj7 a1 a2 (wrap64 (2 + 1)) a0_0 a0_1 a0_2 a0_3 a0_4 a0_5 a0_6 a0_7 x198000_1 x198001_1 x198002_1 x198003_1 x198004_1 x198005_1 x198006_1 x198007_1)) = some (r1, r2, r3, r4, r5, r6, r7, r8) := H
                  have A43 := Aside0.mk A430
                  clear A430
                  by_cases c44 : t202 = true
                  · subst c44
                    have H1 : ((valanceref05_Of.f kj7 a0_4 a0_5 x9_7 0).bind fun t203 => (valanceref10_Sides.l0 kj7 a1 a2 (wrap64 (2 + 1)) a0_0 a0_1 a0_2 a0_3 a0_4 a0_5 a0_6 a0_7 x198000_1 x198001_1 x198002_1 x198003_1 true t203 x198006_1 x198007_1)) = some (r1, r2, r3, r4, r5, r6, r7, r8) := by rw [if_pos rfl] at H; exact H
                    clear H
                    have H := H1
                    clear H1
                    replace H := Option.bind_eq_some_iff.mp H
                    obtain ⟨t203, A450, H⟩ := H
                    replace H : (valanceref10_Sides.l0 kj7 a1 a2 (wrap64 (2 + 1)) a0_0 a0_1 a0_2 a0_3 a0_4 a0_5 a0_6 a0_7 x198000_1 x198001_1 x198002_1 x198003_1 true t203 x198006_1 x198007_1) = some (r1, r2, r3, r4, r5, r6, r7, r8) := H
                    have A45 := Aside0.mk A450
                    clear A450
                    have H' := Aside0.mk H
                    clear H
                    have hnb46 := NB195_196.out
                    have hnc46 := NB196_195.out
                    have hnb47 := NB195_197.out
                    have hnc47 := NB197_195.out
                    have hcz48_0 : wc.cell? ⟨gb195, 0, none⟩ = some (.int .i64 a0_0) := (blk_cell BK195.out 0).trans rfl
                    have hcz48_1 : wc.cell? ⟨gb195, 1, none⟩ = some (.int .i64 a0_1) := (blk_cell BK195.out 1).trans rfl
                    have hcz48_2 : wc.cell? ⟨gb195, 2, none⟩ = some (.int .i64 a0_2) := (blk_cell BK195.out 2).trans rfl
                    have hcz48_3 : wc.cell? ⟨gb195, 3, none⟩ = some (.int .i64 a0_3) := (blk_cell BK195.out 3).trans rfl
                    have hcz48_4 : wc.cell? ⟨gb195, 4, none⟩ = some (.int .i64 a0_4) := (blk_cell BK195.out 4).trans rfl
                    have hcz48_5 : wc.cell? ⟨gb195, 5, none⟩ = some (.int .i64 a0_5) := (blk_cell BK195.out 5).trans rfl
                    have hcz48_6 : wc.cell? ⟨gb195, 6, none⟩ = some (.int .i64 a0_6) := (blk_cell BK195.out 6).trans rfl
                    have hcz48_7 : wc.cell? ⟨gb195, 7, none⟩ = some (.int .i64 a0_7) := (blk_cell BK195.out 7).trans rfl
                    have hfz48_0 := blk_frozen BK195.out 0
                    have hfz48_1 := blk_frozen BK195.out 1
                    have hfz48_2 := blk_frozen BK195.out 2
                    have hfz48_3 := blk_frozen BK195.out 3
                    have hfz48_4 := blk_frozen BK195.out 4
                    have hfz48_5 := blk_frozen BK195.out 5
                    have hfz48_6 := blk_frozen BK195.out 6
                    have hfz48_7 := blk_frozen BK195.out 7
                    go_wp2_with (first | ((with_reducible refine gate_callee (f := 43) rfl ?_); refine goesL_ (some 23) rfl rfl Try.func43 (by kernel_rfl) rfl #[.agg #[.int .i64 a0_4, .int .i64 a0_5], .int .i64 x9_7] rfl (by (try simp only [List.map_toArray, List.map_cons, List.map_nil]); first | done | rfl | (simp only [List.length_drop, List.length_take]; rfl)) ?_; (with_reducible refine (valanceref05_Fixed.calls a0_4 a0_5 x9_7 true _ A43.out).mono ?_); rintro e w49 ⟨rfl, hb⟩; refine ⟨_, rfl, ?_⟩; have n0_ := Aside0.mk (blk_below (g := gb195) (o := .cells #[.int .i64 a0_0, .int .i64 a0_1, .int .i64 a0_2, .int .i64 a0_3, .int .i64 a0_4, .int .i64 a0_5, .int .i64 a0_6, .int .i64 a0_7] 37 (0, 0)) (by (with_reducible repeat (first | refine blk_drewN ?_ _ | refine blk_drew ?_ | refine blk_alloc ?_ _)); exact BK195.out) hb); have n1_ := Aside0.mk (blk_below (g := gb196) (o := .cells #[.bool false, .int .i64 0, .bool false, .int .i64 0, .bool false, .int .i64 0, .bool false, .int .i64 0] 40 (0, 0)) (by (with_reducible repeat (first | refine blk_drewN ?_ _ | refine blk_drew ?_ | refine blk_alloc ?_ _)); exact BK196.out) hb); have n2_ := Aside0.mk (blk_below (g := gb197) (o := .cells #[.bool x198000_1, .int .i64 x198001_1, .bool x198002_1, .int .i64 x198003_1, .bool x198004_1, .int .i64 x198005_1, .bool x198006_1, .int .i64 x198007_1] 40 (0, 0)) (by (with_reducible repeat (first | refine blk_drewN ?_ _ | refine blk_drew ?_ | refine blk_alloc ?_ _)); exact BK197.out) hb); have n3_ := Aside0.mk (below_step (by repeat (first | (with_reducible first | exact HB.out | apply below_alloc | apply pw_below_drewN | apply below_drew1 | refine below_set ?_ GE195.out | refine below_set ?_ GE196.out | refine below_set ?_ GE197.out) | exact HB.out)) hb); clear BK195; clear BK196; clear BK197; clear HB; have BK195 := n0_; have BK196 := n1_; have BK197 := n2_; have HB := n3_; clear n0_ n1_ n2_ n3_; (try clear hb); (try clear hb2); (try clear hk); (try clear hi); have hcz50_0 : w49.cell? ⟨gb195, 0, none⟩ = some (.int .i64 a0_0) := (blk_cell BK195.out 0).trans rfl; have hcz50_1 : w49.cell? ⟨gb195, 1, none⟩ = some (.int .i64 a0_1) := (blk_cell BK195.out 1).trans rfl; have hcz50_2 : w49.cell? ⟨gb195, 2, none⟩ = some (.int .i64 a0_2) := (blk_cell BK195.out 2).trans rfl; have hcz50_3 : w49.cell? ⟨gb195, 3, none⟩ = some (.int .i64 a0_3) := (blk_cell BK195.out 3).trans rfl; have hcz50_4 : w49.cell? ⟨gb195, 4, none⟩ = some (.int .i64 a0_4) := (blk_cell BK195.out 4).trans rfl; have hcz50_5 : w49.cell? ⟨gb195, 5, none⟩ = some (.int .i64 a0_5) := (blk_cell BK195.out 5).trans rfl; have hcz50_6 : w49.cell? ⟨gb195, 6, none⟩ = some (.int .i64 a0_6) := (blk_cell BK195.out 6).trans rfl; have hcz50_7 : w49.cell? ⟨gb195, 7, none⟩ = some (.int .i64 a0_7) := (blk_cell BK195.out 7).trans rfl; have hfz50_0 := blk_frozen BK195.out 0; have hfz50_1 := blk_frozen BK195.out 1; have hfz50_2 := blk_frozen BK195.out 2; have hfz50_3 := blk_frozen BK195.out 3; have hfz50_4 := blk_frozen BK195.out 4; have hfz50_5 := blk_frozen BK195.out 5; have hfz50_6 := blk_frozen BK195.out 6; have hfz50_7 := blk_frozen BK195.out 7) | ((with_reducible refine gate_callee (f := 44) rfl ?_); refine goesL_ (some 29) rfl rfl Try.func44 (by kernel_rfl) rfl #[.agg #[.int .i64 a0_4, .int .i64 a0_5], .int .i64 x9_7, .int .i64 0] rfl (by (try simp only [List.map_toArray, List.map_cons, List.map_nil]); first | done | rfl | (simp only [List.length_drop, List.length_take]; rfl)) ?_; (with_reducible refine (valanceref05_Of.calls kj7 a0_4 a0_5 x9_7 0 t203 _ A45.out).mono ?_); rintro e w51 ⟨rfl, hb⟩; refine ⟨_, rfl, ?_⟩; have n0_ := Aside0.mk (blk_below (g := gb195) (o := .cells #[.int .i64 a0_0, .int .i64 a0_1, .int .i64 a0_2, .int .i64 a0_3, .int .i64 a0_4, .int .i64 a0_5, .int .i64 a0_6, .int .i64 a0_7] 37 (0, 0)) (by (with_reducible repeat (first | refine blk_drewN ?_ _ | refine blk_drew ?_ | refine blk_alloc ?_ _)); exact BK195.out) hb); have n1_ := Aside0.mk (blk_below (g := gb196) (o := .cells #[.bool false, .int .i64 0, .bool false, .int .i64 0, .bool false, .int .i64 0, .bool false, .int .i64 0] 40 (0, 0)) (by (with_reducible repeat (first | refine blk_drewN ?_ _ | refine blk_drew ?_ | refine blk_alloc ?_ _)); exact BK196.out) hb); have n2_ := Aside0.mk (blk_below (g := gb197) (o := .cells #[.bool x198000_1, .int .i64 x198001_1, .bool x198002_1, .int .i64 x198003_1, .bool x198004_1, .int .i64 x198005_1, .bool x198006_1, .int .i64 x198007_1] 40 (0, 0)) (by (with_reducible repeat (first | refine blk_drewN ?_ _ | refine blk_drew ?_ | refine blk_alloc ?_ _)); exact BK197.out) hb); have n3_ := Aside0.mk (below_step (by repeat (first | (with_reducible first | exact HB.out | apply below_alloc | apply pw_below_drewN | apply below_drew1 | refine below_set ?_ GE195.out | refine below_set ?_ GE196.out | refine below_set ?_ GE197.out) | exact HB.out)) hb); clear BK195; clear BK196; clear BK197; clear HB; have BK195 := n0_; have BK196 := n1_; have BK197 := n2_; have HB := n3_; clear n0_ n1_ n2_ n3_; (try clear hb); (try clear hb2); (try clear hk); (try clear hi); have hnb52 := NB197_196.out; have hnc52 := NB196_197.out; have hcz53_0 : w51.cell? ⟨gb197, 0, none⟩ = some (.bool x198000_1) := (blk_cell BK197.out 0).trans rfl; have hcz53_1 : w51.cell? ⟨gb197, 1, none⟩ = some (.int .i64 x198001_1) := (blk_cell BK197.out 1).trans rfl; have hcz53_2 : w51.cell? ⟨gb197, 2, none⟩ = some (.bool x198002_1) := (blk_cell BK197.out 2).trans rfl; have hcz53_3 : w51.cell? ⟨gb197, 3, none⟩ = some (.int .i64 x198003_1) := (blk_cell BK197.out 3).trans rfl; have hcz53_4 : w51.cell? ⟨gb197, 4, none⟩ = some (.bool x198004_1) := (blk_cell BK197.out 4).trans rfl; have hcz53_5 : w51.cell? ⟨gb197, 5, none⟩ = some (.int .i64 x198005_1) := (blk_cell BK197.out 5).trans rfl; have hcz53_6 : w51.cell? ⟨gb197, 6, none⟩ = some (.bool x198006_1) := (blk_cell BK197.out 6).trans rfl; have hcz53_7 : w51.cell? ⟨gb197, 7, none⟩ = some (.int .i64 x198007_1) := (blk_cell BK197.out 7).trans rfl; have hfz53_0 := blk_frozen BK197.out 0; have hfz53_1 := blk_frozen BK197.out 1; have hfz53_2 := blk_frozen BK197.out 2; have hfz53_3 := blk_frozen BK197.out 3; have hfz53_4 := blk_frozen BK197.out 4; have hfz53_5 := blk_frozen BK197.out 5; have hfz53_6 := blk_frozen BK197.out 6; have hfz53_7 := blk_frozen BK197.out 7))
                    go_roundg kj7
                    case measure => have := HK1.out; have := HJ7.out; omega
                    case rel => exact ⟨(wrap64 (2 + 1)), (x198000_1), (x198001_1), (x198002_1), (x198003_1), (true), (t203), (x198006_1), (x198007_1), (by first | rfl | (simp <;> unfold wrap64 <;> omega) | (simp; done) | (simp [*]; done)), H', ⟨by have := HK1.out; have := HJ7.out; omega⟩, ⟨by (with_reducible repeat (first | refine blk_drewN ?_ _ | refine blk_drew ?_ | refine blk_alloc ?_ _)); refine blk_far ?_ NB195_197.out _; (with_reducible repeat (first | refine blk_drewN ?_ _ | refine blk_drew ?_ | refine blk_alloc ?_ _)); refine blk_far ?_ NB195_197.out _; (with_reducible repeat (first | refine blk_drewN ?_ _ | refine blk_drew ?_ | refine blk_alloc ?_ _)); exact BK195.out⟩, ⟨by (with_reducible repeat (first | refine blk_drewN ?_ _ | refine blk_drew ?_ | refine blk_alloc ?_ _)); refine blk_far ?_ NB196_197.out _; (with_reducible repeat (first | refine blk_drewN ?_ _ | refine blk_drew ?_ | refine blk_alloc ?_ _)); refine blk_far ?_ NB196_197.out _; (with_reducible repeat (first | refine blk_drewN ?_ _ | refine blk_drew ?_ | refine blk_alloc ?_ _)); exact BK196.out⟩, ⟨by (with_reducible repeat (first | refine blk_drewN ?_ _ | refine blk_drew ?_ | refine blk_alloc ?_ _)); refine blk_put (cs := #[.bool x198000_1, .int .i64 x198001_1, .bool x198002_1, .int .i64 x198003_1, .bool true, .int .i64 x198005_1, .bool x198006_1, .int .i64 x198007_1]) ?_ 5 _ rfl; (with_reducible repeat (first | refine blk_drewN ?_ _ | refine blk_drew ?_ | refine blk_alloc ?_ _)); refine blk_put (cs := #[.bool x198000_1, .int .i64 x198001_1, .bool x198002_1, .int .i64 x198003_1, .bool x198004_1, .int .i64 x198005_1, .bool x198006_1, .int .i64 x198007_1]) ?_ 4 _ rfl; (with_reducible repeat (first | refine blk_drewN ?_ _ | refine blk_drew ?_ | refine blk_alloc ?_ _)); exact BK197.out⟩, ⟨by repeat (first | (with_reducible first | exact HB.out | apply below_alloc | apply pw_below_drewN | apply below_drew1 | refine below_set ?_ GE195.out | refine below_set ?_ GE196.out | refine below_set ?_ GE197.out) | exact HB.out)⟩⟩
                  · replace c44 := Bool.eq_false_iff.mpr c44
                    subst c44
                    have H1 : (valanceref10_Sides.l0 kj7 a1 a2 (wrap64 (2 + 1)) a0_0 a0_1 a0_2 a0_3 a0_4 a0_5 a0_6 a0_7 x198000_1 x198001_1 x198002_1 x198003_1 x198004_1 x198005_1 x198006_1 x198007_1) = some (r1, r2, r3, r4, r5, r6, r7, r8) := by rw [if_neg (show ¬ (false = true) by decide)] at H; exact H
                    clear H
                    have H := H1
                    clear H1
                    have H' := Aside0.mk H
                    clear H
                    have hnb54 := NB195_196.out
                    have hnc54 := NB196_195.out
                    have hnb55 := NB195_197.out
                    have hnc55 := NB197_195.out
                    have hcz56_0 : wc.cell? ⟨gb195, 0, none⟩ = some (.int .i64 a0_0) := (blk_cell BK195.out 0).trans rfl
                    have hcz56_1 : wc.cell? ⟨gb195, 1, none⟩ = some (.int .i64 a0_1) := (blk_cell BK195.out 1).trans rfl
                    have hcz56_2 : wc.cell? ⟨gb195, 2, none⟩ = some (.int .i64 a0_2) := (blk_cell BK195.out 2).trans rfl
                    have hcz56_3 : wc.cell? ⟨gb195, 3, none⟩ = some (.int .i64 a0_3) := (blk_cell BK195.out 3).trans rfl
                    have hcz56_4 : wc.cell? ⟨gb195, 4, none⟩ = some (.int .i64 a0_4) := (blk_cell BK195.out 4).trans rfl
                    have hcz56_5 : wc.cell? ⟨gb195, 5, none⟩ = some (.int .i64 a0_5) := (blk_cell BK195.out 5).trans rfl
                    have hcz56_6 : wc.cell? ⟨gb195, 6, none⟩ = some (.int .i64 a0_6) := (blk_cell BK195.out 6).trans rfl
                    have hcz56_7 : wc.cell? ⟨gb195, 7, none⟩ = some (.int .i64 a0_7) := (blk_cell BK195.out 7).trans rfl
                    have hfz56_0 := blk_frozen BK195.out 0
                    have hfz56_1 := blk_frozen BK195.out 1
                    have hfz56_2 := blk_frozen BK195.out 2
                    have hfz56_3 := blk_frozen BK195.out 3
                    have hfz56_4 := blk_frozen BK195.out 4
                    have hfz56_5 := blk_frozen BK195.out 5
                    have hfz56_6 := blk_frozen BK195.out 6
                    have hfz56_7 := blk_frozen BK195.out 7
                    go_wp2_with (first | ((with_reducible refine gate_callee (f := 43) rfl ?_); refine goesL_ (some 23) rfl rfl Try.func43 (by kernel_rfl) rfl #[.agg #[.int .i64 a0_4, .int .i64 a0_5], .int .i64 x9_7] rfl (by (try simp only [List.map_toArray, List.map_cons, List.map_nil]); first | done | rfl | (simp only [List.length_drop, List.length_take]; rfl)) ?_; (with_reducible refine (valanceref05_Fixed.calls a0_4 a0_5 x9_7 false _ A43.out).mono ?_); rintro e w57 ⟨rfl, hb⟩; refine ⟨_, rfl, ?_⟩; have n0_ := Aside0.mk (blk_below (g := gb195) (o := .cells #[.int .i64 a0_0, .int .i64 a0_1, .int .i64 a0_2, .int .i64 a0_3, .int .i64 a0_4, .int .i64 a0_5, .int .i64 a0_6, .int .i64 a0_7] 37 (0, 0)) (by (with_reducible repeat (first | refine blk_drewN ?_ _ | refine blk_drew ?_ | refine blk_alloc ?_ _)); exact BK195.out) hb); have n1_ := Aside0.mk (blk_below (g := gb196) (o := .cells #[.bool false, .int .i64 0, .bool false, .int .i64 0, .bool false, .int .i64 0, .bool false, .int .i64 0] 40 (0, 0)) (by (with_reducible repeat (first | refine blk_drewN ?_ _ | refine blk_drew ?_ | refine blk_alloc ?_ _)); exact BK196.out) hb); have n2_ := Aside0.mk (blk_below (g := gb197) (o := .cells #[.bool x198000_1, .int .i64 x198001_1, .bool x198002_1, .int .i64 x198003_1, .bool x198004_1, .int .i64 x198005_1, .bool x198006_1, .int .i64 x198007_1] 40 (0, 0)) (by (with_reducible repeat (first | refine blk_drewN ?_ _ | refine blk_drew ?_ | refine blk_alloc ?_ _)); exact BK197.out) hb); have n3_ := Aside0.mk (below_step (by repeat (first | (with_reducible first | exact HB.out | apply below_alloc | apply pw_below_drewN | apply below_drew1 | refine below_set ?_ GE195.out | refine below_set ?_ GE196.out | refine below_set ?_ GE197.out) | exact HB.out)) hb); clear BK195; clear BK196; clear BK197; clear HB; have BK195 := n0_; have BK196 := n1_; have BK197 := n2_; have HB := n3_; clear n0_ n1_ n2_ n3_; (try clear hb); (try clear hb2); (try clear hk); (try clear hi)))
                    go_roundg kj7
                    case measure => have := HK1.out; have := HJ7.out; omega
                    case rel => exact ⟨(wrap64 (2 + 1)), (x198000_1), (x198001_1), (x198002_1), (x198003_1), (x198004_1), (x198005_1), (x198006_1), (x198007_1), (by first | rfl | (simp <;> unfold wrap64 <;> omega) | (simp; done) | (simp [*]; done)), H', ⟨by have := HK1.out; have := HJ7.out; omega⟩, ⟨by (with_reducible repeat (first | refine blk_drewN ?_ _ | refine blk_drew ?_ | refine blk_alloc ?_ _)); exact BK195.out⟩, ⟨by (with_reducible repeat (first | refine blk_drewN ?_ _ | refine blk_drew ?_ | refine blk_alloc ?_ _)); exact BK196.out⟩, ⟨by (with_reducible repeat (first | refine blk_drewN ?_ _ | refine blk_drew ?_ | refine blk_alloc ?_ _)); exact BK197.out⟩, ⟨by repeat (first | (with_reducible first | exact HB.out | apply below_alloc | apply pw_below_drewN | apply below_drew1 | refine below_set ?_ GE195.out | refine below_set ?_ GE196.out | refine below_set ?_ GE197.out) | exact HB.out)⟩⟩
                · rw [if_neg c42] at H
                  by_cases c58 : x8_1 = 3
                  · subst c58
                    have H1 : ((valanceref05_Fixed.f a0_6 a0_7 x9_7).bind fun t204 => (if t204 = true then ((valanceref05_Of.f kj7 a0_6 a0_7 x9_7 0).bind fun t205 => (valanceref10_Sides.l0 kj7 a1 a2 (wrap64 (3 + 1)) a0_0 a0_1 a0_2 a0_3 a0_4 a0_5 a0_6 a0_7 x198000_1 x198001_1 x198002_1 x198003_1 x198004_1 x198005_1 true t205)) else (valanceref10_Sides.l0 kj7 a1 a2 (wrap64 (3 + 1)) a0_0 a0_1 a0_2 a0_3 a0_4 a0_5 a0_6 a0_7 x198000_1 x198001_1 x198002_1 x198003_1 x198004_1 x198005_1 x198006_1 x198007_1))) = some (r1, r2, r3, r4, r5, r6, r7, r8) := by rw [if_pos rfl] at H; exact H
                    clear H
                    have H := H1
                    clear H1
                    replace H := Option.bind_eq_some_iff.mp H
                    obtain ⟨t204, A590, H⟩ := H
                    replace H : (if t204 = true then ((valanceref05_Of.f kj7 a0_6 a0_7 x9_7 0).bind fun t205 => (valanceref10_Sides.l0 kj7 a1 a2 (wrap64 (3 + 1)) a0_0 a0_1 a0_2 a0_3 a0_4 a0_5 a0_6 a0_7 x198000_1 x198001_1 x198002_1 x198003_1 x198004_1 x198005_1 true t205)) else (valanceref10_Sides.l0 kj7 a1 a2 (wrap64 (3 + 1)) a0_0 a0_1 a0_2 a0_3 a0_4 a0_5 a0_6 a0_7 x198000_1 x198001_1 x198002_1 x198003_1 x198004_1 x198005_1 x198006_1 x198007_1)) = some (r1, r2, r3, r4, r5, r6, r7, r8) := H
                    have A59 := Aside0.mk A590
                    clear A590
                    by_cases c60 : t204 = true
                    · subst c60
                      have H1 : ((valanceref05_Of.f kj7 a0_6 a0_7 x9_7 0).bind fun t205 => (valanceref10_Sides.l0 kj7 a1 a2 (wrap64 (3 + 1)) a0_0 a0_1 a0_2 a0_3 a0_4 a0_5 a0_6 a0_7 x198000_1 x198001_1 x198002_1 x198003_1 x198004_1 x198005_1 true t205)) = some (r1, r2, r3, r4, r5, r6, r7, r8) := by rw [if_pos rfl] at H; exact H
                      clear H
                      have H := H1
                      clear H1
                      replace H := Option.bind_eq_some_iff.mp H
                      obtain ⟨t205, A610, H⟩ := H
                      replace H : (valanceref10_Sides.l0 kj7 a1 a2 (wrap64 (3 + 1)) a0_0 a0_1 a0_2 a0_3 a0_4 a0_5 a0_6 a0_7 x198000_1 x198001_1 x198002_1 x198003_1 x198004_1 x198005_1 true t205) = some (r1, r2, r3, r4, r5, r6, r7, r8) := H
                      have A61 := Aside0.mk A610
                      clear A610
                      have H' := Aside0.mk H
                      clear H
                      have hnb62 := NB195_196.out
                      have hnc62 := NB196_195.out
                      have hnb63 := NB195_197.out
                      have hnc63 := NB197_195.out
                      have hcz64_0 : wc.cell? ⟨gb195, 0, none⟩ = some (.int .i64 a0_0) := (blk_cell BK195.out 0).trans rfl
                      have hcz64_1 : wc.cell? ⟨gb195, 1, none⟩ = some (.int .i64 a0_1) := (blk_cell BK195.out 1).trans rfl
                      have hcz64_2 : wc.cell? ⟨gb195, 2, none⟩ = some (.int .i64 a0_2) := (blk_cell BK195.out 2).trans rfl
                      have hcz64_3 : wc.cell? ⟨gb195, 3, none⟩ = some (.int .i64 a0_3) := (blk_cell BK195.out 3).trans rfl
                      have hcz64_4 : wc.cell? ⟨gb195, 4, none⟩ = some (.int .i64 a0_4) := (blk_cell BK195.out 4).trans rfl
                      have hcz64_5 : wc.cell? ⟨gb195, 5, none⟩ = some (.int .i64 a0_5) := (blk_cell BK195.out 5).trans rfl
                      have hcz64_6 : wc.cell? ⟨gb195, 6, none⟩ = some (.int .i64 a0_6) := (blk_cell BK195.out 6).trans rfl
                      have hcz64_7 : wc.cell? ⟨gb195, 7, none⟩ = some (.int .i64 a0_7) := (blk_cell BK195.out 7).trans rfl
                      have hfz64_0 := blk_frozen BK195.out 0
                      have hfz64_1 := blk_frozen BK195.out 1
                      have hfz64_2 := blk_frozen BK195.out 2
                      have hfz64_3 := blk_frozen BK195.out 3
                      have hfz64_4 := blk_frozen BK195.out 4
                      have hfz64_5 := blk_frozen BK195.out 5
                      have hfz64_6 := blk_frozen BK195.out 6
                      have hfz64_7 := blk_frozen BK195.out 7
                      go_wp2_with (first | ((with_reducible refine gate_callee (f := 43) rfl ?_); refine goesL_ (some 23) rfl rfl Try.func43 (by kernel_rfl) rfl #[.agg #[.int .i64 a0_6, .int .i64 a0_7], .int .i64 x9_7] rfl (by (try simp only [List.map_toArray, List.map_cons, List.map_nil]); first | done | rfl | (simp only [List.length_drop, List.length_take]; rfl)) ?_; (with_reducible refine (valanceref05_Fixed.calls a0_6 a0_7 x9_7 true _ A59.out).mono ?_); rintro e w65 ⟨rfl, hb⟩; refine ⟨_, rfl, ?_⟩; have n0_ := Aside0.mk (blk_below (g := gb195) (o := .cells #[.int .i64 a0_0, .int .i64 a0_1, .int .i64 a0_2, .int .i64 a0_3, .int .i64 a0_4, .int .i64 a0_5, .int .i64 a0_6, .int .i64 a0_7] 37 (0, 0)) (by (with_reducible repeat (first | refine blk_drewN ?_ _ | refine blk_drew ?_ | refine blk_alloc ?_ _)); exact BK195.out) hb); have n1_ := Aside0.mk (blk_below (g := gb196) (o := .cells #[.bool false, .int .i64 0, .bool false, .int .i64 0, .bool false, .int .i64 0, .bool false, .int .i64 0] 40 (0, 0)) (by (with_reducible repeat (first | refine blk_drewN ?_ _ | refine blk_drew ?_ | refine blk_alloc ?_ _)); exact BK196.out) hb); have n2_ := Aside0.mk (blk_below (g := gb197) (o := .cells #[.bool x198000_1, .int .i64 x198001_1, .bool x198002_1, .int .i64 x198003_1, .bool x198004_1, .int .i64 x198005_1, .bool x198006_1, .int .i64 x198007_1] 40 (0, 0)) (by (with_reducible repeat (first | refine blk_drewN ?_ _ | refine blk_drew ?_ | refine blk_alloc ?_ _)); exact BK197.out) hb); have n3_ := Aside0.mk (below_step (by repeat (first | (with_reducible first | exact HB.out | apply below_alloc | apply pw_below_drewN | apply below_drew1 | refine below_set ?_ GE195.out | refine below_set ?_ GE196.out | refine below_set ?_ GE197.out) | exact HB.out)) hb); clear BK195; clear BK196; clear BK197; clear HB; have BK195 := n0_; have BK196 := n1_; have BK197 := n2_; have HB := n3_; clear n0_ n1_ n2_ n3_; (try clear hb); (try clear hb2); (try clear hk); (try clear hi); have hcz66_0 : w65.cell? ⟨gb195, 0, none⟩ = some (.int .i64 a0_0) := (blk_cell BK195.out 0).trans rfl; have hcz66_1 : w65.cell? ⟨gb195, 1, none⟩ = some (.int .i64 a0_1) := (blk_cell BK195.out 1).trans rfl; have hcz66_2 : w65.cell? ⟨gb195, 2, none⟩ = some (.int .i64 a0_2) := (blk_cell BK195.out 2).trans rfl; have hcz66_3 : w65.cell? ⟨gb195, 3, none⟩ = some (.int .i64 a0_3) := (blk_cell BK195.out 3).trans rfl; have hcz66_4 : w65.cell? ⟨gb195, 4, none⟩ = some (.int .i64 a0_4) := (blk_cell BK195.out 4).trans rfl; have hcz66_5 : w65.cell? ⟨gb195, 5, none⟩ = some (.int .i64 a0_5) := (blk_cell BK195.out 5).trans rfl; have hcz66_6 : w65.cell? ⟨gb195, 6, none⟩ = some (.int .i64 a0_6) := (blk_cell BK195.out 6).trans rfl; have hcz66_7 : w65.cell? ⟨gb195, 7, none⟩ = some (.int .i64 a0_7) := (blk_cell BK195.out 7).trans rfl; have hfz66_0 := blk_frozen BK195.out 0; have hfz66_1 := blk_frozen BK195.out 1; have hfz66_2 := blk_frozen BK195.out 2; have hfz66_3 := blk_frozen BK195.out 3; have hfz66_4 := blk_frozen BK195.out 4; have hfz66_5 := blk_frozen BK195.out 5; have hfz66_6 := blk_frozen BK195.out 6; have hfz66_7 := blk_frozen BK195.out 7) | ((with_reducible refine gate_callee (f := 44) rfl ?_); refine goesL_ (some 29) rfl rfl Try.func44 (by kernel_rfl) rfl #[.agg #[.int .i64 a0_6, .int .i64 a0_7], .int .i64 x9_7, .int .i64 0] rfl (by (try simp only [List.map_toArray, List.map_cons, List.map_nil]); first | done | rfl | (simp only [List.length_drop, List.length_take]; rfl)) ?_; (with_reducible refine (valanceref05_Of.calls kj7 a0_6 a0_7 x9_7 0 t205 _ A61.out).mono ?_); rintro e w67 ⟨rfl, hb⟩; refine ⟨_, rfl, ?_⟩; have n0_ := Aside0.mk (blk_below (g := gb195) (o := .cells #[.int .i64 a0_0, .int .i64 a0_1, .int .i64 a0_2, .int .i64 a0_3, .int .i64 a0_4, .int .i64 a0_5, .int .i64 a0_6, .int .i64 a0_7] 37 (0, 0)) (by (with_reducible repeat (first | refine blk_drewN ?_ _ | refine blk_drew ?_ | refine blk_alloc ?_ _)); exact BK195.out) hb); have n1_ := Aside0.mk (blk_below (g := gb196) (o := .cells #[.bool false, .int .i64 0, .bool false, .int .i64 0, .bool false, .int .i64 0, .bool false, .int .i64 0] 40 (0, 0)) (by (with_reducible repeat (first | refine blk_drewN ?_ _ | refine blk_drew ?_ | refine blk_alloc ?_ _)); exact BK196.out) hb); have n2_ := Aside0.mk (blk_below (g := gb197) (o := .cells #[.bool x198000_1, .int .i64 x198001_1, .bool x198002_1, .int .i64 x198003_1, .bool x198004_1, .int .i64 x198005_1, .bool x198006_1, .int .i64 x198007_1] 40 (0, 0)) (by (with_reducible repeat (first | refine blk_drewN ?_ _ | refine blk_drew ?_ | refine blk_alloc ?_ _)); exact BK197.out) hb); have n3_ := Aside0.mk (below_step (by repeat (first | (with_reducible first | exact HB.out | apply below_alloc | apply pw_below_drewN | apply below_drew1 | refine below_set ?_ GE195.out | refine below_set ?_ GE196.out | refine below_set ?_ GE197.out) | exact HB.out)) hb); clear BK195; clear BK196; clear BK197; clear HB; have BK195 := n0_; have BK196 := n1_; have BK197 := n2_; have HB := n3_; clear n0_ n1_ n2_ n3_; (try clear hb); (try clear hb2); (try clear hk); (try clear hi); have hnb68 := NB197_196.out; have hnc68 := NB196_197.out; have hcz69_0 : w67.cell? ⟨gb197, 0, none⟩ = some (.bool x198000_1) := (blk_cell BK197.out 0).trans rfl; have hcz69_1 : w67.cell? ⟨gb197, 1, none⟩ = some (.int .i64 x198001_1) := (blk_cell BK197.out 1).trans rfl; have hcz69_2 : w67.cell? ⟨gb197, 2, none⟩ = some (.bool x198002_1) := (blk_cell BK197.out 2).trans rfl; have hcz69_3 : w67.cell? ⟨gb197, 3, none⟩ = some (.int .i64 x198003_1) := (blk_cell BK197.out 3).trans rfl; have hcz69_4 : w67.cell? ⟨gb197, 4, none⟩ = some (.bool x198004_1) := (blk_cell BK197.out 4).trans rfl; have hcz69_5 : w67.cell? ⟨gb197, 5, none⟩ = some (.int .i64 x198005_1) := (blk_cell BK197.out 5).trans rfl; have hcz69_6 : w67.cell? ⟨gb197, 6, none⟩ = some (.bool x198006_1) := (blk_cell BK197.out 6).trans rfl; have hcz69_7 : w67.cell? ⟨gb197, 7, none⟩ = some (.int .i64 x198007_1) := (blk_cell BK197.out 7).trans rfl; have hfz69_0 := blk_frozen BK197.out 0; have hfz69_1 := blk_frozen BK197.out 1; have hfz69_2 := blk_frozen BK197.out 2; have hfz69_3 := blk_frozen BK197.out 3; have hfz69_4 := blk_frozen BK197.out 4; have hfz69_5 := blk_frozen BK197.out 5; have hfz69_6 := blk_frozen BK197.out 6; have hfz69_7 := blk_frozen BK197.out 7))
                      go_roundg kj7
                      case measure => have := HK1.out; have := HJ7.out; omega
                      case rel => exact ⟨(wrap64 (3 + 1)), (x198000_1), (x198001_1), (x198002_1), (x198003_1), (x198004_1), (x198005_1), (true), (t205), (by first | rfl | (simp <;> unfold wrap64 <;> omega) | (simp; done) | (simp [*]; done)), H', ⟨by have := HK1.out; have := HJ7.out; omega⟩, ⟨by (with_reducible repeat (first | refine blk_drewN ?_ _ | refine blk_drew ?_ | refine blk_alloc ?_ _)); refine blk_far ?_ NB195_197.out _; (with_reducible repeat (first | refine blk_drewN ?_ _ | refine blk_drew ?_ | refine blk_alloc ?_ _)); refine blk_far ?_ NB195_197.out _; (with_reducible repeat (first | refine blk_drewN ?_ _ | refine blk_drew ?_ | refine blk_alloc ?_ _)); exact BK195.out⟩, ⟨by (with_reducible repeat (first | refine blk_drewN ?_ _ | refine blk_drew ?_ | refine blk_alloc ?_ _)); refine blk_far ?_ NB196_197.out _; (with_reducible repeat (first | refine blk_drewN ?_ _ | refine blk_drew ?_ | refine blk_alloc ?_ _)); refine blk_far ?_ NB196_197.out _; (with_reducible repeat (first | refine blk_drewN ?_ _ | refine blk_drew ?_ | refine blk_alloc ?_ _)); exact BK196.out⟩, ⟨by (with_reducible repeat (first | refine blk_drewN ?_ _ | refine blk_drew ?_ | refine blk_alloc ?_ _)); refine blk_put (cs := #[.bool x198000_1, .int .i64 x198001_1, .bool x198002_1, .int .i64 x198003_1, .bool x198004_1, .int .i64 x198005_1, .bool true, .int .i64 x198007_1]) ?_ 7 _ rfl; (with_reducible repeat (first | refine blk_drewN ?_ _ | refine blk_drew ?_ | refine blk_alloc ?_ _)); refine blk_put (cs := #[.bool x198000_1, .int .i64 x198001_1, .bool x198002_1, .int .i64 x198003_1, .bool x198004_1, .int .i64 x198005_1, .bool x198006_1, .int .i64 x198007_1]) ?_ 6 _ rfl; (with_reducible repeat (first | refine blk_drewN ?_ _ | refine blk_drew ?_ | refine blk_alloc ?_ _)); exact BK197.out⟩, ⟨by repeat (first | (with_reducible first | exact HB.out | apply below_alloc | apply pw_below_drewN | apply below_drew1 | refine below_set ?_ GE195.out | refine below_set ?_ GE196.out | refine below_set ?_ GE197.out) | exact HB.out)⟩⟩
                    · replace c60 := Bool.eq_false_iff.mpr c60
                      subst c60
                      have H1 : (valanceref10_Sides.l0 kj7 a1 a2 (wrap64 (3 + 1)) a0_0 a0_1 a0_2 a0_3 a0_4 a0_5 a0_6 a0_7 x198000_1 x198001_1 x198002_1 x198003_1 x198004_1 x198005_1 x198006_1 x198007_1) = some (r1, r2, r3, r4, r5, r6, r7, r8) := by rw [if_neg (show ¬ (false = true) by decide)] at H; exact H
                      clear H
                      have H := H1
                      clear H1
                      have H' := Aside0.mk H
                      clear H
                      have hnb70 := NB195_196.out
                      have hnc70 := NB196_195.out
                      have hnb71 := NB195_197.out
                      have hnc71 := NB197_195.out
                      have hcz72_0 : wc.cell? ⟨gb195, 0, none⟩ = some (.int .i64 a0_0) := (blk_cell BK195.out 0).trans rfl
                      have hcz72_1 : wc.cell? ⟨gb195, 1, none⟩ = some (.int .i64 a0_1) := (blk_cell BK195.out 1).trans rfl
                      have hcz72_2 : wc.cell? ⟨gb195, 2, none⟩ = some (.int .i64 a0_2) := (blk_cell BK195.out 2).trans rfl
                      have hcz72_3 : wc.cell? ⟨gb195, 3, none⟩ = some (.int .i64 a0_3) := (blk_cell BK195.out 3).trans rfl
                      have hcz72_4 : wc.cell? ⟨gb195, 4, none⟩ = some (.int .i64 a0_4) := (blk_cell BK195.out 4).trans rfl
                      have hcz72_5 : wc.cell? ⟨gb195, 5, none⟩ = some (.int .i64 a0_5) := (blk_cell BK195.out 5).trans rfl
                      have hcz72_6 : wc.cell? ⟨gb195, 6, none⟩ = some (.int .i64 a0_6) := (blk_cell BK195.out 6).trans rfl
                      have hcz72_7 : wc.cell? ⟨gb195, 7, none⟩ = some (.int .i64 a0_7) := (blk_cell BK195.out 7).trans rfl
                      have hfz72_0 := blk_frozen BK195.out 0
                      have hfz72_1 := blk_frozen BK195.out 1
                      have hfz72_2 := blk_frozen BK195.out 2
                      have hfz72_3 := blk_frozen BK195.out 3
                      have hfz72_4 := blk_frozen BK195.out 4
                      have hfz72_5 := blk_frozen BK195.out 5
                      have hfz72_6 := blk_frozen BK195.out 6
                      have hfz72_7 := blk_frozen BK195.out 7
                      go_wp2_with (first | ((with_reducible refine gate_callee (f := 43) rfl ?_); refine goesL_ (some 23) rfl rfl Try.func43 (by kernel_rfl) rfl #[.agg #[.int .i64 a0_6, .int .i64 a0_7], .int .i64 x9_7] rfl (by (try simp only [List.map_toArray, List.map_cons, List.map_nil]); first | done | rfl | (simp only [List.length_drop, List.length_take]; rfl)) ?_; (with_reducible refine (valanceref05_Fixed.calls a0_6 a0_7 x9_7 false _ A59.out).mono ?_); rintro e w73 ⟨rfl, hb⟩; refine ⟨_, rfl, ?_⟩; have n0_ := Aside0.mk (blk_below (g := gb195) (o := .cells #[.int .i64 a0_0, .int .i64 a0_1, .int .i64 a0_2, .int .i64 a0_3, .int .i64 a0_4, .int .i64 a0_5, .int .i64 a0_6, .int .i64 a0_7] 37 (0, 0)) (by (with_reducible repeat (first | refine blk_drewN ?_ _ | refine blk_drew ?_ | refine blk_alloc ?_ _)); exact BK195.out) hb); have n1_ := Aside0.mk (blk_below (g := gb196) (o := .cells #[.bool false, .int .i64 0, .bool false, .int .i64 0, .bool false, .int .i64 0, .bool false, .int .i64 0] 40 (0, 0)) (by (with_reducible repeat (first | refine blk_drewN ?_ _ | refine blk_drew ?_ | refine blk_alloc ?_ _)); exact BK196.out) hb); have n2_ := Aside0.mk (blk_below (g := gb197) (o := .cells #[.bool x198000_1, .int .i64 x198001_1, .bool x198002_1, .int .i64 x198003_1, .bool x198004_1, .int .i64 x198005_1, .bool x198006_1, .int .i64 x198007_1] 40 (0, 0)) (by (with_reducible repeat (first | refine blk_drewN ?_ _ | refine blk_drew ?_ | refine blk_alloc ?_ _)); exact BK197.out) hb); have n3_ := Aside0.mk (below_step (by repeat (first | (with_reducible first | exact HB.out | apply below_alloc | apply pw_below_drewN | apply below_drew1 | refine below_set ?_ GE195.out | refine below_set ?_ GE196.out | refine below_set ?_ GE197.out) | exact HB.out)) hb); clear BK195; clear BK196; clear BK197; clear HB; have BK195 := n0_; have BK196 := n1_; have BK197 := n2_; have HB := n3_; clear n0_ n1_ n2_ n3_; (try clear hb); (try clear hb2); (try clear hk); (try clear hi)))
                      go_roundg kj7
                      case measure => have := HK1.out; have := HJ7.out; omega
                      case rel => exact ⟨(wrap64 (3 + 1)), (x198000_1), (x198001_1), (x198002_1), (x198003_1), (x198004_1), (x198005_1), (x198006_1), (x198007_1), (by first | rfl | (simp <;> unfold wrap64 <;> omega) | (simp; done) | (simp [*]; done)), H', ⟨by have := HK1.out; have := HJ7.out; omega⟩, ⟨by (with_reducible repeat (first | refine blk_drewN ?_ _ | refine blk_drew ?_ | refine blk_alloc ?_ _)); exact BK195.out⟩, ⟨by (with_reducible repeat (first | refine blk_drewN ?_ _ | refine blk_drew ?_ | refine blk_alloc ?_ _)); exact BK196.out⟩, ⟨by (with_reducible repeat (first | refine blk_drewN ?_ _ | refine blk_drew ?_ | refine blk_alloc ?_ _)); exact BK197.out⟩, ⟨by repeat (first | (with_reducible first | exact HB.out | apply below_alloc | apply pw_below_drewN | apply below_drew1 | refine below_set ?_ GE195.out | refine below_set ?_ GE196.out | refine below_set ?_ GE197.out) | exact HB.out)⟩⟩
                  · rw [if_neg c58] at H
                    exact absurd H (by simp)
      · rw [if_neg c7] at H
        have c7b0 : decide (x8_1 < 4) = false := decide_eq_false c7
        clear c7
        simp only [Option.some.injEq, Prod.mk.injEq] at H
        obtain ⟨rfl, rfl, rfl, rfl, rfl, rfl, rfl, rfl⟩ := H
        have hnb74 := NB197_195.out
        have hnc74 := NB195_197.out
        have hnb75 := NB197_196.out
        have hnc75 := NB196_197.out
        have hcz76_0 : wr.cell? ⟨gb197, 0, none⟩ = some (.bool x198000_1) := (blk_cell BK197.out 0).trans rfl
        have hcz76_1 : wr.cell? ⟨gb197, 1, none⟩ = some (.int .i64 x198001_1) := (blk_cell BK197.out 1).trans rfl
        have hcz76_2 : wr.cell? ⟨gb197, 2, none⟩ = some (.bool x198002_1) := (blk_cell BK197.out 2).trans rfl
        have hcz76_3 : wr.cell? ⟨gb197, 3, none⟩ = some (.int .i64 x198003_1) := (blk_cell BK197.out 3).trans rfl
        have hcz76_4 : wr.cell? ⟨gb197, 4, none⟩ = some (.bool x198004_1) := (blk_cell BK197.out 4).trans rfl
        have hcz76_5 : wr.cell? ⟨gb197, 5, none⟩ = some (.int .i64 x198005_1) := (blk_cell BK197.out 5).trans rfl
        have hcz76_6 : wr.cell? ⟨gb197, 6, none⟩ = some (.bool x198006_1) := (blk_cell BK197.out 6).trans rfl
        have hcz76_7 : wr.cell? ⟨gb197, 7, none⟩ = some (.int .i64 x198007_1) := (blk_cell BK197.out 7).trans rfl
        have hfz76_0 := blk_frozen BK197.out 0
        have hfz76_1 := blk_frozen BK197.out 1
        have hfz76_2 := blk_frozen BK197.out 2
        have hfz76_3 := blk_frozen BK197.out 3
        have hfz76_4 := blk_frozen BK197.out 4
        have hfz76_5 := blk_frozen BK197.out 5
        have hfz76_6 := blk_frozen BK197.out 6
        have hfz76_7 := blk_frozen BK197.out 7
        have hnb77 := NB196_195.out
        have hnc77 := NB195_196.out
        have hcz78_0 : wr.cell? ⟨gb196, 0, none⟩ = some (.bool false) := (blk_cell BK196.out 0).trans rfl
        have hcz78_1 : wr.cell? ⟨gb196, 1, none⟩ = some (.int .i64 0) := (blk_cell BK196.out 1).trans rfl
        have hcz78_2 : wr.cell? ⟨gb196, 2, none⟩ = some (.bool false) := (blk_cell BK196.out 2).trans rfl
        have hcz78_3 : wr.cell? ⟨gb196, 3, none⟩ = some (.int .i64 0) := (blk_cell BK196.out 3).trans rfl
        have hcz78_4 : wr.cell? ⟨gb196, 4, none⟩ = some (.bool false) := (blk_cell BK196.out 4).trans rfl
        have hcz78_5 : wr.cell? ⟨gb196, 5, none⟩ = some (.int .i64 0) := (blk_cell BK196.out 5).trans rfl
        have hcz78_6 : wr.cell? ⟨gb196, 6, none⟩ = some (.bool false) := (blk_cell BK196.out 6).trans rfl
        have hcz78_7 : wr.cell? ⟨gb196, 7, none⟩ = some (.int .i64 0) := (blk_cell BK196.out 7).trans rfl
        have hfz78_0 := blk_frozen BK196.out 0
        have hfz78_1 := blk_frozen BK196.out 1
        have hfz78_2 := blk_frozen BK196.out 2
        have hfz78_3 := blk_frozen BK196.out 3
        have hfz78_4 := blk_frozen BK196.out 4
        have hfz78_5 := blk_frozen BK196.out 5
        have hfz78_6 := blk_frozen BK196.out 6
        have hfz78_7 := blk_frozen BK196.out 7
        go_wp2
        refine bodyPost_ret (results_cell_row rfl _ _ gb196 40 #[.bool x198000_1, .int .i64 x198001_1, .bool x198002_1, .int .i64 x198003_1, .bool x198004_1, .int .i64 x198005_1, .bool x198006_1, .int .i64 x198007_1] (0, 0) _ rfl (by (with_reducible repeat (first | refine blk_drewN ?_ _ | refine blk_drew ?_ | refine blk_alloc ?_ _)); refine blk_put (cs := #[.bool x198000_1, .int .i64 x198001_1, .bool x198002_1, .int .i64 x198003_1, .bool x198004_1, .int .i64 x198005_1, .bool x198006_1, .int .i64 0]) ?_ 7 _ rfl; (with_reducible repeat (first | refine blk_drewN ?_ _ | refine blk_drew ?_ | refine blk_alloc ?_ _)); refine blk_put (cs := #[.bool x198000_1, .int .i64 x198001_1, .bool x198002_1, .int .i64 x198003_1, .bool x198004_1, .int .i64 x198005_1, .bool false, .int .i64 0]) ?_ 6 _ rfl; (with_reducible repeat (first | refine blk_drewN ?_ _ | refine blk_drew ?_ | refine blk_alloc ?_ _)); refine blk_put (cs := #[.bool x198000_1, .int .i64 x198001_1, .bool x198002_1, .int .i64 x198003_1, .bool x198004_1, .int .i64 0, .bool false, .int .i64 0]) ?_ 5 _ rfl; (with_reducible repeat (first | refine blk_drewN ?_ _ | refine blk_drew ?_ | refine blk_alloc ?_ _)); refine blk_put (cs := #[.bool x198000_1, .int .i64 x198001_1, .bool x198002_1, .int .i64 x198003_1, .bool false, .int .i64 0, .bool false, .int .i64 0]) ?_ 4 _ rfl; (with_reducible repeat (first | refine blk_drewN ?_ _ | refine blk_drew ?_ | refine blk_alloc ?_ _)); refine blk_put (cs := #[.bool x198000_1, .int .i64 x198001_1, .bool x198002_1, .int .i64 0, .bool false, .int .i64 0, .bool false, .int .i64 0]) ?_ 3 _ rfl; (with_reducible repeat (first | refine blk_drewN ?_ _ | refine blk_drew ?_ | refine blk_alloc ?_ _)); refine blk_put (cs := #[.bool x198000_1, .int .i64 x198001_1, .bool false, .int .i64 0, .bool false, .int .i64 0, .bool false, .int .i64 0]) ?_ 2 _ rfl; (with_reducible repeat (first | refine blk_drewN ?_ _ | refine blk_drew ?_ | refine blk_alloc ?_ _)); refine blk_put (cs := #[.bool x198000_1, .int .i64 0, .bool false, .int .i64 0, .bool false, .int .i64 0, .bool false, .int .i64 0]) ?_ 1 _ rfl; (with_reducible repeat (first | refine blk_drewN ?_ _ | refine blk_drew ?_ | refine blk_alloc ?_ _)); refine blk_put (cs := #[.bool false, .int .i64 0, .bool false, .int .i64 0, .bool false, .int .i64 0, .bool false, .int .i64 0]) ?_ 0 _ rfl; (with_reducible repeat (first | refine blk_drewN ?_ _ | refine blk_drew ?_ | refine blk_alloc ?_ _)); exact BK196.out) Try.underlying40 rfl (by kernel_rfl)) rfl ?_
        exact ⟨by first | rfl | (simp [errW_none, errW_some] <;> rfl) | (simp [*, errW_none, errW_some] <;> rfl), by repeat (first | (with_reducible first | exact HB.out | apply below_alloc | apply pw_below_drewN | apply below_drew1 | refine below_set ?_ GE195.out | refine below_set ?_ GE196.out | refine below_set ?_ GE197.out) | exact HB.out)⟩

end Go.Proofs.Ytnmcefpnpfaklab.V
