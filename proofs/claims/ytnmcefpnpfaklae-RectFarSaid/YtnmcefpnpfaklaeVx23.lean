/- What the functions of this seat answer, as plain Lean functions, and that the calls come to just that (written by a program of this repo, over the kit's printer; Lean checks it). -/
import Derived.Test.YtnmcefpnpfaklaeVx0
import Derived.Test.YtnmcefpnpfaklaeVx1
import Derived.Test.YtnmcefpnpfaklaeVx2
import Derived.Test.YtnmcefpnpfaklaeVx9
import Derived.Test.YtnmcefpnpfaklaeVx15
import Derived.Test.YtnmcefpnpfaklaeVx17
import Derived.Test.YtnmcefpnpfaklaeVx19
import Derived.Test.YtnmcefpnpfaklaeVx20
namespace Go.Proofs.Ytnmcefpnpfaklae.V
open Go.RowKit Go.Proofs.Ytnmcefpnpfaklae.Flt Go.Proofs.YtnmcefpnpfaklaeW.PrintWords Go.Proofs.YtnmcefpnpfaklaeW.PrintLast Go.Proofs.YtnmcefpnpfaklaeW.PrintMore
attribute [local go_sem high] run_eql_vpt2 run_neq_vpt2 eqGuard_vpt2 vpt2_zero run_add_vpt2
attribute [local go_sem] max2_int min2_int max_two min_two max_three min_three max_four min_four   -- for this text's walks alone
set_option linter.unusedVariables false
set_option linter.unusedSimpArgs false

attribute [local go_sem high] eqA23
/-! ### valancelaw04_RectFar: function 5 -/
def valancelaw04_RectFar.j0 : Nat → Int → Int → Int → Bool → Bool → Int → Int → Int → Int → Option (Bool)
  | 0, _, _, _, _, _, _, _, _, _ => none
  | k + 1, x1, x2, x3, x9, x51, x352000, x352001, x352002, x352003 => if x51 = true then (some x9) else ((rect_Of.f (wrap64 ((wrap64 (x352000 + x352002)) + x1)) x352001 x2 x3).bind fun bt354 => ((rect_Join.f x352000 x352001 x352002 x352003 bt354.1 bt354.2.1 bt354.2.2.1 bt354.2.2.2).bind fun bt359 => (if x9 = true then ((rect_Meet.f x352000 x352001 x352002 x352003 bt354.1 bt354.2.1 bt354.2.2.1 bt354.2.2.2).bind fun bt364 => (if (bt364.1 == 0 && (bt364.2.1 == 0 && (bt364.2.2.1 == 0 && (bt364.2.2.2 == 0)))) = true then ((rect_Of.f x352000 x352001 (wrap64 ((wrap64 (x352002 + x1)) + x2)) (mx x352003 x3)).bind fun bt368 => (if (bt359.1 == bt368.1 && (bt359.2.1 == bt368.2.1 && (bt359.2.2.1 == bt368.2.2.1 && (bt359.2.2.2 == bt368.2.2.2)))) = true then ((rect_Meet.f bt359.1 bt359.2.1 bt359.2.2.1 bt359.2.2.2 x352000 x352001 x352002 x352003).bind fun bt372 => (if (bt372.1 == x352000 && (bt372.2.1 == x352001 && (bt372.2.2.1 == x352002 && (bt372.2.2.2 == x352003)))) = true then ((rect_Meet.f bt359.1 bt359.2.1 bt359.2.2.1 bt359.2.2.2 bt354.1 bt354.2.1 bt354.2.2.1 bt354.2.2.2).bind fun bt376 => (some (bt376.1 == bt354.1 && (bt376.2.1 == bt354.2.1 && (bt376.2.2.1 == bt354.2.2.1 && (bt376.2.2.2 == bt354.2.2.2)))))) else (none))) else (none))) else (none))) else (none))))
def valancelaw04_RectFar.f (k : Nat) (a0_0 : Int) (a0_1 : Int) (a0_2 : Int) (a0_3 : Int) (a1 : Int) (a2 : Int) (a3 : Int) : Option (Bool) := (valancelaw04_works.f).bind fun t352 => (if t352 = true then ((valancelaw04_small.f a0_0 a0_1 a0_2 a0_3).bind fun t353 => (if t353 = true then (if a0_2 = 0 then (valancelaw04_RectFar.j0 k a1 a2 a3 t352 true a0_0 a0_1 a0_2 a0_3) else (if a0_3 = 0 then (valancelaw04_RectFar.j0 k a1 a2 a3 t352 true a0_0 a0_1 a0_2 a0_3) else (if a1 < 0 then (valancelaw04_RectFar.j0 k a1 a2 a3 t352 true a0_0 a0_1 a0_2 a0_3) else (if a1 > 1073741824 then (valancelaw04_RectFar.j0 k a1 a2 a3 t352 true a0_0 a0_1 a0_2 a0_3) else (if a2 < 1 then (valancelaw04_RectFar.j0 k a1 a2 a3 t352 true a0_0 a0_1 a0_2 a0_3) else (if a2 > 1073741824 then (valancelaw04_RectFar.j0 k a1 a2 a3 t352 true a0_0 a0_1 a0_2 a0_3) else (if a3 < 1 then (valancelaw04_RectFar.j0 k a1 a2 a3 t352 true a0_0 a0_1 a0_2 a0_3) else (valancelaw04_RectFar.j0 k a1 a2 a3 t352 (decide (a3 > 1073741824)) a0_0 a0_1 a0_2 a0_3)))))))) else (valancelaw04_RectFar.j0 k a1 a2 a3 t352 true a0_0 a0_1 a0_2 a0_3))) else (none))
theorem valancelaw04_RectFar.mono_l : ∀ k, (∀ y0 y1 y2 y3 y4 y5 y6 y7 y8, LeO (valancelaw04_RectFar.j0 k y0 y1 y2 y3 y4 y5 y6 y7 y8) (valancelaw04_RectFar.j0 (k + 1) y0 y1 y2 y3 y4 y5 y6 y7 y8))
  | 0 => fun _ _ _ _ _ _ _ _ _ r h => by simp [valancelaw04_RectFar.j0] at h
  | k + 1 => by
    have ih0 := valancelaw04_RectFar.mono_l k
    · intro y0 y1 y2 y3 y4 y5 y6 y7 y8
      unfold valancelaw04_RectFar.j0
      repeat' first
      | (with_reducible exact ih0 _ _ _ _ _ _ _ _ _)
      | (with_reducible exact LeO.refl _)
      | (with_reducible exact LeO.none _)
      | (with_reducible refine LeO.ite ?_ ?_)
      | (with_reducible refine LeO.bind ?_ (fun _ => ?_))
      | exact ih0 _ _ _ _ _ _ _ _ _
      | exact LeO.none _
      | refine LeO.ite ?_ ?_
      | refine LeO.bind ?_ (fun _ => ?_)
theorem valancelaw04_RectFar.mono : ∀ a0 a1 a2 a3 a4 a5 a6 k, LeO (valancelaw04_RectFar.f k a0 a1 a2 a3 a4 a5 a6) (valancelaw04_RectFar.f (k + 1) a0 a1 a2 a3 a4 a5 a6) := by
  intro a0 a1 a2 a3 a4 a5 a6 k
  have ih0 := valancelaw04_RectFar.mono_l k
  unfold valancelaw04_RectFar.f
  repeat' first
      | (with_reducible exact ih0 _ _ _ _ _ _ _ _ _)
      | (with_reducible exact LeO.refl _)
      | (with_reducible exact LeO.none _)
      | (with_reducible refine LeO.ite ?_ ?_)
      | (with_reducible refine LeO.bind ?_ (fun _ => ?_))
      | exact ih0 _ _ _ _ _ _ _ _ _
      | exact LeO.none _
      | refine LeO.ite ?_ ?_
      | refine LeO.bind ?_ (fun _ => ?_)
def valancelaw04_RectFar.T8 : Bool × List (List Nat × List Nat) := (true, [([], []), ([0], [0]), ([1], [1]), ([1], [1]), ([2, 3, 1, 1], [1, 2, 3]), ([1], [1]), ([4, 5, 1], [1, 4, 5]), ([1, 6], [1, 6]), ([7, 4], [7]), ([8], [8]), ([8], [8]), ([10, 8], [8, 10]), ([8], [8]), ([12, 8], [8, 12]), ([8], [8]), ([14, 8], [8, 14]), ([8], [8]), ([15, 16, 8], [8, 15, 16]), ([8], [8]), ([17, 18, 8], [8, 17, 18]), ([8], [8]), ([20, 8], [8, 20]), ([8], [8]), ([21, 22, 8], [8, 21, 22]), ([11, 13, 19, 23, 8, 8], [8, 11, 13, 19, 23]), ([9, 24, 8], [8, 9, 24]), ([8, 25], [8, 25]), ([26, 24], [26]), ([27], [27]), ([27], [27]), ([28, 29, 27, 27], [27, 28, 29]), ([27], [27]), ([30, 31, 27], [27, 30, 31]), ([27, 32], [27, 32]), ([33, 30], [33]), ([34], [34]), ([34], [34]), ([35, 36, 34, 34], [34, 35, 36]), ([34], [34]), ([37, 38, 34], [34, 37, 38]), ([34, 39], [34, 39]), ([40, 37, 0, 1, 2, 3, 4, 5, 6, 7, 8, 9, 10, 11, 12, 13, 14, 15, 16, 17, 18, 19, 20, 21, 22, 23, 24, 25, 26, 27, 28, 29, 30, 31, 32, 33, 34, 35, 36, 37, 38, 39, 40], [40])])
def valancelaw04_RectFar.B8 : List Nat := [0, 1, 3, 3, 15, 3, 63, 127, 255, 511, 511, 1535, 511, 4607, 511, 16895, 511, 115199, 511, 508415, 511, 1049087, 511, 7340543, 16776703, 33554431, 67108863, 134217727, 268435455, 268435455, 1073741823, 268435455, 4294967295, 8589934591, 17179869183, 34359738367, 34359738367, 137438953471, 34359738367, 549755813887, 1099511627775, 2199023255551]
theorem valancelaw04_RectFar.tab8 : rtab .any (opsOf Try.f5 8) = valancelaw04_RectFar.T8 := by kernel_rfl
theorem valancelaw04_RectFar.bits8 : waitsOk valancelaw04_RectFar.T8.2 valancelaw04_RectFar.B8 = true := by kernel_rfl
set_option maxHeartbeats 8000000 in
set_option maxRecDepth 100000 in
theorem valancelaw04_RectFar.calls (k : Nat) (a0_0 : Int) (a0_1 : Int) (a0_2 : Int) (a0_3 : Int) (a1 : Int) (a2 : Int) (a3 : Int) (r : Bool) (w : World) (h : valancelaw04_RectFar.f k a0_0 a0_1 a0_2 a0_3 a1 a2 a3 = some r) :
    Calls Try.prog 5 #[.agg #[.int .i64 a0_0, .int .i64 a0_1, .int .i64 a0_2, .int .i64 a0_3], .int .i64 a1, .int .i64 a2, .int .i64 a3] w fun e w' => e = .returned (.bool r) ∧ Below w.heap.size w w' := by
  have hu23 := Try.underlying23
  have HB := Aside0.mk (Below.refl w.heap.size w)
  have H : ((valancelaw04_works.f).bind fun t352 => (if t352 = true then ((valancelaw04_small.f a0_0 a0_1 a0_2 a0_3).bind fun t353 => (if t353 = true then (if a0_2 = 0 then (valancelaw04_RectFar.j0 k a1 a2 a3 t352 true a0_0 a0_1 a0_2 a0_3) else (if a0_3 = 0 then (valancelaw04_RectFar.j0 k a1 a2 a3 t352 true a0_0 a0_1 a0_2 a0_3) else (if a1 < 0 then (valancelaw04_RectFar.j0 k a1 a2 a3 t352 true a0_0 a0_1 a0_2 a0_3) else (if a1 > 1073741824 then (valancelaw04_RectFar.j0 k a1 a2 a3 t352 true a0_0 a0_1 a0_2 a0_3) else (if a2 < 1 then (valancelaw04_RectFar.j0 k a1 a2 a3 t352 true a0_0 a0_1 a0_2 a0_3) else (if a2 > 1073741824 then (valancelaw04_RectFar.j0 k a1 a2 a3 t352 true a0_0 a0_1 a0_2 a0_3) else (if a3 < 1 then (valancelaw04_RectFar.j0 k a1 a2 a3 t352 true a0_0 a0_1 a0_2 a0_3) else (valancelaw04_RectFar.j0 k a1 a2 a3 t352 (decide (a3 > 1073741824)) a0_0 a0_1 a0_2 a0_3)))))))) else (valancelaw04_RectFar.j0 k a1 a2 a3 t352 true a0_0 a0_1 a0_2 a0_3))) else (none))) = some r := h
  clear h
  replace H := Option.bind_eq_some_iff.mp H
  obtain ⟨t352, A50, H⟩ := H
  replace H : (if t352 = true then ((valancelaw04_small.f a0_0 a0_1 a0_2 a0_3).bind fun t353 => (if t353 = true then (if a0_2 = 0 then (valancelaw04_RectFar.j0 k a1 a2 a3 t352 true a0_0 a0_1 a0_2 a0_3) else (if a0_3 = 0 then (valancelaw04_RectFar.j0 k a1 a2 a3 t352 true a0_0 a0_1 a0_2 a0_3) else (if a1 < 0 then (valancelaw04_RectFar.j0 k a1 a2 a3 t352 true a0_0 a0_1 a0_2 a0_3) else (if a1 > 1073741824 then (valancelaw04_RectFar.j0 k a1 a2 a3 t352 true a0_0 a0_1 a0_2 a0_3) else (if a2 < 1 then (valancelaw04_RectFar.j0 k a1 a2 a3 t352 true a0_0 a0_1 a0_2 a0_3) else (if a2 > 1073741824 then (valancelaw04_RectFar.j0 k a1 a2 a3 t352 true a0_0 a0_1 a0_2 a0_3) else (if a3 < 1 then (valancelaw04_RectFar.j0 k a1 a2 a3 t352 true a0_0 a0_1 a0_2 a0_3) else (valancelaw04_RectFar.j0 k a1 a2 a3 t352 (decide (a3 > 1073741824)) a0_0 a0_1 a0_2 a0_3)))))))) else (valancelaw04_RectFar.j0 k a1 a2 a3 t352 true a0_0 a0_1 a0_2 a0_3))) else (none)) = some r := H
  have A5 := Aside0.mk A50
  clear A50
  by_cases c6 : t352 = true
  · subst c6
    have H1 : ((valancelaw04_small.f a0_0 a0_1 a0_2 a0_3).bind fun t353 => (if t353 = true then (if a0_2 = 0 then (valancelaw04_RectFar.j0 k a1 a2 a3 true true a0_0 a0_1 a0_2 a0_3) else (if a0_3 = 0 then (valancelaw04_RectFar.j0 k a1 a2 a3 true true a0_0 a0_1 a0_2 a0_3) else (if a1 < 0 then (valancelaw04_RectFar.j0 k a1 a2 a3 true true a0_0 a0_1 a0_2 a0_3) else (if a1 > 1073741824 then (valancelaw04_RectFar.j0 k a1 a2 a3 true true a0_0 a0_1 a0_2 a0_3) else (if a2 < 1 then (valancelaw04_RectFar.j0 k a1 a2 a3 true true a0_0 a0_1 a0_2 a0_3) else (if a2 > 1073741824 then (valancelaw04_RectFar.j0 k a1 a2 a3 true true a0_0 a0_1 a0_2 a0_3) else (if a3 < 1 then (valancelaw04_RectFar.j0 k a1 a2 a3 true true a0_0 a0_1 a0_2 a0_3) else (valancelaw04_RectFar.j0 k a1 a2 a3 true (decide (a3 > 1073741824)) a0_0 a0_1 a0_2 a0_3)))))))) else (valancelaw04_RectFar.j0 k a1 a2 a3 true true a0_0 a0_1 a0_2 a0_3))) = some r := by rw [if_pos rfl] at H; exact H
    clear H
    have H := H1
    clear H1
    have HC7 := Aside0.mk H
    clear H
    go_enter Try.func5, Try.ntmps5
    go_upto_region 4 with (first | ((with_reducible refine gate_dst (N := 4) rfl ?_); (try (refine gate_guard (by rfl) ?_; dsimp only)); refine box_event ?hg (N := 4) ?hd (cs := #[.int .i64 a0_0, .int .i64 a0_1, .int .i64 a0_2, .int .i64 a0_3]) (t := 23) ?hr ?_; (case hd => rfl); (case hg => rfl); (case hr => first | (go_simp; done) | (go_simp; rfl)); intro gb351 hg w8 hbox hb; have n0_ := Aside0.mk (below_step (by repeat (first | (with_reducible first | exact HB.out | apply below_alloc | apply pw_below_drewN | apply below_drew1) | exact HB.out)) hb); have n1_ := Aside0.mk (hbox); have n2_ := Aside0.mk ((by rw [hg]; exact (below_size (by repeat (first | (with_reducible first | exact HB.out | apply below_alloc | apply pw_below_drewN | apply below_drew1) | exact HB.out))) : w.heap.size ≤ gb351)); have n3_ := Aside0.mk ((by rw [hg]; exact (below_size (by repeat (first | (with_reducible first | exact HB.out | apply below_alloc | apply pw_below_drewN | apply below_drew1) | exact HB.out))) : w.heap.size ≤ gb351)); clear HB; have HB := n0_; have BK351 := n1_; have GW351 := n2_; have GE351 := n3_; clear n0_ n1_ n2_ n3_; clear hb hbox hg) | ((with_reducible refine gate_callee (f := 6) rfl ?_); refine goesL_ (some 12) rfl rfl Try.func6 (by kernel_rfl) rfl #[] rfl (by (try simp only [List.map_toArray, List.map_cons, List.map_nil]); first | done | rfl | (simp only [List.length_drop, List.length_take]; rfl)) ?_; (with_reducible refine (valancelaw04_works.calls  true _ A5.out).mono ?_); rintro e w9 ⟨rfl, hb⟩; refine ⟨_, rfl, ?_⟩; have n0_ := Aside0.mk (blk_below (g := gb351) (o := .cells #[.int .i64 a0_0, .int .i64 a0_1, .int .i64 a0_2, .int .i64 a0_3] 23 (0, 0)) (by (with_reducible repeat (first | refine blk_drewN ?_ _ | refine blk_drew ?_ | refine blk_alloc ?_ _)); exact BK351.out) hb); have n1_ := Aside0.mk (below_step (by repeat (first | (with_reducible first | exact HB.out | apply below_alloc | apply pw_below_drewN | apply below_drew1 | refine below_set ?_ GE351.out) | exact HB.out)) hb); clear BK351; clear HB; have BK351 := n0_; have HB := n1_; clear n0_ n1_; (try clear hb); (try clear hb2); (try clear hk); (try clear hi)))
    (try simp only [Act.put, List.setIfInBounds_toArray, List.set_cons_zero, List.set_cons_succ])
    go_cut [51] (fun v51 wc => ∃ (kq : Nat) (x51_6 : Bool), v51 = .bool x51_6 ∧ Aside0 (valancelaw04_RectFar.j0 kq a1 a2 a3 true x51_6 a0_0 a0_1 a0_2 a0_3 = some r) ∧ Aside0 (kq ≤ k) ∧ Aside0 (wc.heap[gb351]? = some (.cells #[.int .i64 a0_0, .int .i64 a0_1, .int .i64 a0_2, .int .i64 a0_3] 23 (0, 0))) ∧ Aside0 (Below w.heap.size w wc))
    case first =>
      have H := HC7.out
      clear HC7
      replace H := Option.bind_eq_some_iff.mp H
      obtain ⟨t353, A100, H⟩ := H
      replace H : (if t353 = true then (if a0_2 = 0 then (valancelaw04_RectFar.j0 k a1 a2 a3 true true a0_0 a0_1 a0_2 a0_3) else (if a0_3 = 0 then (valancelaw04_RectFar.j0 k a1 a2 a3 true true a0_0 a0_1 a0_2 a0_3) else (if a1 < 0 then (valancelaw04_RectFar.j0 k a1 a2 a3 true true a0_0 a0_1 a0_2 a0_3) else (if a1 > 1073741824 then (valancelaw04_RectFar.j0 k a1 a2 a3 true true a0_0 a0_1 a0_2 a0_3) else (if a2 < 1 then (valancelaw04_RectFar.j0 k a1 a2 a3 true true a0_0 a0_1 a0_2 a0_3) else (if a2 > 1073741824 then (valancelaw04_RectFar.j0 k a1 a2 a3 true true a0_0 a0_1 a0_2 a0_3) else (if a3 < 1 then (valancelaw04_RectFar.j0 k a1 a2 a3 true true a0_0 a0_1 a0_2 a0_3) else (valancelaw04_RectFar.j0 k a1 a2 a3 true (decide (a3 > 1073741824)) a0_0 a0_1 a0_2 a0_3)))))))) else (valancelaw04_RectFar.j0 k a1 a2 a3 true true a0_0 a0_1 a0_2 a0_3)) = some r := H
      have A10 := Aside0.mk A100
      clear A100
      by_cases c11 : t353 = true
      · subst c11
        have H1 : (if a0_2 = 0 then (valancelaw04_RectFar.j0 k a1 a2 a3 true true a0_0 a0_1 a0_2 a0_3) else (if a0_3 = 0 then (valancelaw04_RectFar.j0 k a1 a2 a3 true true a0_0 a0_1 a0_2 a0_3) else (if a1 < 0 then (valancelaw04_RectFar.j0 k a1 a2 a3 true true a0_0 a0_1 a0_2 a0_3) else (if a1 > 1073741824 then (valancelaw04_RectFar.j0 k a1 a2 a3 true true a0_0 a0_1 a0_2 a0_3) else (if a2 < 1 then (valancelaw04_RectFar.j0 k a1 a2 a3 true true a0_0 a0_1 a0_2 a0_3) else (if a2 > 1073741824 then (valancelaw04_RectFar.j0 k a1 a2 a3 true true a0_0 a0_1 a0_2 a0_3) else (if a3 < 1 then (valancelaw04_RectFar.j0 k a1 a2 a3 true true a0_0 a0_1 a0_2 a0_3) else (valancelaw04_RectFar.j0 k a1 a2 a3 true (decide (a3 > 1073741824)) a0_0 a0_1 a0_2 a0_3)))))))) = some r := by rw [if_pos rfl] at H; exact H
        clear H
        have H := H1
        clear H1
        by_cases c12 : a0_2 = 0
        · rw [if_pos c12] at H
          have c12b0 : (a0_2 == 0) = true := beq_iff_eq.mpr c12
          have c12b1 : (a0_2 != 0) = false := bne_eq_false_iff_eq.mpr c12
          clear c12
          (first | rw [c12b0] | (simp only [i64_w, i32_w]; rw [c12b0]) | skip)
          have H' := Aside0.mk H
          clear H
          have hcz13_0 : w9.cell? ⟨gb351, 0, none⟩ = some (.int .i64 a0_0) := (blk_cell BK351.out 0).trans rfl
          have hcz13_1 : w9.cell? ⟨gb351, 1, none⟩ = some (.int .i64 a0_1) := (blk_cell BK351.out 1).trans rfl
          have hcz13_2 : w9.cell? ⟨gb351, 2, none⟩ = some (.int .i64 a0_2) := (blk_cell BK351.out 2).trans rfl
          have hcz13_3 : w9.cell? ⟨gb351, 3, none⟩ = some (.int .i64 a0_3) := (blk_cell BK351.out 3).trans rfl
          have hfz13_0 := blk_frozen BK351.out 0
          have hfz13_1 := blk_frozen BK351.out 1
          have hfz13_2 := blk_frozen BK351.out 2
          have hfz13_3 := blk_frozen BK351.out 3
          go_wp2_with (first | ((with_reducible refine gate_callee (f := 7) rfl ?_); refine goesL_ (some 16) rfl rfl Try.func7 (by kernel_rfl) rfl #[.agg #[.int .i64 a0_0, .int .i64 a0_1, .int .i64 a0_2, .int .i64 a0_3]] rfl (by (try simp only [List.map_toArray, List.map_cons, List.map_nil]); first | done | rfl | (simp only [List.length_drop, List.length_take]; rfl)) ?_; (with_reducible refine (valancelaw04_small.calls a0_0 a0_1 a0_2 a0_3 true _ A10.out).mono ?_); rintro e w14 ⟨rfl, hb⟩; refine ⟨_, rfl, ?_⟩; have n0_ := Aside0.mk (blk_below (g := gb351) (o := .cells #[.int .i64 a0_0, .int .i64 a0_1, .int .i64 a0_2, .int .i64 a0_3] 23 (0, 0)) (by (with_reducible repeat (first | refine blk_drewN ?_ _ | refine blk_drew ?_ | refine blk_alloc ?_ _)); exact BK351.out) hb); have n1_ := Aside0.mk (below_step (by repeat (first | (with_reducible first | exact HB.out | apply below_alloc | apply pw_below_drewN | apply below_drew1 | refine below_set ?_ GE351.out) | exact HB.out)) hb); clear BK351; clear HB; have BK351 := n0_; have HB := n1_; clear n0_ n1_; (try clear hb); (try clear hb2); (try clear hk); (try clear hi); have hcz15_0 : w14.cell? ⟨gb351, 0, none⟩ = some (.int .i64 a0_0) := (blk_cell BK351.out 0).trans rfl; have hcz15_1 : w14.cell? ⟨gb351, 1, none⟩ = some (.int .i64 a0_1) := (blk_cell BK351.out 1).trans rfl; have hcz15_2 : w14.cell? ⟨gb351, 2, none⟩ = some (.int .i64 a0_2) := (blk_cell BK351.out 2).trans rfl; have hcz15_3 : w14.cell? ⟨gb351, 3, none⟩ = some (.int .i64 a0_3) := (blk_cell BK351.out 3).trans rfl; have hfz15_0 := blk_frozen BK351.out 0; have hfz15_1 := blk_frozen BK351.out 1; have hfz15_2 := blk_frozen BK351.out 2; have hfz15_3 := blk_frozen BK351.out 3))
          go_meet
          case rel => exact ⟨_, (true), (by first | rfl | (simp; done) | (simp [*]; done)), H', ⟨by first | omega | exact Nat.le_refl _⟩, ⟨by (with_reducible repeat (first | refine blk_drewN ?_ _ | refine blk_drew ?_ | refine blk_alloc ?_ _)); exact BK351.out⟩, ⟨by repeat (first | (with_reducible first | exact HB.out | apply below_alloc | apply pw_below_drewN | apply below_drew1 | refine below_set ?_ GE351.out) | exact HB.out)⟩⟩
        · rw [if_neg c12] at H
          have c12b0 : (a0_2 == 0) = false := beq_eq_false_iff_ne.mpr c12
          have c12b1 : (a0_2 != 0) = true := bne_iff_ne.mpr c12
          (first | rw [c12b0] | (simp only [i64_w, i32_w]; rw [c12b0]) | skip)
          by_cases c16 : a0_3 = 0
          · rw [if_pos c16] at H
            have c16b0 : (a0_3 == 0) = true := beq_iff_eq.mpr c16
            have c16b1 : (a0_3 != 0) = false := bne_eq_false_iff_eq.mpr c16
            clear c16
            have H' := Aside0.mk H
            clear H
            have hcz17_0 : w9.cell? ⟨gb351, 0, none⟩ = some (.int .i64 a0_0) := (blk_cell BK351.out 0).trans rfl
            have hcz17_1 : w9.cell? ⟨gb351, 1, none⟩ = some (.int .i64 a0_1) := (blk_cell BK351.out 1).trans rfl
            have hcz17_2 : w9.cell? ⟨gb351, 2, none⟩ = some (.int .i64 a0_2) := (blk_cell BK351.out 2).trans rfl
            have hcz17_3 : w9.cell? ⟨gb351, 3, none⟩ = some (.int .i64 a0_3) := (blk_cell BK351.out 3).trans rfl
            have hfz17_0 := blk_frozen BK351.out 0
            have hfz17_1 := blk_frozen BK351.out 1
            have hfz17_2 := blk_frozen BK351.out 2
            have hfz17_3 := blk_frozen BK351.out 3
            go_wp2_with (first | ((with_reducible refine gate_callee (f := 7) rfl ?_); refine goesL_ (some 16) rfl rfl Try.func7 (by kernel_rfl) rfl #[.agg #[.int .i64 a0_0, .int .i64 a0_1, .int .i64 a0_2, .int .i64 a0_3]] rfl (by (try simp only [List.map_toArray, List.map_cons, List.map_nil]); first | done | rfl | (simp only [List.length_drop, List.length_take]; rfl)) ?_; (with_reducible refine (valancelaw04_small.calls a0_0 a0_1 a0_2 a0_3 true _ A10.out).mono ?_); rintro e w18 ⟨rfl, hb⟩; refine ⟨_, rfl, ?_⟩; have n0_ := Aside0.mk (blk_below (g := gb351) (o := .cells #[.int .i64 a0_0, .int .i64 a0_1, .int .i64 a0_2, .int .i64 a0_3] 23 (0, 0)) (by (with_reducible repeat (first | refine blk_drewN ?_ _ | refine blk_drew ?_ | refine blk_alloc ?_ _)); exact BK351.out) hb); have n1_ := Aside0.mk (below_step (by repeat (first | (with_reducible first | exact HB.out | apply below_alloc | apply pw_below_drewN | apply below_drew1 | refine below_set ?_ GE351.out) | exact HB.out)) hb); clear BK351; clear HB; have BK351 := n0_; have HB := n1_; clear n0_ n1_; (try clear hb); (try clear hb2); (try clear hk); (try clear hi); have hcz19_0 : w18.cell? ⟨gb351, 0, none⟩ = some (.int .i64 a0_0) := (blk_cell BK351.out 0).trans rfl; have hcz19_1 : w18.cell? ⟨gb351, 1, none⟩ = some (.int .i64 a0_1) := (blk_cell BK351.out 1).trans rfl; have hcz19_2 : w18.cell? ⟨gb351, 2, none⟩ = some (.int .i64 a0_2) := (blk_cell BK351.out 2).trans rfl; have hcz19_3 : w18.cell? ⟨gb351, 3, none⟩ = some (.int .i64 a0_3) := (blk_cell BK351.out 3).trans rfl; have hfz19_0 := blk_frozen BK351.out 0; have hfz19_1 := blk_frozen BK351.out 1; have hfz19_2 := blk_frozen BK351.out 2; have hfz19_3 := blk_frozen BK351.out 3))
            go_meet
            case rel => exact ⟨_, (true), (by first | rfl | (simp; done) | (simp [*]; done)), H', ⟨by first | omega | exact Nat.le_refl _⟩, ⟨by (with_reducible repeat (first | refine blk_drewN ?_ _ | refine blk_drew ?_ | refine blk_alloc ?_ _)); exact BK351.out⟩, ⟨by repeat (first | (with_reducible first | exact HB.out | apply below_alloc | apply pw_below_drewN | apply below_drew1 | refine below_set ?_ GE351.out) | exact HB.out)⟩⟩
          · rw [if_neg c16] at H
            have c16b0 : (a0_3 == 0) = false := beq_eq_false_iff_ne.mpr c16
            have c16b1 : (a0_3 != 0) = true := bne_iff_ne.mpr c16
            by_cases c20 : a1 < 0
            · rw [if_pos c20] at H
              have c20b0 : decide (a1 < 0) = true := decide_eq_true c20
              clear c20
              have H' := Aside0.mk H
              clear H
              have hcz21_0 : w9.cell? ⟨gb351, 0, none⟩ = some (.int .i64 a0_0) := (blk_cell BK351.out 0).trans rfl
              have hcz21_1 : w9.cell? ⟨gb351, 1, none⟩ = some (.int .i64 a0_1) := (blk_cell BK351.out 1).trans rfl
              have hcz21_2 : w9.cell? ⟨gb351, 2, none⟩ = some (.int .i64 a0_2) := (blk_cell BK351.out 2).trans rfl
              have hcz21_3 : w9.cell? ⟨gb351, 3, none⟩ = some (.int .i64 a0_3) := (blk_cell BK351.out 3).trans rfl
              have hfz21_0 := blk_frozen BK351.out 0
              have hfz21_1 := blk_frozen BK351.out 1
              have hfz21_2 := blk_frozen BK351.out 2
              have hfz21_3 := blk_frozen BK351.out 3
              go_wp2_with (first | ((with_reducible refine gate_callee (f := 7) rfl ?_); refine goesL_ (some 16) rfl rfl Try.func7 (by kernel_rfl) rfl #[.agg #[.int .i64 a0_0, .int .i64 a0_1, .int .i64 a0_2, .int .i64 a0_3]] rfl (by (try simp only [List.map_toArray, List.map_cons, List.map_nil]); first | done | rfl | (simp only [List.length_drop, List.length_take]; rfl)) ?_; (with_reducible refine (valancelaw04_small.calls a0_0 a0_1 a0_2 a0_3 true _ A10.out).mono ?_); rintro e w22 ⟨rfl, hb⟩; refine ⟨_, rfl, ?_⟩; have n0_ := Aside0.mk (blk_below (g := gb351) (o := .cells #[.int .i64 a0_0, .int .i64 a0_1, .int .i64 a0_2, .int .i64 a0_3] 23 (0, 0)) (by (with_reducible repeat (first | refine blk_drewN ?_ _ | refine blk_drew ?_ | refine blk_alloc ?_ _)); exact BK351.out) hb); have n1_ := Aside0.mk (below_step (by repeat (first | (with_reducible first | exact HB.out | apply below_alloc | apply pw_below_drewN | apply below_drew1 | refine below_set ?_ GE351.out) | exact HB.out)) hb); clear BK351; clear HB; have BK351 := n0_; have HB := n1_; clear n0_ n1_; (try clear hb); (try clear hb2); (try clear hk); (try clear hi); have hcz23_0 : w22.cell? ⟨gb351, 0, none⟩ = some (.int .i64 a0_0) := (blk_cell BK351.out 0).trans rfl; have hcz23_1 : w22.cell? ⟨gb351, 1, none⟩ = some (.int .i64 a0_1) := (blk_cell BK351.out 1).trans rfl; have hcz23_2 : w22.cell? ⟨gb351, 2, none⟩ = some (.int .i64 a0_2) := (blk_cell BK351.out 2).trans rfl; have hcz23_3 : w22.cell? ⟨gb351, 3, none⟩ = some (.int .i64 a0_3) := (blk_cell BK351.out 3).trans rfl; have hfz23_0 := blk_frozen BK351.out 0; have hfz23_1 := blk_frozen BK351.out 1; have hfz23_2 := blk_frozen BK351.out 2; have hfz23_3 := blk_frozen BK351.out 3))
              go_meet
              case rel => exact ⟨_, (true), (by first | rfl | (simp; done) | (simp [*]; done)), H', ⟨by first | omega | exact Nat.le_refl _⟩, ⟨by (with_reducible repeat (first | refine blk_drewN ?_ _ | refine blk_drew ?_ | refine blk_alloc ?_ _)); exact BK351.out⟩, ⟨by repeat (first | (with_reducible first | exact HB.out | apply below_alloc | apply pw_below_drewN | apply below_drew1 | refine below_set ?_ GE351.out) | exact HB.out)⟩⟩
            · rw [if_neg c20] at H
              have c20b0 : decide (a1 < 0) = false := decide_eq_false c20
              clear c20
              by_cases c24 : a1 > 1073741824
              · rw [if_pos c24] at H
                have c24b0 : decide (1073741824 < a1) = true := decide_eq_true c24
                clear c24
                have H' := Aside0.mk H
                clear H
                have hcz25_0 : w9.cell? ⟨gb351, 0, none⟩ = some (.int .i64 a0_0) := (blk_cell BK351.out 0).trans rfl
                have hcz25_1 : w9.cell? ⟨gb351, 1, none⟩ = some (.int .i64 a0_1) := (blk_cell BK351.out 1).trans rfl
                have hcz25_2 : w9.cell? ⟨gb351, 2, none⟩ = some (.int .i64 a0_2) := (blk_cell BK351.out 2).trans rfl
                have hcz25_3 : w9.cell? ⟨gb351, 3, none⟩ = some (.int .i64 a0_3) := (blk_cell BK351.out 3).trans rfl
                have hfz25_0 := blk_frozen BK351.out 0
                have hfz25_1 := blk_frozen BK351.out 1
                have hfz25_2 := blk_frozen BK351.out 2
                have hfz25_3 := blk_frozen BK351.out 3
                go_wp2_with (first | ((with_reducible refine gate_callee (f := 7) rfl ?_); refine goesL_ (some 16) rfl rfl Try.func7 (by kernel_rfl) rfl #[.agg #[.int .i64 a0_0, .int .i64 a0_1, .int .i64 a0_2, .int .i64 a0_3]] rfl (by (try simp only [List.map_toArray, List.map_cons, List.map_nil]); first | done | rfl | (simp only [List.length_drop, List.length_take]; rfl)) ?_; (with_reducible refine (valancelaw04_small.calls a0_0 a0_1 a0_2 a0_3 true _ A10.out).mono ?_); rintro e w26 ⟨rfl, hb⟩; refine ⟨_, rfl, ?_⟩; have n0_ := Aside0.mk (blk_below (g := gb351) (o := .cells #[.int .i64 a0_0, .int .i64 a0_1, .int .i64 a0_2, .int .i64 a0_3] 23 (0, 0)) (by (with_reducible repeat (first | refine blk_drewN ?_ _ | refine blk_drew ?_ | refine blk_alloc ?_ _)); exact BK351.out) hb); have n1_ := Aside0.mk (below_step (by repeat (first | (with_reducible first | exact HB.out | apply below_alloc | apply pw_below_drewN | apply below_drew1 | refine below_set ?_ GE351.out) | exact HB.out)) hb); clear BK351; clear HB; have BK351 := n0_; have HB := n1_; clear n0_ n1_; (try clear hb); (try clear hb2); (try clear hk); (try clear hi); have hcz27_0 : w26.cell? ⟨gb351, 0, none⟩ = some (.int .i64 a0_0) := (blk_cell BK351.out 0).trans rfl; have hcz27_1 : w26.cell? ⟨gb351, 1, none⟩ = some (.int .i64 a0_1) := (blk_cell BK351.out 1).trans rfl; have hcz27_2 : w26.cell? ⟨gb351, 2, none⟩ = some (.int .i64 a0_2) := (blk_cell BK351.out 2).trans rfl; have hcz27_3 : w26.cell? ⟨gb351, 3, none⟩ = some (.int .i64 a0_3) := (blk_cell BK351.out 3).trans rfl; have hfz27_0 := blk_frozen BK351.out 0; have hfz27_1 := blk_frozen BK351.out 1; have hfz27_2 := blk_frozen BK351.out 2; have hfz27_3 := blk_frozen BK351.out 3))
                go_meet
                case rel => exact ⟨_, (true), (by first | rfl | (simp; done) | (simp [*]; done)), H', ⟨by first | omega | exact Nat.le_refl _⟩, ⟨by (with_reducible repeat (first | refine blk_drewN ?_ _ | refine blk_drew ?_ | refine blk_alloc ?_ _)); exact BK351.out⟩, ⟨by repeat (first | (with_reducible first | exact HB.out | apply below_alloc | apply pw_below_drewN | apply below_drew1 | refine below_set ?_ GE351.out) | exact HB.out)⟩⟩
              · rw [if_neg c24] at H
                have c24b0 : decide (1073741824 < a1) = false := decide_eq_false c24
                clear c24
                by_cases c28 : a2 < 1
                · rw [if_pos c28] at H
                  have c28b0 : decide (a2 < 1) = true := decide_eq_true c28
                  clear c28
                  have H' := Aside0.mk H
                  clear H
                  have hcz29_0 : w9.cell? ⟨gb351, 0, none⟩ = some (.int .i64 a0_0) := (blk_cell BK351.out 0).trans rfl
                  have hcz29_1 : w9.cell? ⟨gb351, 1, none⟩ = some (.int .i64 a0_1) := (blk_cell BK351.out 1).trans rfl
                  have hcz29_2 : w9.cell? ⟨gb351, 2, none⟩ = some (.int .i64 a0_2) := (blk_cell BK351.out 2).trans rfl
                  have hcz29_3 : w9.cell? ⟨gb351, 3, none⟩ = some (.int .i64 a0_3) := (blk_cell BK351.out 3).trans rfl
                  have hfz29_0 := blk_frozen BK351.out 0
                  have hfz29_1 := blk_frozen BK351.out 1
                  have hfz29_2 := blk_frozen BK351.out 2
                  have hfz29_3 := blk_frozen BK351.out 3
                  go_wp2_with (first | ((with_reducible refine gate_callee (f := 7) rfl ?_); refine goesL_ (some 16) rfl rfl Try.func7 (by kernel_rfl) rfl #[.agg #[.int .i64 a0_0, .int .i64 a0_1, .int .i64 a0_2, .int .i64 a0_3]] rfl (by (try simp only [List.map_toArray, List.map_cons, List.map_nil]); first | done | rfl | (simp only [List.length_drop, List.length_take]; rfl)) ?_; (with_reducible refine (valancelaw04_small.calls a0_0 a0_1 a0_2 a0_3 true _ A10.out).mono ?_); rintro e w30 ⟨rfl, hb⟩; refine ⟨_, rfl, ?_⟩; have n0_ := Aside0.mk (blk_below (g := gb351) (o := .cells #[.int .i64 a0_0, .int .i64 a0_1, .int .i64 a0_2, .int .i64 a0_3] 23 (0, 0)) (by (with_reducible repeat (first | refine blk_drewN ?_ _ | refine blk_drew ?_ | refine blk_alloc ?_ _)); exact BK351.out) hb); have n1_ := Aside0.mk (below_step (by repeat (first | (with_reducible first | exact HB.out | apply below_alloc | apply pw_below_drewN | apply below_drew1 | refine below_set ?_ GE351.out) | exact HB.out)) hb); clear BK351; clear HB; have BK351 := n0_; have HB := n1_; clear n0_ n1_; (try clear hb); (try clear hb2); (try clear hk); (try clear hi); have hcz31_0 : w30.cell? ⟨gb351, 0, none⟩ = some (.int .i64 a0_0) := (blk_cell BK351.out 0).trans rfl; have hcz31_1 : w30.cell? ⟨gb351, 1, none⟩ = some (.int .i64 a0_1) := (blk_cell BK351.out 1).trans rfl; have hcz31_2 : w30.cell? ⟨gb351, 2, none⟩ = some (.int .i64 a0_2) := (blk_cell BK351.out 2).trans rfl; have hcz31_3 : w30.cell? ⟨gb351, 3, none⟩ = some (.int .i64 a0_3) := (blk_cell BK351.out 3).trans rfl; have hfz31_0 := blk_frozen BK351.out 0; have hfz31_1 := blk_frozen BK351.out 1; have hfz31_2 := blk_frozen BK351.out 2; have hfz31_3 := blk_frozen BK351.out 3))
                  go_meet
                  case rel => exact ⟨_, (true), (by first | rfl | (simp; done) | (simp [*]; done)), H', ⟨by first | omega | exact Nat.le_refl _⟩, ⟨by (with_reducible repeat (first | refine blk_drewN ?_ _ | refine blk_drew ?_ | refine blk_alloc ?_ _)); exact BK351.out⟩, ⟨by repeat (first | (with_reducible first | exact HB.out | apply below_alloc | apply pw_below_drewN | apply below_drew1 | refine below_set ?_ GE351.out) | exact HB.out)⟩⟩
                · rw [if_neg c28] at H
                  have c28b0 : decide (a2 < 1) = false := decide_eq_false c28
                  clear c28
                  by_cases c32 : a2 > 1073741824
                  · rw [if_pos c32] at H
                    have c32b0 : decide (1073741824 < a2) = true := decide_eq_true c32
                    clear c32
                    have H' := Aside0.mk H
                    clear H
                    have hcz33_0 : w9.cell? ⟨gb351, 0, none⟩ = some (.int .i64 a0_0) := (blk_cell BK351.out 0).trans rfl
                    have hcz33_1 : w9.cell? ⟨gb351, 1, none⟩ = some (.int .i64 a0_1) := (blk_cell BK351.out 1).trans rfl
                    have hcz33_2 : w9.cell? ⟨gb351, 2, none⟩ = some (.int .i64 a0_2) := (blk_cell BK351.out 2).trans rfl
                    have hcz33_3 : w9.cell? ⟨gb351, 3, none⟩ = some (.int .i64 a0_3) := (blk_cell BK351.out 3).trans rfl
                    have hfz33_0 := blk_frozen BK351.out 0
                    have hfz33_1 := blk_frozen BK351.out 1
                    have hfz33_2 := blk_frozen BK351.out 2
                    have hfz33_3 := blk_frozen BK351.out 3
                    go_wp2_with (first | ((with_reducible refine gate_callee (f := 7) rfl ?_); refine goesL_ (some 16) rfl rfl Try.func7 (by kernel_rfl) rfl #[.agg #[.int .i64 a0_0, .int .i64 a0_1, .int .i64 a0_2, .int .i64 a0_3]] rfl (by (try simp only [List.map_toArray, List.map_cons, List.map_nil]); first | done | rfl | (simp only [List.length_drop, List.length_take]; rfl)) ?_; (with_reducible refine (valancelaw04_small.calls a0_0 a0_1 a0_2 a0_3 true _ A10.out).mono ?_); rintro e w34 ⟨rfl, hb⟩; refine ⟨_, rfl, ?_⟩; have n0_ := Aside0.mk (blk_below (g := gb351) (o := .cells #[.int .i64 a0_0, .int .i64 a0_1, .int .i64 a0_2, .int .i64 a0_3] 23 (0, 0)) (by (with_reducible repeat (first | refine blk_drewN ?_ _ | refine blk_drew ?_ | refine blk_alloc ?_ _)); exact BK351.out) hb); have n1_ := Aside0.mk (below_step (by repeat (first | (with_reducible first | exact HB.out | apply below_alloc | apply pw_below_drewN | apply below_drew1 | refine below_set ?_ GE351.out) | exact HB.out)) hb); clear BK351; clear HB; have BK351 := n0_; have HB := n1_; clear n0_ n1_; (try clear hb); (try clear hb2); (try clear hk); (try clear hi); have hcz35_0 : w34.cell? ⟨gb351, 0, none⟩ = some (.int .i64 a0_0) := (blk_cell BK351.out 0).trans rfl; have hcz35_1 : w34.cell? ⟨gb351, 1, none⟩ = some (.int .i64 a0_1) := (blk_cell BK351.out 1).trans rfl; have hcz35_2 : w34.cell? ⟨gb351, 2, none⟩ = some (.int .i64 a0_2) := (blk_cell BK351.out 2).trans rfl; have hcz35_3 : w34.cell? ⟨gb351, 3, none⟩ = some (.int .i64 a0_3) := (blk_cell BK351.out 3).trans rfl; have hfz35_0 := blk_frozen BK351.out 0; have hfz35_1 := blk_frozen BK351.out 1; have hfz35_2 := blk_frozen BK351.out 2; have hfz35_3 := blk_frozen BK351.out 3))
                    go_meet
                    case rel => exact ⟨_, (true), (by first | rfl | (simp; done) | (simp [*]; done)), H', ⟨by first | omega | exact Nat.le_refl _⟩, ⟨by (with_reducible repeat (first | refine blk_drewN ?_ _ | refine blk_drew ?_ | refine blk_alloc ?_ _)); exact BK351.out⟩, ⟨by repeat (first | (with_reducible first | exact HB.out | apply below_alloc | apply pw_below_drewN | apply below_drew1 | refine below_set ?_ GE351.out) | exact HB.out)⟩⟩
                  · rw [if_neg c32] at H
                    have c32b0 : decide (1073741824 < a2) = false := decide_eq_false c32
                    clear c32
                    by_cases c36 : a3 < 1
                    · rw [if_pos c36] at H
                      have c36b0 : decide (a3 < 1) = true := decide_eq_true c36
                      clear c36
                      have H' := Aside0.mk H
                      clear H
                      have hcz37_0 : w9.cell? ⟨gb351, 0, none⟩ = some (.int .i64 a0_0) := (blk_cell BK351.out 0).trans rfl
                      have hcz37_1 : w9.cell? ⟨gb351, 1, none⟩ = some (.int .i64 a0_1) := (blk_cell BK351.out 1).trans rfl
                      have hcz37_2 : w9.cell? ⟨gb351, 2, none⟩ = some (.int .i64 a0_2) := (blk_cell BK351.out 2).trans rfl
                      have hcz37_3 : w9.cell? ⟨gb351, 3, none⟩ = some (.int .i64 a0_3) := (blk_cell BK351.out 3).trans rfl
                      have hfz37_0 := blk_frozen BK351.out 0
                      have hfz37_1 := blk_frozen BK351.out 1
                      have hfz37_2 := blk_frozen BK351.out 2
                      have hfz37_3 := blk_frozen BK351.out 3
                      go_wp2_with (first | ((with_reducible refine gate_callee (f := 7) rfl ?_); refine goesL_ (some 16) rfl rfl Try.func7 (by kernel_rfl) rfl #[.agg #[.int .i64 a0_0, .int .i64 a0_1, .int .i64 a0_2, .int .i64 a0_3]] rfl (by (try simp only [List.map_toArray, List.map_cons, List.map_nil]); first | done | rfl | (simp only [List.length_drop, List.length_take]; rfl)) ?_; (with_reducible refine (valancelaw04_small.calls a0_0 a0_1 a0_2 a0_3 true _ A10.out).mono ?_); rintro e w38 ⟨rfl, hb⟩; refine ⟨_, rfl, ?_⟩; have n0_ := Aside0.mk (blk_below (g := gb351) (o := .cells #[.int .i64 a0_0, .int .i64 a0_1, .int .i64 a0_2, .int .i64 a0_3] 23 (0, 0)) (by (with_reducible repeat (first | refine blk_drewN ?_ _ | refine blk_drew ?_ | refine blk_alloc ?_ _)); exact BK351.out) hb); have n1_ := Aside0.mk (below_step (by repeat (first | (with_reducible first | exact HB.out | apply below_alloc | apply pw_below_drewN | apply below_drew1 | refine below_set ?_ GE351.out) | exact HB.out)) hb); clear BK351; clear HB; have BK351 := n0_; have HB := n1_; clear n0_ n1_; (try clear hb); (try clear hb2); (try clear hk); (try clear hi); have hcz39_0 : w38.cell? ⟨gb351, 0, none⟩ = some (.int .i64 a0_0) := (blk_cell BK351.out 0).trans rfl; have hcz39_1 : w38.cell? ⟨gb351, 1, none⟩ = some (.int .i64 a0_1) := (blk_cell BK351.out 1).trans rfl; have hcz39_2 : w38.cell? ⟨gb351, 2, none⟩ = some (.int .i64 a0_2) := (blk_cell BK351.out 2).trans rfl; have hcz39_3 : w38.cell? ⟨gb351, 3, none⟩ = some (.int .i64 a0_3) := (blk_cell BK351.out 3).trans rfl; have hfz39_0 := blk_frozen BK351.out 0; have hfz39_1 := blk_frozen BK351.out 1; have hfz39_2 := blk_frozen BK351.out 2; have hfz39_3 := blk_frozen BK351.out 3))
                      go_meet
                      case rel => exact ⟨_, (true), (by first | rfl | (simp; done) | (simp [*]; done)), H', ⟨by first | omega | exact Nat.le_refl _⟩, ⟨by (with_reducible repeat (first | refine blk_drewN ?_ _ | refine blk_drew ?_ | refine blk_alloc ?_ _)); exact BK351.out⟩, ⟨by repeat (first | (with_reducible first | exact HB.out | apply below_alloc | apply pw_below_drewN | apply below_drew1 | refine below_set ?_ GE351.out) | exact HB.out)⟩⟩
                    · rw [if_neg c36] at H
                      have c36b0 : decide (a3 < 1) = false := decide_eq_false c36
                      clear c36
                      have H' := Aside0.mk H
                      clear H
                      have hcz40_0 : w9.cell? ⟨gb351, 0, none⟩ = some (.int .i64 a0_0) := (blk_cell BK351.out 0).trans rfl
                      have hcz40_1 : w9.cell? ⟨gb351, 1, none⟩ = some (.int .i64 a0_1) := (blk_cell BK351.out 1).trans rfl
                      have hcz40_2 : w9.cell? ⟨gb351, 2, none⟩ = some (.int .i64 a0_2) := (blk_cell BK351.out 2).trans rfl
                      have hcz40_3 : w9.cell? ⟨gb351, 3, none⟩ = some (.int .i64 a0_3) := (blk_cell BK351.out 3).trans rfl
                      have hfz40_0 := blk_frozen BK351.out 0
                      have hfz40_1 := blk_frozen BK351.out 1
                      have hfz40_2 := blk_frozen BK351.out 2
                      have hfz40_3 := blk_frozen BK351.out 3
                      go_wp2_with (first | ((with_reducible refine gate_callee (f := 7) rfl ?_); refine goesL_ (some 16) rfl rfl Try.func7 (by kernel_rfl) rfl #[.agg #[.int .i64 a0_0, .int .i64 a0_1, .int .i64 a0_2, .int .i64 a0_3]] rfl (by (try simp only [List.map_toArray, List.map_cons, List.map_nil]); first | done | rfl | (simp only [List.length_drop, List.length_take]; rfl)) ?_; (with_reducible refine (valancelaw04_small.calls a0_0 a0_1 a0_2 a0_3 true _ A10.out).mono ?_); rintro e w41 ⟨rfl, hb⟩; refine ⟨_, rfl, ?_⟩; have n0_ := Aside0.mk (blk_below (g := gb351) (o := .cells #[.int .i64 a0_0, .int .i64 a0_1, .int .i64 a0_2, .int .i64 a0_3] 23 (0, 0)) (by (with_reducible repeat (first | refine blk_drewN ?_ _ | refine blk_drew ?_ | refine blk_alloc ?_ _)); exact BK351.out) hb); have n1_ := Aside0.mk (below_step (by repeat (first | (with_reducible first | exact HB.out | apply below_alloc | apply pw_below_drewN | apply below_drew1 | refine below_set ?_ GE351.out) | exact HB.out)) hb); clear BK351; clear HB; have BK351 := n0_; have HB := n1_; clear n0_ n1_; (try clear hb); (try clear hb2); (try clear hk); (try clear hi); have hcz42_0 : w41.cell? ⟨gb351, 0, none⟩ = some (.int .i64 a0_0) := (blk_cell BK351.out 0).trans rfl; have hcz42_1 : w41.cell? ⟨gb351, 1, none⟩ = some (.int .i64 a0_1) := (blk_cell BK351.out 1).trans rfl; have hcz42_2 : w41.cell? ⟨gb351, 2, none⟩ = some (.int .i64 a0_2) := (blk_cell BK351.out 2).trans rfl; have hcz42_3 : w41.cell? ⟨gb351, 3, none⟩ = some (.int .i64 a0_3) := (blk_cell BK351.out 3).trans rfl; have hfz42_0 := blk_frozen BK351.out 0; have hfz42_1 := blk_frozen BK351.out 1; have hfz42_2 := blk_frozen BK351.out 2; have hfz42_3 := blk_frozen BK351.out 3))
                      go_meet
                      case rel => exact ⟨_, (decide (a3 > 1073741824)), (by first | rfl | (simp; done) | (simp [*]; done)), H', ⟨by first | omega | exact Nat.le_refl _⟩, ⟨by (with_reducible repeat (first | refine blk_drewN ?_ _ | refine blk_drew ?_ | refine blk_alloc ?_ _)); exact BK351.out⟩, ⟨by repeat (first | (with_reducible first | exact HB.out | apply below_alloc | apply pw_below_drewN | apply below_drew1 | refine below_set ?_ GE351.out) | exact HB.out)⟩⟩
      · replace c11 := Bool.eq_false_iff.mpr c11
        subst c11
        have H1 : (valancelaw04_RectFar.j0 k a1 a2 a3 true true a0_0 a0_1 a0_2 a0_3) = some r := by rw [if_neg (show ¬ (false = true) by decide)] at H; exact H
        clear H
        have H := H1
        clear H1
        have H' := Aside0.mk H
        clear H
        have hcz43_0 : w9.cell? ⟨gb351, 0, none⟩ = some (.int .i64 a0_0) := (blk_cell BK351.out 0).trans rfl
        have hcz43_1 : w9.cell? ⟨gb351, 1, none⟩ = some (.int .i64 a0_1) := (blk_cell BK351.out 1).trans rfl
        have hcz43_2 : w9.cell? ⟨gb351, 2, none⟩ = some (.int .i64 a0_2) := (blk_cell BK351.out 2).trans rfl
        have hcz43_3 : w9.cell? ⟨gb351, 3, none⟩ = some (.int .i64 a0_3) := (blk_cell BK351.out 3).trans rfl
        have hfz43_0 := blk_frozen BK351.out 0
        have hfz43_1 := blk_frozen BK351.out 1
        have hfz43_2 := blk_frozen BK351.out 2
        have hfz43_3 := blk_frozen BK351.out 3
        go_wp2_with (first | ((with_reducible refine gate_callee (f := 7) rfl ?_); refine goesL_ (some 16) rfl rfl Try.func7 (by kernel_rfl) rfl #[.agg #[.int .i64 a0_0, .int .i64 a0_1, .int .i64 a0_2, .int .i64 a0_3]] rfl (by (try simp only [List.map_toArray, List.map_cons, List.map_nil]); first | done | rfl | (simp only [List.length_drop, List.length_take]; rfl)) ?_; (with_reducible refine (valancelaw04_small.calls a0_0 a0_1 a0_2 a0_3 false _ A10.out).mono ?_); rintro e w44 ⟨rfl, hb⟩; refine ⟨_, rfl, ?_⟩; have n0_ := Aside0.mk (blk_below (g := gb351) (o := .cells #[.int .i64 a0_0, .int .i64 a0_1, .int .i64 a0_2, .int .i64 a0_3] 23 (0, 0)) (by (with_reducible repeat (first | refine blk_drewN ?_ _ | refine blk_drew ?_ | refine blk_alloc ?_ _)); exact BK351.out) hb); have n1_ := Aside0.mk (below_step (by repeat (first | (with_reducible first | exact HB.out | apply below_alloc | apply pw_below_drewN | apply below_drew1 | refine below_set ?_ GE351.out) | exact HB.out)) hb); clear BK351; clear HB; have BK351 := n0_; have HB := n1_; clear n0_ n1_; (try clear hb); (try clear hb2); (try clear hk); (try clear hi)))
        go_meet
        case rel => exact ⟨_, (true), (by first | rfl | (simp; done) | (simp [*]; done)), H', ⟨by first | omega | exact Nat.le_refl _⟩, ⟨by (with_reducible repeat (first | refine blk_drewN ?_ _ | refine blk_drew ?_ | refine blk_alloc ?_ _)); exact BK351.out⟩, ⟨by repeat (first | (with_reducible first | exact HB.out | apply below_alloc | apply pw_below_drewN | apply below_drew1 | refine below_set ?_ GE351.out) | exact HB.out)⟩⟩
    case rest =>
      clear HC7
      try clear c1
      try clear c2
      try clear p2
      try clear c3
      try clear c5
      try clear c6
      try clear c7
      try clear c11
      try clear c12
      try clear c12b0
      try clear c12b1
      try clear c16
      try clear c16b0
      try clear c16b1
      try clear c20
      try clear c20b0
      try clear c24
      try clear c24b0
      try clear c28
      try clear c28b0
      try clear c32
      try clear c32b0
      try clear c36
      try clear c36b0
      try clear hcz13_0
      try clear hcz13_1
      try clear hcz13_2
      try clear hcz13_3
      try clear hcz15_0
      try clear hcz15_1
      try clear hcz15_2
      try clear hcz15_3
      try clear hcz17_0
      try clear hcz17_1
      try clear hcz17_2
      try clear hcz17_3
      try clear hcz19_0
      try clear hcz19_1
      try clear hcz19_2
      try clear hcz19_3
      try clear hcz21_0
      try clear hcz21_1
      try clear hcz21_2
      try clear hcz21_3
      try clear hcz23_0
      try clear hcz23_1
      try clear hcz23_2
      try clear hcz23_3
      try clear hcz25_0
      try clear hcz25_1
      try clear hcz25_2
      try clear hcz25_3
      try clear hcz27_0
      try clear hcz27_1
      try clear hcz27_2
      try clear hcz27_3
      try clear hcz29_0
      try clear hcz29_1
      try clear hcz29_2
      try clear hcz29_3
      try clear hcz31_0
      try clear hcz31_1
      try clear hcz31_2
      try clear hcz31_3
      try clear hcz33_0
      try clear hcz33_1
      try clear hcz33_2
      try clear hcz33_3
      try clear hcz35_0
      try clear hcz35_1
      try clear hcz35_2
      try clear hcz35_3
      try clear hcz37_0
      try clear hcz37_1
      try clear hcz37_2
      try clear hcz37_3
      try clear hcz39_0
      try clear hcz39_1
      try clear hcz39_2
      try clear hcz39_3
      try clear hcz40_0
      try clear hcz40_1
      try clear hcz40_2
      try clear hcz40_3
      try clear hcz42_0
      try clear hcz42_1
      try clear hcz42_2
      try clear hcz42_3
      try clear hcz43_0
      try clear hcz43_1
      try clear hcz43_2
      try clear hcz43_3
      try clear hfz13_0
      try clear hfz13_1
      try clear hfz13_2
      try clear hfz13_3
      try clear hfz15_0
      try clear hfz15_1
      try clear hfz15_2
      try clear hfz15_3
      try clear hfz17_0
      try clear hfz17_1
      try clear hfz17_2
      try clear hfz17_3
      try clear hfz19_0
      try clear hfz19_1
      try clear hfz19_2
      try clear hfz19_3
      try clear hfz21_0
      try clear hfz21_1
      try clear hfz21_2
      try clear hfz21_3
      try clear hfz23_0
      try clear hfz23_1
      try clear hfz23_2
      try clear hfz23_3
      try clear hfz25_0
      try clear hfz25_1
      try clear hfz25_2
      try clear hfz25_3
      try clear hfz27_0
      try clear hfz27_1
      try clear hfz27_2
      try clear hfz27_3
      try clear hfz29_0
      try clear hfz29_1
      try clear hfz29_2
      try clear hfz29_3
      try clear hfz31_0
      try clear hfz31_1
      try clear hfz31_2
      try clear hfz31_3
      try clear hfz33_0
      try clear hfz33_1
      try clear hfz33_2
      try clear hfz33_3
      try clear hfz35_0
      try clear hfz35_1
      try clear hfz35_2
      try clear hfz35_3
      try clear hfz37_0
      try clear hfz37_1
      try clear hfz37_2
      try clear hfz37_3
      try clear hfz39_0
      try clear hfz39_1
      try clear hfz39_2
      try clear hfz39_3
      try clear hfz40_0
      try clear hfz40_1
      try clear hfz40_2
      try clear hfz40_3
      try clear hfz42_0
      try clear hfz42_1
      try clear hfz42_2
      try clear hfz42_3
      try clear hfz43_0
      try clear hfz43_1
      try clear hfz43_2
      try clear hfz43_3
      obtain ⟨kq, x51_6, rfl, HA, HJ6, BK351, HB⟩ := hcut
      cases kq with
      | zero => exact absurd HA.out (by simp [valancelaw04_RectFar.j0])
      | succ kj6 =>
        have H := HA.out
        clear HA
        simp only [valancelaw04_RectFar.j0] at H
        by_cases c45 : x51_6 = true
        · subst c45
          have H1 : (some true) = some r := by rw [if_pos rfl] at H; exact H
          clear H
          have H := H1
          clear H1
          obtain rfl := Option.some.inj H
          go_wp2
          go_ret
          exact ⟨by first | rfl | (simp [errW_none, errW_some] <;> rfl) | (simp [*, errW_none, errW_some] <;> rfl), by repeat (first | (with_reducible first | exact HB.out | apply below_alloc | apply pw_below_drewN | apply below_drew1 | refine below_set ?_ GE351.out) | exact HB.out)⟩
        · replace c45 := Bool.eq_false_iff.mpr c45
          subst c45
          have H1 : ((rect_Of.f (wrap64 ((wrap64 (a0_0 + a0_2)) + a1)) a0_1 a2 a3).bind fun bt354 => ((rect_Join.f a0_0 a0_1 a0_2 a0_3 bt354.1 bt354.2.1 bt354.2.2.1 bt354.2.2.2).bind fun bt359 => (if true = true then ((rect_Meet.f a0_0 a0_1 a0_2 a0_3 bt354.1 bt354.2.1 bt354.2.2.1 bt354.2.2.2).bind fun bt364 => (if (bt364.1 == 0 && (bt364.2.1 == 0 && (bt364.2.2.1 == 0 && (bt364.2.2.2 == 0)))) = true then ((rect_Of.f a0_0 a0_1 (wrap64 ((wrap64 (a0_2 + a1)) + a2)) (mx a0_3 a3)).bind fun bt368 => (if (bt359.1 == bt368.1 && (bt359.2.1 == bt368.2.1 && (bt359.2.2.1 == bt368.2.2.1 && (bt359.2.2.2 == bt368.2.2.2)))) = true then ((rect_Meet.f bt359.1 bt359.2.1 bt359.2.2.1 bt359.2.2.2 a0_0 a0_1 a0_2 a0_3).bind fun bt372 => (if (bt372.1 == a0_0 && (bt372.2.1 == a0_1 && (bt372.2.2.1 == a0_2 && (bt372.2.2.2 == a0_3)))) = true then ((rect_Meet.f bt359.1 bt359.2.1 bt359.2.2.1 bt359.2.2.2 bt354.1 bt354.2.1 bt354.2.2.1 bt354.2.2.2).bind fun bt376 => (some (bt376.1 == bt354.1 && (bt376.2.1 == bt354.2.1 && (bt376.2.2.1 == bt354.2.2.1 && (bt376.2.2.2 == bt354.2.2.2)))))) else (none))) else (none))) else (none))) else (none)))) = some r := by rw [if_neg (show ¬ (false = true) by decide)] at H; exact H
          clear H
          have H := H1
          clear H1
          replace H := Option.bind_eq_some_iff.mp H
          obtain ⟨⟨t354, t355, t356, t357⟩, A460, H⟩ := H
          replace H : ((rect_Join.f a0_0 a0_1 a0_2 a0_3 t354 t355 t356 t357).bind fun bt359 => (if true = true then ((rect_Meet.f a0_0 a0_1 a0_2 a0_3 t354 t355 t356 t357).bind fun bt364 => (if (bt364.1 == 0 && (bt364.2.1 == 0 && (bt364.2.2.1 == 0 && (bt364.2.2.2 == 0)))) = true then ((rect_Of.f a0_0 a0_1 (wrap64 ((wrap64 (a0_2 + a1)) + a2)) (mx a0_3 a3)).bind fun bt368 => (if (bt359.1 == bt368.1 && (bt359.2.1 == bt368.2.1 && (bt359.2.2.1 == bt368.2.2.1 && (bt359.2.2.2 == bt368.2.2.2)))) = true then ((rect_Meet.f bt359.1 bt359.2.1 bt359.2.2.1 bt359.2.2.2 a0_0 a0_1 a0_2 a0_3).bind fun bt372 => (if (bt372.1 == a0_0 && (bt372.2.1 == a0_1 && (bt372.2.2.1 == a0_2 && (bt372.2.2.2 == a0_3)))) = true then ((rect_Meet.f bt359.1 bt359.2.1 bt359.2.2.1 bt359.2.2.2 t354 t355 t356 t357).bind fun bt376 => (some (bt376.1 == t354 && (bt376.2.1 == t355 && (bt376.2.2.1 == t356 && (bt376.2.2.2 == t357)))))) else (none))) else (none))) else (none))) else (none))) = some r := H
          have A46 := Aside0.mk A460
          clear A460
          replace H := Option.bind_eq_some_iff.mp H
          obtain ⟨⟨t359, t360, t361, t362⟩, A470, H⟩ := H
          replace H : (if true = true then ((rect_Meet.f a0_0 a0_1 a0_2 a0_3 t354 t355 t356 t357).bind fun bt364 => (if (bt364.1 == 0 && (bt364.2.1 == 0 && (bt364.2.2.1 == 0 && (bt364.2.2.2 == 0)))) = true then ((rect_Of.f a0_0 a0_1 (wrap64 ((wrap64 (a0_2 + a1)) + a2)) (mx a0_3 a3)).bind fun bt368 => (if (t359 == bt368.1 && (t360 == bt368.2.1 && (t361 == bt368.2.2.1 && (t362 == bt368.2.2.2)))) = true then ((rect_Meet.f t359 t360 t361 t362 a0_0 a0_1 a0_2 a0_3).bind fun bt372 => (if (bt372.1 == a0_0 && (bt372.2.1 == a0_1 && (bt372.2.2.1 == a0_2 && (bt372.2.2.2 == a0_3)))) = true then ((rect_Meet.f t359 t360 t361 t362 t354 t355 t356 t357).bind fun bt376 => (some (bt376.1 == t354 && (bt376.2.1 == t355 && (bt376.2.2.1 == t356 && (bt376.2.2.2 == t357)))))) else (none))) else (none))) else (none))) else (none)) = some r := H
          have A47 := Aside0.mk A470
          clear A470
          by_cases c48 : true = true
          · clear c48
            have H1 : ((rect_Meet.f a0_0 a0_1 a0_2 a0_3 t354 t355 t356 t357).bind fun bt364 => (if (bt364.1 == 0 && (bt364.2.1 == 0 && (bt364.2.2.1 == 0 && (bt364.2.2.2 == 0)))) = true then ((rect_Of.f a0_0 a0_1 (wrap64 ((wrap64 (a0_2 + a1)) + a2)) (mx a0_3 a3)).bind fun bt368 => (if (t359 == bt368.1 && (t360 == bt368.2.1 && (t361 == bt368.2.2.1 && (t362 == bt368.2.2.2)))) = true then ((rect_Meet.f t359 t360 t361 t362 a0_0 a0_1 a0_2 a0_3).bind fun bt372 => (if (bt372.1 == a0_0 && (bt372.2.1 == a0_1 && (bt372.2.2.1 == a0_2 && (bt372.2.2.2 == a0_3)))) = true then ((rect_Meet.f t359 t360 t361 t362 t354 t355 t356 t357).bind fun bt376 => (some (bt376.1 == t354 && (bt376.2.1 == t355 && (bt376.2.2.1 == t356 && (bt376.2.2.2 == t357)))))) else (none))) else (none))) else (none))) = some r := by first | (rw [if_pos rfl] at H; exact H) | (rw [if_pos True.intro] at H; exact H)
            clear H
            have H := H1
            clear H1
            replace H := Option.bind_eq_some_iff.mp H
            obtain ⟨⟨t364, t365, t366, t367⟩, A490, H⟩ := H
            replace H : (if (t364 == 0 && (t365 == 0 && (t366 == 0 && (t367 == 0)))) = true then ((rect_Of.f a0_0 a0_1 (wrap64 ((wrap64 (a0_2 + a1)) + a2)) (mx a0_3 a3)).bind fun bt368 => (if (t359 == bt368.1 && (t360 == bt368.2.1 && (t361 == bt368.2.2.1 && (t362 == bt368.2.2.2)))) = true then ((rect_Meet.f t359 t360 t361 t362 a0_0 a0_1 a0_2 a0_3).bind fun bt372 => (if (bt372.1 == a0_0 && (bt372.2.1 == a0_1 && (bt372.2.2.1 == a0_2 && (bt372.2.2.2 == a0_3)))) = true then ((rect_Meet.f t359 t360 t361 t362 t354 t355 t356 t357).bind fun bt376 => (some (bt376.1 == t354 && (bt376.2.1 == t355 && (bt376.2.2.1 == t356 && (bt376.2.2.2 == t357)))))) else (none))) else (none))) else (none)) = some r := H
            have A49 := Aside0.mk A490
            clear A490
            by_cases c50 : (t364 == 0 && (t365 == 0 && (t366 == 0 && (t367 == 0)))) = true
            · rw [if_pos c50] at H
              have c50b0 : (t364 == 0 && (t365 == 0 && (t366 == 0 && (t367 == 0)))) = true := c50
              (try (have c50b1 : decide (t364 = 0 && (t365 == 0 && (t366 == 0 && (t367 == 0)))) = true := by simpa using c50))
              (try (have c50b2 : (t364 == 0 && (t365 == 0 && (t366 == 0 && (t367 == 0)))) = true := by simpa using c50))
              clear c50
              obtain ⟨ji51, hji51⟩ : ∃ j_ : Int, (mx a0_3 a3) = j_ := ⟨_, rfl⟩
              replace H : ((rect_Of.f a0_0 a0_1 (wrap64 ((wrap64 (a0_2 + a1)) + a2)) (ji51)).bind fun bt368 => (if (t359 == bt368.1 && (t360 == bt368.2.1 && (t361 == bt368.2.2.1 && (t362 == bt368.2.2.2)))) = true then ((rect_Meet.f t359 t360 t361 t362 a0_0 a0_1 a0_2 a0_3).bind fun bt372 => (if (bt372.1 == a0_0 && (bt372.2.1 == a0_1 && (bt372.2.2.1 == a0_2 && (bt372.2.2.2 == a0_3)))) = true then ((rect_Meet.f t359 t360 t361 t362 t354 t355 t356 t357).bind fun bt376 => (some (bt376.1 == t354 && (bt376.2.1 == t355 && (bt376.2.2.1 == t356 && (bt376.2.2.2 == t357)))))) else (none))) else (none))) = some r := by first | (rw [hji51] at H; exact H) | (simp only [hji51] at H ⊢; exact H)
              (try rw [hji51] at A46)
              (try rw [hji51] at A47)
              (try rw [hji51] at A49)
              have hji51_ : (if a0_3 < a3 then a3 else a0_3) = ji51 := hji51
              replace H := Option.bind_eq_some_iff.mp H
              obtain ⟨⟨t368, t369, t370, t371⟩, A520, H⟩ := H
              replace H : (if (t359 == t368 && (t360 == t369 && (t361 == t370 && (t362 == t371)))) = true then ((rect_Meet.f t359 t360 t361 t362 a0_0 a0_1 a0_2 a0_3).bind fun bt372 => (if (bt372.1 == a0_0 && (bt372.2.1 == a0_1 && (bt372.2.2.1 == a0_2 && (bt372.2.2.2 == a0_3)))) = true then ((rect_Meet.f t359 t360 t361 t362 t354 t355 t356 t357).bind fun bt376 => (some (bt376.1 == t354 && (bt376.2.1 == t355 && (bt376.2.2.1 == t356 && (bt376.2.2.2 == t357)))))) else (none))) else (none)) = some r := H
              have A52 := Aside0.mk A520
              clear A520
              by_cases c53 : (t359 == t368 && (t360 == t369 && (t361 == t370 && (t362 == t371)))) = true
              · rw [if_pos c53] at H
                have c53b0 : (t359 == t368 && (t360 == t369 && (t361 == t370 && (t362 == t371)))) = true := c53
                (try (have c53b1 : decide (t359 = t368 && (t360 == t369 && (t361 == t370 && (t362 == t371)))) = true := by simpa using c53))
                (try (have c53b2 : (t359 == t368 && (t360 == t369 && (t361 == t370 && (t362 == t371)))) = true := by simpa using c53))
                clear c53
                replace H := Option.bind_eq_some_iff.mp H
                obtain ⟨⟨t372, t373, t374, t375⟩, A540, H⟩ := H
                replace H : (if (t372 == a0_0 && (t373 == a0_1 && (t374 == a0_2 && (t375 == a0_3)))) = true then ((rect_Meet.f t359 t360 t361 t362 t354 t355 t356 t357).bind fun bt376 => (some (bt376.1 == t354 && (bt376.2.1 == t355 && (bt376.2.2.1 == t356 && (bt376.2.2.2 == t357)))))) else (none)) = some r := H
                have A54 := Aside0.mk A540
                clear A540
                by_cases c55 : (t372 == a0_0 && (t373 == a0_1 && (t374 == a0_2 && (t375 == a0_3)))) = true
                · rw [if_pos c55] at H
                  have c55b0 : (t372 == a0_0 && (t373 == a0_1 && (t374 == a0_2 && (t375 == a0_3)))) = true := c55
                  (try (have c55b1 : decide (t372 = a0_0 && (t373 == a0_1 && (t374 == a0_2 && (t375 == a0_3)))) = true := by simpa using c55))
                  (try (have c55b2 : (t372 == a0_0 && (t373 == a0_1 && (t374 == a0_2 && (t375 == a0_3)))) = true := by simpa using c55))
                  clear c55
                  replace H := Option.bind_eq_some_iff.mp H
                  obtain ⟨⟨t376, t377, t378, t379⟩, A560, H⟩ := H
                  replace H : (some (t376 == t354 && (t377 == t355 && (t378 == t356 && (t379 == t357))))) = some r := H
                  have A56 := Aside0.mk A560
                  clear A560
                  obtain rfl := Option.some.inj H
                  have hcz57_0 : wc.cell? ⟨gb351, 0, none⟩ = some (.int .i64 a0_0) := (blk_cell BK351.out 0).trans rfl
                  have hcz57_1 : wc.cell? ⟨gb351, 1, none⟩ = some (.int .i64 a0_1) := (blk_cell BK351.out 1).trans rfl
                  have hcz57_2 : wc.cell? ⟨gb351, 2, none⟩ = some (.int .i64 a0_2) := (blk_cell BK351.out 2).trans rfl
                  have hcz57_3 : wc.cell? ⟨gb351, 3, none⟩ = some (.int .i64 a0_3) := (blk_cell BK351.out 3).trans rfl
                  have hfz57_0 := blk_frozen BK351.out 0
                  have hfz57_1 := blk_frozen BK351.out 1
                  have hfz57_2 := blk_frozen BK351.out 2
                  have hfz57_3 := blk_frozen BK351.out 3
                  try go_wp2_with (first | ((with_reducible refine gate_callee (f := 11) rfl ?_); refine goesL_ (some 64) rfl rfl Try.func11 (by kernel_rfl) rfl #[.int .i64 (wrap64 ((wrap64 (a0_0 + a0_2)) + a1)), .int .i64 a0_1, .int .i64 a2, .int .i64 a3] rfl (by (try simp only [List.map_toArray, List.map_cons, List.map_nil]); first | done | rfl | (simp only [List.length_drop, List.length_take]; rfl)) ?_; (with_reducible refine (rect_Of.calls (wrap64 ((wrap64 (a0_0 + a0_2)) + a1)) a0_1 a2 a3 t354 t355 t356 t357 _ A46.out).mono ?_); rintro e w58 ⟨rfl, hb⟩; refine ⟨_, rfl, ?_⟩; have n0_ := Aside0.mk (blk_below (g := gb351) (o := .cells #[.int .i64 a0_0, .int .i64 a0_1, .int .i64 a0_2, .int .i64 a0_3] 23 (0, 0)) (by (with_reducible repeat (first | refine blk_drewN ?_ _ | refine blk_drew ?_ | refine blk_alloc ?_ _)); exact BK351.out) hb); have n1_ := Aside0.mk (below_step (by repeat (first | (with_reducible first | exact HB.out | apply below_alloc | apply pw_below_drewN | apply below_drew1 | refine below_set ?_ GE351.out) | exact HB.out)) hb); clear BK351; clear HB; have BK351 := n0_; have HB := n1_; clear n0_ n1_; (try clear hb); (try clear hb2); (try clear hk); (try clear hi)) | ((with_reducible refine gate_dst (N := 10) rfl ?_); (try (refine gate_guard (by rfl) ?_; dsimp only)); refine box_event ?hg (N := 10) ?hd (cs := #[.int .i64 0, .int .i64 0, .int .i64 0, .int .i64 0]) (t := 23) ?hr ?_; (case hd => rfl); (case hg => rfl); (case hr => first | (go_simp; done) | (go_simp; rfl)); intro gb358 hg w59 hbox hb; have n0_ := Aside0.mk (blk_below (g := gb351) (o := .cells #[.int .i64 a0_0, .int .i64 a0_1, .int .i64 a0_2, .int .i64 a0_3] 23 (0, 0)) (by (with_reducible repeat (first | refine blk_drewN ?_ _ | refine blk_drew ?_ | refine blk_alloc ?_ _)); exact BK351.out) hb); have n1_ := Aside0.mk (below_step (by repeat (first | (with_reducible first | exact HB.out | apply below_alloc | apply pw_below_drewN | apply below_drew1 | refine below_set ?_ GE351.out) | exact HB.out)) hb); have n2_ := Aside0.mk (hbox); have n3_ := Aside0.mk ((by rw [hg]; exact (below_size (by repeat (first | (with_reducible first | exact HB.out | apply below_alloc | apply pw_below_drewN | apply below_drew1 | refine below_set ?_ GE351.out) | exact HB.out))) : w.heap.size ≤ gb358)); have n4_ := Aside0.mk ((by rw [hg]; exact (below_size (by repeat (first | (with_reducible first | exact HB.out | apply below_alloc | apply pw_below_drewN | apply below_drew1 | refine below_set ?_ GE351.out) | exact HB.out))) : w.heap.size ≤ gb358)); have n5_ := Aside0.mk ((by rw [hg]; exact Nat.ne_of_lt (blk_lt (g := gb351) (o := .cells #[.int .i64 a0_0, .int .i64 a0_1, .int .i64 a0_2, .int .i64 a0_3] 23 (0, 0)) (by (with_reducible repeat (first | refine blk_drewN ?_ _ | refine blk_drew ?_ | refine blk_alloc ?_ _)); exact BK351.out)) : gb351 ≠ gb358)); have n6_ := Aside0.mk ((by rw [hg]; exact Nat.ne_of_gt (blk_lt (g := gb351) (o := .cells #[.int .i64 a0_0, .int .i64 a0_1, .int .i64 a0_2, .int .i64 a0_3] 23 (0, 0)) (by (with_reducible repeat (first | refine blk_drewN ?_ _ | refine blk_drew ?_ | refine blk_alloc ?_ _)); exact BK351.out)) : gb358 ≠ gb351)); clear BK351; clear HB; have BK351 := n0_; have HB := n1_; have BK358 := n2_; have GW358 := n3_; have GE358 := n4_; have NB351_358 := n5_; have NB358_351 := n6_; clear n0_ n1_ n2_ n3_ n4_ n5_ n6_; clear hb hbox hg; have hnb60 := NB358_351.out; have hnc60 := NB351_358.out; have hcz61_0 : w59.cell? ⟨gb358, 0, none⟩ = some (.int .i64 0) := (blk_cell BK358.out 0).trans rfl; have hcz61_1 : w59.cell? ⟨gb358, 1, none⟩ = some (.int .i64 0) := (blk_cell BK358.out 1).trans rfl; have hcz61_2 : w59.cell? ⟨gb358, 2, none⟩ = some (.int .i64 0) := (blk_cell BK358.out 2).trans rfl; have hcz61_3 : w59.cell? ⟨gb358, 3, none⟩ = some (.int .i64 0) := (blk_cell BK358.out 3).trans rfl; have hfz61_0 := blk_frozen BK358.out 0; have hfz61_1 := blk_frozen BK358.out 1; have hfz61_2 := blk_frozen BK358.out 2; have hfz61_3 := blk_frozen BK358.out 3; have hcz62_0 : w59.cell? ⟨gb351, 0, none⟩ = some (.int .i64 a0_0) := (blk_cell BK351.out 0).trans rfl; have hcz62_1 : w59.cell? ⟨gb351, 1, none⟩ = some (.int .i64 a0_1) := (blk_cell BK351.out 1).trans rfl; have hcz62_2 : w59.cell? ⟨gb351, 2, none⟩ = some (.int .i64 a0_2) := (blk_cell BK351.out 2).trans rfl; have hcz62_3 : w59.cell? ⟨gb351, 3, none⟩ = some (.int .i64 a0_3) := (blk_cell BK351.out 3).trans rfl; have hfz62_0 := blk_frozen BK351.out 0; have hfz62_1 := blk_frozen BK351.out 1; have hfz62_2 := blk_frozen BK351.out 2; have hfz62_3 := blk_frozen BK351.out 3) | ((with_reducible refine gate_callee (f := 17) rfl ?_); refine goesL_ (some 67) rfl rfl Try.func17 (by kernel_rfl) rfl #[.agg #[.int .i64 a0_0, .int .i64 a0_1, .int .i64 a0_2, .int .i64 a0_3], .agg #[.int .i64 t354, .int .i64 t355, .int .i64 t356, .int .i64 t357]] rfl (by (try simp only [List.map_toArray, List.map_cons, List.map_nil]); first | done | rfl | (simp only [List.length_drop, List.length_take]; rfl)) ?_; (with_reducible refine (rect_Join.calls a0_0 a0_1 a0_2 a0_3 t354 t355 t356 t357 t359 t360 t361 t362 _ A47.out).mono ?_); rintro e w63 ⟨rfl, hb⟩; refine ⟨_, rfl, ?_⟩; have n0_ := Aside0.mk (blk_below (g := gb351) (o := .cells #[.int .i64 a0_0, .int .i64 a0_1, .int .i64 a0_2, .int .i64 a0_3] 23 (0, 0)) (by (with_reducible repeat (first | refine blk_drewN ?_ _ | refine blk_drew ?_ | refine blk_alloc ?_ _)); refine blk_far ?_ NB351_358.out _; (with_reducible repeat (first | refine blk_drewN ?_ _ | refine blk_drew ?_ | refine blk_alloc ?_ _)); refine blk_far ?_ NB351_358.out _; (with_reducible repeat (first | refine blk_drewN ?_ _ | refine blk_drew ?_ | refine blk_alloc ?_ _)); refine blk_far ?_ NB351_358.out _; (with_reducible repeat (first | refine blk_drewN ?_ _ | refine blk_drew ?_ | refine blk_alloc ?_ _)); refine blk_far ?_ NB351_358.out _; (with_reducible repeat (first | refine blk_drewN ?_ _ | refine blk_drew ?_ | refine blk_alloc ?_ _)); exact BK351.out) hb); have n1_ := Aside0.mk (blk_below (g := gb358) (o := .cells #[.int .i64 t354, .int .i64 t355, .int .i64 t356, .int .i64 t357] 23 (0, 0)) (by (with_reducible repeat (first | refine blk_drewN ?_ _ | refine blk_drew ?_ | refine blk_alloc ?_ _)); refine blk_put (cs := #[.int .i64 t354, .int .i64 t355, .int .i64 t356, .int .i64 0]) ?_ 3 _ rfl; (with_reducible repeat (first | refine blk_drewN ?_ _ | refine blk_drew ?_ | refine blk_alloc ?_ _)); refine blk_put (cs := #[.int .i64 t354, .int .i64 t355, .int .i64 0, .int .i64 0]) ?_ 2 _ rfl; (with_reducible repeat (first | refine blk_drewN ?_ _ | refine blk_drew ?_ | refine blk_alloc ?_ _)); refine blk_put (cs := #[.int .i64 t354, .int .i64 0, .int .i64 0, .int .i64 0]) ?_ 1 _ rfl; (with_reducible repeat (first | refine blk_drewN ?_ _ | refine blk_drew ?_ | refine blk_alloc ?_ _)); refine blk_put (cs := #[.int .i64 0, .int .i64 0, .int .i64 0, .int .i64 0]) ?_ 0 _ rfl; (with_reducible repeat (first | refine blk_drewN ?_ _ | refine blk_drew ?_ | refine blk_alloc ?_ _)); exact BK358.out) hb); have n2_ := Aside0.mk (below_step (by repeat (first | (with_reducible first | exact HB.out | apply below_alloc | apply pw_below_drewN | apply below_drew1 | refine below_set ?_ GE351.out | refine below_set ?_ GE358.out) | exact HB.out)) hb); clear BK351; clear BK358; clear HB; have BK351 := n0_; have BK358 := n1_; have HB := n2_; clear n0_ n1_ n2_; (try clear hb); (try clear hb2); (try clear hk); (try clear hi)) | ((with_reducible refine gate_dst (N := 11) rfl ?_); (try (refine gate_guard (by rfl) ?_; dsimp only)); refine box_event ?hg (N := 11) ?hd (cs := #[.int .i64 0, .int .i64 0, .int .i64 0, .int .i64 0]) (t := 23) ?hr ?_; (case hd => rfl); (case hg => rfl); (case hr => first | (go_simp; done) | (go_simp; rfl)); intro gb363 hg w64 hbox hb; have n0_ := Aside0.mk (blk_below (g := gb351) (o := .cells #[.int .i64 a0_0, .int .i64 a0_1, .int .i64 a0_2, .int .i64 a0_3] 23 (0, 0)) (by (with_reducible repeat (first | refine blk_drewN ?_ _ | refine blk_drew ?_ | refine blk_alloc ?_ _)); exact BK351.out) hb); have n1_ := Aside0.mk (blk_below (g := gb358) (o := .cells #[.int .i64 t354, .int .i64 t355, .int .i64 t356, .int .i64 t357] 23 (0, 0)) (by (with_reducible repeat (first | refine blk_drewN ?_ _ | refine blk_drew ?_ | refine blk_alloc ?_ _)); exact BK358.out) hb); have n2_ := Aside0.mk (below_step (by repeat (first | (with_reducible first | exact HB.out | apply below_alloc | apply pw_below_drewN | apply below_drew1 | refine below_set ?_ GE351.out | refine below_set ?_ GE358.out) | exact HB.out)) hb); have n3_ := Aside0.mk (hbox); have n4_ := Aside0.mk ((by rw [hg]; exact (below_size (by repeat (first | (with_reducible first | exact HB.out | apply below_alloc | apply pw_below_drewN | apply below_drew1 | refine below_set ?_ GE351.out | refine below_set ?_ GE358.out) | exact HB.out))) : w.heap.size ≤ gb363)); have n5_ := Aside0.mk ((by rw [hg]; exact (below_size (by repeat (first | (with_reducible first | exact HB.out | apply below_alloc | apply pw_below_drewN | apply below_drew1 | refine below_set ?_ GE351.out | refine below_set ?_ GE358.out) | exact HB.out))) : w.heap.size ≤ gb363)); have n6_ := Aside0.mk ((by rw [hg]; exact Nat.ne_of_lt (blk_lt (g := gb351) (o := .cells #[.int .i64 a0_0, .int .i64 a0_1, .int .i64 a0_2, .int .i64 a0_3] 23 (0, 0)) (by (with_reducible repeat (first | refine blk_drewN ?_ _ | refine blk_drew ?_ | refine blk_alloc ?_ _)); exact BK351.out)) : gb351 ≠ gb363)); have n7_ := Aside0.mk ((by rw [hg]; exact Nat.ne_of_gt (blk_lt (g := gb351) (o := .cells #[.int .i64 a0_0, .int .i64 a0_1, .int .i64 a0_2, .int .i64 a0_3] 23 (0, 0)) (by (with_reducible repeat (first | refine blk_drewN ?_ _ | refine blk_drew ?_ | refine blk_alloc ?_ _)); exact BK351.out)) : gb363 ≠ gb351)); have n8_ := Aside0.mk ((by rw [hg]; exact Nat.ne_of_lt (blk_lt (g := gb358) (o := .cells #[.int .i64 t354, .int .i64 t355, .int .i64 t356, .int .i64 t357] 23 (0, 0)) (by (with_reducible repeat (first | refine blk_drewN ?_ _ | refine blk_drew ?_ | refine blk_alloc ?_ _)); exact BK358.out)) : gb358 ≠ gb363)); have n9_ := Aside0.mk ((by rw [hg]; exact Nat.ne_of_gt (blk_lt (g := gb358) (o := .cells #[.int .i64 t354, .int .i64 t355, .int .i64 t356, .int .i64 t357] 23 (0, 0)) (by (with_reducible repeat (first | refine blk_drewN ?_ _ | refine blk_drew ?_ | refine blk_alloc ?_ _)); exact BK358.out)) : gb363 ≠ gb358)); clear BK351; clear BK358; clear HB; have BK351 := n0_; have BK358 := n1_; have HB := n2_; have BK363 := n3_; have GW363 := n4_; have GE363 := n5_; have NB351_363 := n6_; have NB363_351 := n7_; have NB358_363 := n8_; have NB363_358 := n9_; clear n0_ n1_ n2_ n3_ n4_ n5_ n6_ n7_ n8_ n9_; clear hb hbox hg; have hnb65 := NB363_351.out; have hnc65 := NB351_363.out; have hnb66 := NB363_358.out; have hnc66 := NB358_363.out; have hcz67_0 : w64.cell? ⟨gb363, 0, none⟩ = some (.int .i64 0) := (blk_cell BK363.out 0).trans rfl; have hcz67_1 : w64.cell? ⟨gb363, 1, none⟩ = some (.int .i64 0) := (blk_cell BK363.out 1).trans rfl; have hcz67_2 : w64.cell? ⟨gb363, 2, none⟩ = some (.int .i64 0) := (blk_cell BK363.out 2).trans rfl; have hcz67_3 : w64.cell? ⟨gb363, 3, none⟩ = some (.int .i64 0) := (blk_cell BK363.out 3).trans rfl; have hfz67_0 := blk_frozen BK363.out 0; have hfz67_1 := blk_frozen BK363.out 1; have hfz67_2 := blk_frozen BK363.out 2; have hfz67_3 := blk_frozen BK363.out 3))
                  have n0_ : Aside0 (((((w64.setCell ⟨gb363, 0, none⟩ (.int .i64 t359)).setCell ⟨gb363, 1, none⟩ (.int .i64 t360)).setCell ⟨gb363, 2, none⟩ (.int .i64 t361)).setCell ⟨gb363, 3, none⟩ (.int .i64 t362)).heap[gb351]? = some (.cells #[.int .i64 a0_0, .int .i64 a0_1, .int .i64 a0_2, .int .i64 a0_3] 23 (0, 0))) := ⟨by (with_reducible repeat (first | refine blk_drewN ?_ _ | refine blk_drew ?_ | refine blk_alloc ?_ _)); refine blk_far ?_ NB351_363.out _; (with_reducible repeat (first | refine blk_drewN ?_ _ | refine blk_drew ?_ | refine blk_alloc ?_ _)); refine blk_far ?_ NB351_363.out _; (with_reducible repeat (first | refine blk_drewN ?_ _ | refine blk_drew ?_ | refine blk_alloc ?_ _)); refine blk_far ?_ NB351_363.out _; (with_reducible repeat (first | refine blk_drewN ?_ _ | refine blk_drew ?_ | refine blk_alloc ?_ _)); refine blk_far ?_ NB351_363.out _; (with_reducible repeat (first | refine blk_drewN ?_ _ | refine blk_drew ?_ | refine blk_alloc ?_ _)); exact BK351.out⟩
                  have n1_ : Aside0 (((((w64.setCell ⟨gb363, 0, none⟩ (.int .i64 t359)).setCell ⟨gb363, 1, none⟩ (.int .i64 t360)).setCell ⟨gb363, 2, none⟩ (.int .i64 t361)).setCell ⟨gb363, 3, none⟩ (.int .i64 t362)).heap[gb358]? = some (.cells #[.int .i64 t354, .int .i64 t355, .int .i64 t356, .int .i64 t357] 23 (0, 0))) := ⟨by (with_reducible repeat (first | refine blk_drewN ?_ _ | refine blk_drew ?_ | refine blk_alloc ?_ _)); refine blk_far ?_ NB358_363.out _; (with_reducible repeat (first | refine blk_drewN ?_ _ | refine blk_drew ?_ | refine blk_alloc ?_ _)); refine blk_far ?_ NB358_363.out _; (with_reducible repeat (first | refine blk_drewN ?_ _ | refine blk_drew ?_ | refine blk_alloc ?_ _)); refine blk_far ?_ NB358_363.out _; (with_reducible repeat (first | refine blk_drewN ?_ _ | refine blk_drew ?_ | refine blk_alloc ?_ _)); refine blk_far ?_ NB358_363.out _; (with_reducible repeat (first | refine blk_drewN ?_ _ | refine blk_drew ?_ | refine blk_alloc ?_ _)); exact BK358.out⟩
                  have n2_ : Aside0 (((((w64.setCell ⟨gb363, 0, none⟩ (.int .i64 t359)).setCell ⟨gb363, 1, none⟩ (.int .i64 t360)).setCell ⟨gb363, 2, none⟩ (.int .i64 t361)).setCell ⟨gb363, 3, none⟩ (.int .i64 t362)).heap[gb363]? = some (.cells #[.int .i64 t359, .int .i64 t360, .int .i64 t361, .int .i64 t362] 23 (0, 0))) := ⟨by (with_reducible repeat (first | refine blk_drewN ?_ _ | refine blk_drew ?_ | refine blk_alloc ?_ _)); refine blk_put (cs := #[.int .i64 t359, .int .i64 t360, .int .i64 t361, .int .i64 0]) ?_ 3 _ rfl; (with_reducible repeat (first | refine blk_drewN ?_ _ | refine blk_drew ?_ | refine blk_alloc ?_ _)); refine blk_put (cs := #[.int .i64 t359, .int .i64 t360, .int .i64 0, .int .i64 0]) ?_ 2 _ rfl; (with_reducible repeat (first | refine blk_drewN ?_ _ | refine blk_drew ?_ | refine blk_alloc ?_ _)); refine blk_put (cs := #[.int .i64 t359, .int .i64 0, .int .i64 0, .int .i64 0]) ?_ 1 _ rfl; (with_reducible repeat (first | refine blk_drewN ?_ _ | refine blk_drew ?_ | refine blk_alloc ?_ _)); refine blk_put (cs := #[.int .i64 0, .int .i64 0, .int .i64 0, .int .i64 0]) ?_ 0 _ rfl; (with_reducible repeat (first | refine blk_drewN ?_ _ | refine blk_drew ?_ | refine blk_alloc ?_ _)); exact BK363.out⟩
                  have n3_ : Aside0 (Below w.heap.size w ((((w64.setCell ⟨gb363, 0, none⟩ (.int .i64 t359)).setCell ⟨gb363, 1, none⟩ (.int .i64 t360)).setCell ⟨gb363, 2, none⟩ (.int .i64 t361)).setCell ⟨gb363, 3, none⟩ (.int .i64 t362))) := ⟨by repeat (first | (with_reducible first | exact HB.out | apply below_alloc | apply pw_below_drewN | apply below_drew1 | refine below_set ?_ GE351.out | refine below_set ?_ GE358.out | refine below_set ?_ GE363.out) | exact HB.out)⟩
                  (try clear BK351)
                  (try clear BK358)
                  (try clear BK363)
                  (try clear HB)
                  generalize ((((w64.setCell ⟨gb363, 0, none⟩ (.int .i64 t359)).setCell ⟨gb363, 1, none⟩ (.int .i64 t360)).setCell ⟨gb363, 2, none⟩ (.int .i64 t361)).setCell ⟨gb363, 3, none⟩ (.int .i64 t362)) = w68 at n0_ n1_ n2_ n3_ ⊢
                  have BK351 := n0_
                  have BK358 := n1_
                  have BK363 := n2_
                  have HB := n3_
                  clear n0_ n1_ n2_ n3_
                  have n0_ := Aside0.mk (blk_drew BK351.out)
                  have n1_ := Aside0.mk (blk_drew BK358.out)
                  have n2_ := Aside0.mk (blk_drew BK363.out)
                  have n3_ := Aside0.mk (below_drew1 HB.out)
                  clear BK351
                  clear BK358
                  clear BK363
                  clear HB
                  have BK351 := n0_
                  have BK358 := n1_
                  have BK363 := n2_
                  have HB := n3_
                  clear n0_ n1_ n2_ n3_
                  refine start_ (n := 42) (S := fun w' => w'.cell? ⟨gb351, 0, none⟩ = some (.int .i64 a0_0) ∧ w'.cell? ⟨gb351, 1, none⟩ = some (.int .i64 a0_1) ∧ w'.cell? ⟨gb351, 2, none⟩ = some (.int .i64 a0_2) ∧ w'.cell? ⟨gb351, 3, none⟩ = some (.int .i64 a0_3) ∧ w'.cell? ⟨gb358, 0, none⟩ = some (.int .i64 t354) ∧ w'.cell? ⟨gb358, 1, none⟩ = some (.int .i64 t355) ∧ w'.cell? ⟨gb358, 2, none⟩ = some (.int .i64 t356) ∧ w'.cell? ⟨gb358, 3, none⟩ = some (.int .i64 t357) ∧ w'.cell? ⟨gb363, 0, none⟩ = some (.int .i64 t359) ∧ w'.cell? ⟨gb363, 1, none⟩ = some (.int .i64 t360) ∧ w'.cell? ⟨gb363, 2, none⟩ = some (.int .i64 t361) ∧ w'.cell? ⟨gb363, 3, none⟩ = some (.int .i64 t362)) (ds := []) #[false, false, false, false, false, false, false, false, false, false, false, false, false, false, false, false, false, false, false, false, false, false, false, false, false, false, false, false, false, false, false, false, false, false, false, false, false, false, false, false, false, false] (by kernel_rfl) rfl rfl ⟨(blk_cell BK351.out 0).trans rfl, (blk_cell BK351.out 1).trans rfl, (blk_cell BK351.out 2).trans rfl, (blk_cell BK351.out 3).trans rfl, (blk_cell BK358.out 0).trans rfl, (blk_cell BK358.out 1).trans rfl, (blk_cell BK358.out 2).trans rfl, (blk_cell BK358.out 3).trans rfl, (blk_cell BK363.out 0).trans rfl, (blk_cell BK363.out 1).trans rfl, (blk_cell BK363.out 2).trans rfl, (blk_cell BK363.out 3).trans rfl⟩ (fun hHeld => ?_); refine with_tabW valancelaw04_RectFar.tab8 valancelaw04_RectFar.bits8 (fun HT_ HW_ => ?_)
                  generalize w68.drew = w69 at BK351 BK358 BK363 HB hHeld ⊢
                  refine pure_ (i := 0) (N := some 68) (v := ?_) (a' := ?_) #[true, false, false, false, false, false, false, false, false, false, false, false, false, false, false, false, false, false, false, false, false, false, false, false, false, false, false, false, false, false, false, false, false, false, false, false, false, false, false, false, false, false] rfl rfl (any_of HT_.out (by kernel_rfl)) (fun _ _ _ h => h) (Or.inl ⟨by rfl, ?_⟩) ?_ ?_
                  rotate_left
                  · intro w'
                    go_simp
                    with_reducible rfl
                  rotate_left
                  · simp only [Act.put, List.setIfInBounds_toArray, List.set_cons_zero, List.set_cons_succ, i64_w, i32_w]
                    rfl
                  refine pure_ (i := 1) (N := some 69) (v := ?_) (a' := ?_) #[true, true, false, false, false, false, false, false, false, false, false, false, false, false, false, false, false, false, false, false, false, false, false, false, false, false, false, false, false, false, false, false, false, false, false, false, false, false, false, false, false, false] rfl rfl (any_of HT_.out (by kernel_rfl)) (fun _ _ _ h => h) (Or.inl ⟨by rfl, ?_⟩) ?_ ?_
                  rotate_left
                  · intro w'
                    go_simp
                    with_reducible rfl
                  rotate_left
                  · simp only [Act.put, List.setIfInBounds_toArray, List.set_cons_zero, List.set_cons_succ, i64_w, i32_w]
                    rfl
                  refine pure_ (i := 5) (N := some 73) (v := ?_) (a' := ?_) #[true, true, false, false, false, true, false, false, false, false, false, false, false, false, false, false, false, false, false, false, false, false, false, false, false, false, false, false, false, false, false, false, false, false, false, false, false, false, false, false, false, false] rfl rfl (any_of HT_.out (by kernel_rfl)) (fun _ _ _ h => h) (Or.inl ⟨by rfl, ?_⟩) ?_ ?_
                  rotate_left
                  · intro w'
                    go_simp
                    with_reducible rfl
                  rotate_left
                  · simp only [Act.put, List.setIfInBounds_toArray, List.set_cons_zero, List.set_cons_succ, i64_w, i32_w]
                    rfl
                  refine take_ (i := 2) (N := some 70) (v := ?_) (a' := ?_) #[true, true, true, false, false, true, false, false, false, false, false, false, false, false, false, false, false, false, false, false, false, false, false, false, false, false, false, false, false, false, false, false, false, false, false, false, false, false, false, false, false, false] rfl rfl (take_ofW HT_.out HW_.out (by kernel_rfl)) (fun _ _ _ h => h) (Or.inl ⟨by rfl, ?_⟩) hHeld ?_ ?_
                  rotate_left
                  · rintro w' ⟨s0, s1, s2, s3, s4, s5, s6, s7, s8, s9, s10, s11⟩
                    go_simp
                    with_reducible rfl
                  rotate_left
                  · simp only [Act.put, List.setIfInBounds_toArray, List.set_cons_zero, List.set_cons_succ, i64_w, i32_w]
                    rfl
                  refine take_ (i := 3) (N := some 71) (v := ?_) (a' := ?_) #[true, true, true, true, false, true, false, false, false, false, false, false, false, false, false, false, false, false, false, false, false, false, false, false, false, false, false, false, false, false, false, false, false, false, false, false, false, false, false, false, false, false] rfl rfl (take_ofW HT_.out HW_.out (by kernel_rfl)) (fun _ _ _ h => h) (Or.inl ⟨by rfl, ?_⟩) hHeld ?_ ?_
                  rotate_left
                  · rintro w' ⟨s0, s1, s2, s3, s4, s5, s6, s7, s8, s9, s10, s11⟩
                    go_simp
                    with_reducible rfl
                  rotate_left
                  · simp only [Act.put, List.setIfInBounds_toArray, List.set_cons_zero, List.set_cons_succ, i64_w, i32_w]
                    rfl
                  refine one_ (i := 4) (N := some 72) #[true, true, true, true, true, true, false, false, false, false, false, false, false, false, false, false, false, false, false, false, false, false, false, false, false, false, false, false, false, false, false, false, false, false, false, false, false, false, false, false, false, false] rfl rfl (one_of HT_.out (by kernel_rfl)) (by decide) (fun K hK => ?_)
                  refine goes_ Try.func18 (by kernel_rfl) rfl #[.agg #[.int .i64 a0_0, .int .i64 a0_1, .int .i64 a0_2, .int .i64 a0_3], .agg #[.int .i64 t354, .int .i64 t355, .int .i64 t356, .int .i64 t357]] (by rfl) rfl rfl (by (try simp only [List.map_toArray, List.map_cons, List.map_nil]); first | done | rfl | (simp only [List.length_drop, List.length_take]; rfl)) ?_
                  with_reducible refine (rect_Meet.calls a0_0 a0_1 a0_2 a0_3 t354 t355 t356 t357 t364 t365 t366 t367 _ A49.out).mono ?_
                  rintro e w70 ⟨rfl, hb⟩
                  refine ⟨_, rfl, ?_⟩
                  have n0_ := Aside0.mk (blk_below (g := gb351) (o := .cells #[.int .i64 a0_0, .int .i64 a0_1, .int .i64 a0_2, .int .i64 a0_3] 23 (0, 0)) (by (with_reducible repeat (first | refine blk_drewN ?_ _ | refine blk_drew ?_ | refine blk_alloc ?_ _)); exact BK351.out) hb)
                  have n1_ := Aside0.mk (blk_below (g := gb358) (o := .cells #[.int .i64 t354, .int .i64 t355, .int .i64 t356, .int .i64 t357] 23 (0, 0)) (by (with_reducible repeat (first | refine blk_drewN ?_ _ | refine blk_drew ?_ | refine blk_alloc ?_ _)); exact BK358.out) hb)
                  have n2_ := Aside0.mk (blk_below (g := gb363) (o := .cells #[.int .i64 t359, .int .i64 t360, .int .i64 t361, .int .i64 t362] 23 (0, 0)) (by (with_reducible repeat (first | refine blk_drewN ?_ _ | refine blk_drew ?_ | refine blk_alloc ?_ _)); exact BK363.out) hb)
                  have n3_ := Aside0.mk (below_step (by repeat (first | (with_reducible first | exact HB.out | apply below_alloc | apply pw_below_drewN | apply below_drew1 | refine below_set ?_ GE351.out | refine below_set ?_ GE358.out | refine below_set ?_ GE363.out) | exact HB.out)) hb)
                  clear BK351
                  clear BK358
                  clear BK363
                  clear HB
                  have BK351 := n0_
                  have BK358 := n1_
                  have BK363 := n2_
                  have HB := n3_
                  clear n0_ n1_ n2_ n3_
                  (try clear hb)
                  (try clear hb2)
                  (try clear hk)
                  (try clear hi)
                  refine hK.out _ _ ⟨(blk_cell BK351.out 0).trans rfl, (blk_cell BK351.out 1).trans rfl, (blk_cell BK351.out 2).trans rfl, (blk_cell BK351.out 3).trans rfl, (blk_cell BK358.out 0).trans rfl, (blk_cell BK358.out 1).trans rfl, (blk_cell BK358.out 2).trans rfl, (blk_cell BK358.out 3).trans rfl, (blk_cell BK363.out 0).trans rfl, (blk_cell BK363.out 1).trans rfl, (blk_cell BK363.out 2).trans rfl, (blk_cell BK363.out 3).trans rfl⟩ (fun hHeld => ?_)
                  clear hK K
                  refine norm_ (a' := ?_) ?_ ?_
                  rotate_left
                  · show Act.put _ (some 72) _ = _
                    simp only [Act.put, List.setIfInBounds_toArray, List.set_cons_zero, List.set_cons_succ, i64_w, i32_w]
                    rfl
                  refine pure_ (i := 6) (N := some 74) (v := ?_) (a' := ?_) #[true, true, true, true, true, true, true, false, false, false, false, false, false, false, false, false, false, false, false, false, false, false, false, false, false, false, false, false, false, false, false, false, false, false, false, false, false, false, false, false, false, false] rfl rfl (any_of HT_.out (by kernel_rfl)) (fun _ _ _ h => h) (Or.inl ⟨by rfl, ?_⟩) ?_ ?_
                  rotate_left
                  · intro w'
                    go_simp
                    with_reducible rfl
                  rotate_left
                  · simp only [Act.put, List.setIfInBounds_toArray, List.set_cons_zero, List.set_cons_succ, i64_w, i32_w]
                    rfl
                  refine pure_ (i := 7) (N := some 75) (v := ?_) (a' := ?_) #[true, true, true, true, true, true, true, true, false, false, false, false, false, false, false, false, false, false, false, false, false, false, false, false, false, false, false, false, false, false, false, false, false, false, false, false, false, false, false, false, false, false] rfl rfl (any_of HT_.out (by kernel_rfl)) (fun _ _ _ h => h) (Or.inl ⟨by rfl, ?_⟩) ?_ ?_
                  rotate_left
                  · intro w'
                    go_simp
                    with_reducible rfl
                  rotate_left
                  · simp only [Act.put, List.setIfInBounds_toArray, List.set_cons_zero, List.set_cons_succ, i64_w, i32_w]
                    rfl
                  refine pure_ (i := 8) (N := some 76) (v := ?_) (a' := ?_) #[true, true, true, true, true, true, true, true, true, false, false, false, false, false, false, false, false, false, false, false, false, false, false, false, false, false, false, false, false, false, false, false, false, false, false, false, false, false, false, false, false, false] rfl rfl (any_of HT_.out (by kernel_rfl)) (fun _ _ _ h => h) (Or.inl ⟨by rfl, ?_⟩) ?_ ?_
                  rotate_left
                  · intro w'
                    go_simp
                    with_reducible rfl
                  rotate_left
                  · simp only [Act.put, List.setIfInBounds_toArray, List.set_cons_zero, List.set_cons_succ, i64_w, i32_w]
                    rfl
                  refine pure_ (i := 10) (N := some 78) (v := ?_) (a' := ?_) #[true, true, true, true, true, true, true, true, true, false, true, false, false, false, false, false, false, false, false, false, false, false, false, false, false, false, false, false, false, false, false, false, false, false, false, false, false, false, false, false, false, false] rfl rfl (any_of HT_.out (by kernel_rfl)) (fun _ _ _ h => h) (Or.inl ⟨by rfl, ?_⟩) ?_ ?_
                  rotate_left
                  · intro w'
                    go_simp
                    with_reducible rfl
                  rotate_left
                  · simp only [Act.put, List.setIfInBounds_toArray, List.set_cons_zero, List.set_cons_succ, i64_w, i32_w]
                    rfl
                  refine pure_ (i := 12) (N := some 80) (v := ?_) (a' := ?_) #[true, true, true, true, true, true, true, true, true, false, true, false, true, false, false, false, false, false, false, false, false, false, false, false, false, false, false, false, false, false, false, false, false, false, false, false, false, false, false, false, false, false] rfl rfl (any_of HT_.out (by kernel_rfl)) (fun _ _ _ h => h) (Or.inl ⟨by rfl, ?_⟩) ?_ ?_
                  rotate_left
                  · intro w'
                    go_simp
                    with_reducible rfl
                  rotate_left
                  · simp only [Act.put, List.setIfInBounds_toArray, List.set_cons_zero, List.set_cons_succ, i64_w, i32_w]
                    rfl
                  refine pure_ (i := 14) (N := some 82) (v := ?_) (a' := ?_) #[true, true, true, true, true, true, true, true, true, false, true, false, true, false, true, false, false, false, false, false, false, false, false, false, false, false, false, false, false, false, false, false, false, false, false, false, false, false, false, false, false, false] rfl rfl (any_of HT_.out (by kernel_rfl)) (fun _ _ _ h => h) (Or.inl ⟨by rfl, ?_⟩) ?_ ?_
                  rotate_left
                  · intro w'
                    go_simp
                    with_reducible rfl
                  rotate_left
                  · simp only [Act.put, List.setIfInBounds_toArray, List.set_cons_zero, List.set_cons_succ, i64_w, i32_w]
                    rfl
                  refine pure_ (i := 16) (N := some 84) (v := ?_) (a' := ?_) #[true, true, true, true, true, true, true, true, true, false, true, false, true, false, true, false, true, false, false, false, false, false, false, false, false, false, false, false, false, false, false, false, false, false, false, false, false, false, false, false, false, false] rfl rfl (any_of HT_.out (by kernel_rfl)) (fun _ _ _ h => h) (Or.inl ⟨by rfl, ?_⟩) ?_ ?_
                  rotate_left
                  · intro w'
                    go_simp
                    with_reducible rfl
                  rotate_left
                  · simp only [Act.put, List.setIfInBounds_toArray, List.set_cons_zero, List.set_cons_succ, i64_w, i32_w]
                    rfl
                  refine pure_ (i := 18) (N := some 86) (v := ?_) (a' := ?_) #[true, true, true, true, true, true, true, true, true, false, true, false, true, false, true, false, true, false, true, false, false, false, false, false, false, false, false, false, false, false, false, false, false, false, false, false, false, false, false, false, false, false] rfl rfl (any_of HT_.out (by kernel_rfl)) (fun _ _ _ h => h) (Or.inl ⟨by rfl, ?_⟩) ?_ ?_
                  rotate_left
                  · intro w'
                    go_simp
                    with_reducible rfl
                  rotate_left
                  · simp only [Act.put, List.setIfInBounds_toArray, List.set_cons_zero, List.set_cons_succ, i64_w, i32_w]
                    rfl
                  refine pure_ (i := 20) (N := some 88) (v := ?_) (a' := ?_) #[true, true, true, true, true, true, true, true, true, false, true, false, true, false, true, false, true, false, true, false, true, false, false, false, false, false, false, false, false, false, false, false, false, false, false, false, false, false, false, false, false, false] rfl rfl (any_of HT_.out (by kernel_rfl)) (fun _ _ _ h => h) (Or.inl ⟨by rfl, ?_⟩) ?_ ?_
                  rotate_left
                  · intro w'
                    go_simp
                    with_reducible rfl
                  rotate_left
                  · simp only [Act.put, List.setIfInBounds_toArray, List.set_cons_zero, List.set_cons_succ, i64_w, i32_w]
                    rfl
                  refine pure_ (i := 22) (N := some 90) (v := ?_) (a' := ?_) #[true, true, true, true, true, true, true, true, true, false, true, false, true, false, true, false, true, false, true, false, true, false, true, false, false, false, false, false, false, false, false, false, false, false, false, false, false, false, false, false, false, false] rfl rfl (any_of HT_.out (by kernel_rfl)) (fun _ _ _ h => h) (Or.inl ⟨by rfl, ?_⟩) ?_ ?_
                  rotate_left
                  · intro w'
                    go_simp
                    with_reducible rfl
                  rotate_left
                  · simp only [Act.put, List.setIfInBounds_toArray, List.set_cons_zero, List.set_cons_succ, i64_w, i32_w]
                    rfl
                  refine take_ (i := 9) (N := some 77) (v := ?_) (a' := ?_) #[true, true, true, true, true, true, true, true, true, true, true, false, true, false, true, false, true, false, true, false, true, false, true, false, false, false, false, false, false, false, false, false, false, false, false, false, false, false, false, false, false, false] rfl rfl (take_ofW HT_.out HW_.out (by kernel_rfl)) (fun _ _ _ h => h) (Or.inl ⟨by rfl, ?_⟩) hHeld ?_ ?_
                  rotate_left
                  · rintro w' ⟨s0, s1, s2, s3, s4, s5, s6, s7, s8, s9, s10, s11⟩
                    go_simp
                    with_reducible rfl
                  rotate_left
                  · simp only [Act.put, List.setIfInBounds_toArray, List.set_cons_zero, List.set_cons_succ, i64_w, i32_w]
                    rfl
                  refine take_ (i := 11) (N := some 79) (v := ?_) (a' := ?_) #[true, true, true, true, true, true, true, true, true, true, true, true, true, false, true, false, true, false, true, false, true, false, true, false, false, false, false, false, false, false, false, false, false, false, false, false, false, false, false, false, false, false] rfl rfl (take_ofW HT_.out HW_.out (by kernel_rfl)) (fun _ _ _ h => h) (Or.inl ⟨by rfl, ?_⟩) hHeld ?_ ?_
                  rotate_left
                  · rintro w' ⟨s0, s1, s2, s3, s4, s5, s6, s7, s8, s9, s10, s11⟩
                    go_simp
                    with_reducible rfl
                  rotate_left
                  · simp only [Act.put, List.setIfInBounds_toArray, List.set_cons_zero, List.set_cons_succ, i64_w, i32_w]
                    rfl
                  refine take_ (i := 13) (N := some 81) (v := ?_) (a' := ?_) #[true, true, true, true, true, true, true, true, true, true, true, true, true, true, true, false, true, false, true, false, true, false, true, false, false, false, false, false, false, false, false, false, false, false, false, false, false, false, false, false, false, false] rfl rfl (take_ofW HT_.out HW_.out (by kernel_rfl)) (fun _ _ _ h => h) (Or.inl ⟨by rfl, ?_⟩) hHeld ?_ ?_
                  rotate_left
                  · rintro w' ⟨s0, s1, s2, s3, s4, s5, s6, s7, s8, s9, s10, s11⟩
                    go_simp
                    with_reducible rfl
                  rotate_left
                  · simp only [Act.put, List.setIfInBounds_toArray, List.set_cons_zero, List.set_cons_succ, i64_w, i32_w]
                    rfl
                  refine take_ (i := 15) (N := some 83) (v := ?_) (a' := ?_) #[true, true, true, true, true, true, true, true, true, true, true, true, true, true, true, true, true, false, true, false, true, false, true, false, false, false, false, false, false, false, false, false, false, false, false, false, false, false, false, false, false, false] rfl rfl (take_ofW HT_.out HW_.out (by kernel_rfl)) (fun _ _ _ h => h) (Or.inl ⟨by rfl, ?_⟩) hHeld ?_ ?_
                  rotate_left
                  · rintro w' ⟨s0, s1, s2, s3, s4, s5, s6, s7, s8, s9, s10, s11⟩
                    go_simp
                    with_reducible rfl
                  rotate_left
                  · simp only [Act.put, List.setIfInBounds_toArray, List.set_cons_zero, List.set_cons_succ, i64_w, i32_w]
                    rfl
                  refine pure_ (i := 17) (N := some 85) (v := ?_) (a' := ?_) #[true, true, true, true, true, true, true, true, true, true, true, true, true, true, true, true, true, true, true, false, true, false, true, false, false, false, false, false, false, false, false, false, false, false, false, false, false, false, false, false, false, false] rfl rfl (any_of HT_.out (by kernel_rfl)) (fun _ _ _ h => h) (Or.inl ⟨by rfl, ?_⟩) ?_ ?_
                  rotate_left
                  · intro w'
                    go_simp
                    with_reducible rfl
                  rotate_left
                  · simp only [Act.put, List.setIfInBounds_toArray, List.set_cons_zero, List.set_cons_succ, i64_w, i32_w]
                    rfl
                  refine pure_ (i := 19) (N := some 87) (v := ?_) (a' := ?_) #[true, true, true, true, true, true, true, true, true, true, true, true, true, true, true, true, true, true, true, true, true, false, true, false, false, false, false, false, false, false, false, false, false, false, false, false, false, false, false, false, false, false] rfl rfl (any_of HT_.out (by kernel_rfl)) (fun _ _ _ h => h) (Or.inl ⟨by rfl, ?_⟩) ?_ ?_
                  rotate_left
                  · intro w'
                    go_simp
                    with_reducible rfl
                  rotate_left
                  · simp only [Act.put, List.setIfInBounds_toArray, List.set_cons_zero, List.set_cons_succ, i64_w, i32_w]
                    rfl
                  refine take_ (i := 21) (N := some 89) (v := ?_) (a' := ?_) #[true, true, true, true, true, true, true, true, true, true, true, true, true, true, true, true, true, true, true, true, true, true, true, false, false, false, false, false, false, false, false, false, false, false, false, false, false, false, false, false, false, false] rfl rfl (take_ofW HT_.out HW_.out (by kernel_rfl)) (fun _ _ _ h => h) (Or.inl ⟨by rfl, ?_⟩) hHeld ?_ ?_
                  rotate_left
                  · rintro w' ⟨s0, s1, s2, s3, s4, s5, s6, s7, s8, s9, s10, s11⟩
                    go_simp
                    with_reducible rfl
                  rotate_left
                  · simp only [Act.put, List.setIfInBounds_toArray, List.set_cons_zero, List.set_cons_succ, i64_w, i32_w]
                    rfl
                  refine pure_ (i := 23) (N := some 91) (v := ?_) (a' := ?_) #[true, true, true, true, true, true, true, true, true, true, true, true, true, true, true, true, true, true, true, true, true, true, true, true, false, false, false, false, false, false, false, false, false, false, false, false, false, false, false, false, false, false] rfl rfl (any_of HT_.out (by kernel_rfl)) (fun _ _ _ h => h) (Or.inl ⟨by rfl, ?_⟩) ?_ ?_
                  rotate_left
                  · intro w'
                    go_simp
                    with_reducible rfl
                  rotate_left
                  · simp only [Act.put, List.setIfInBounds_toArray, List.set_cons_zero, List.set_cons_succ, i64_w, i32_w]
                    rfl
                  refine one_ (i := 24) (N := some 92) #[true, true, true, true, true, true, true, true, true, true, true, true, true, true, true, true, true, true, true, true, true, true, true, true, true, false, false, false, false, false, false, false, false, false, false, false, false, false, false, false, false, false] rfl rfl (one_of HT_.out (by kernel_rfl)) (by decide) (fun K hK => ?_)
                  refine goes_ Try.func11 (by kernel_rfl) rfl #[.int .i64 a0_0, .int .i64 a0_1, .int .i64 (wrap64 ((wrap64 (a0_2 + a1)) + a2)), .int .i64 ji51] (by rfl) rfl rfl (by (try simp only [List.map_toArray, List.map_cons, List.map_nil]); first | done | (simp only [hji51]; rfl) | rfl | (simp only [List.length_drop, List.length_take]; rfl)) ?_
                  with_reducible refine (rect_Of.calls a0_0 a0_1 (wrap64 ((wrap64 (a0_2 + a1)) + a2)) ji51 t368 t369 t370 t371 _ A52.out).mono ?_
                  rintro e w71 ⟨rfl, hb⟩
                  refine ⟨_, rfl, ?_⟩
                  have n0_ := Aside0.mk (blk_below (g := gb351) (o := .cells #[.int .i64 a0_0, .int .i64 a0_1, .int .i64 a0_2, .int .i64 a0_3] 23 (0, 0)) (by (with_reducible repeat (first | refine blk_drewN ?_ _ | refine blk_drew ?_ | refine blk_alloc ?_ _)); exact BK351.out) hb)
                  have n1_ := Aside0.mk (blk_below (g := gb358) (o := .cells #[.int .i64 t354, .int .i64 t355, .int .i64 t356, .int .i64 t357] 23 (0, 0)) (by (with_reducible repeat (first | refine blk_drewN ?_ _ | refine blk_drew ?_ | refine blk_alloc ?_ _)); exact BK358.out) hb)
                  have n2_ := Aside0.mk (blk_below (g := gb363) (o := .cells #[.int .i64 t359, .int .i64 t360, .int .i64 t361, .int .i64 t362] 23 (0, 0)) (by (with_reducible repeat (first | refine blk_drewN ?_ _ | refine blk_drew ?_ | refine blk_alloc ?_ _)); exact BK363.out) hb)
                  have n3_ := Aside0.mk (below_step (by repeat (first | (with_reducible first | exact HB.out | apply below_alloc | apply pw_below_drewN | apply below_drew1 | refine below_set ?_ GE351.out | refine below_set ?_ GE358.out | refine below_set ?_ GE363.out) | exact HB.out)) hb)
                  clear BK351
                  clear BK358
                  clear BK363
                  clear HB
                  have BK351 := n0_
                  have BK358 := n1_
                  have BK363 := n2_
                  have HB := n3_
                  clear n0_ n1_ n2_ n3_
                  (try clear hb)
                  (try clear hb2)
                  (try clear hk)
                  (try clear hi)
                  refine hK.out _ _ ⟨(blk_cell BK351.out 0).trans rfl, (blk_cell BK351.out 1).trans rfl, (blk_cell BK351.out 2).trans rfl, (blk_cell BK351.out 3).trans rfl, (blk_cell BK358.out 0).trans rfl, (blk_cell BK358.out 1).trans rfl, (blk_cell BK358.out 2).trans rfl, (blk_cell BK358.out 3).trans rfl, (blk_cell BK363.out 0).trans rfl, (blk_cell BK363.out 1).trans rfl, (blk_cell BK363.out 2).trans rfl, (blk_cell BK363.out 3).trans rfl⟩ (fun hHeld => ?_)
                  clear hK K
                  refine norm_ (a' := ?_) ?_ ?_
                  rotate_left
                  · show Act.put _ (some 92) _ = _
                    simp only [Act.put, List.setIfInBounds_toArray, List.set_cons_zero, List.set_cons_succ, i64_w, i32_w]
                    rfl
                  refine pure_ (i := 25) (N := some 93) (v := ?_) (a' := ?_) #[true, true, true, true, true, true, true, true, true, true, true, true, true, true, true, true, true, true, true, true, true, true, true, true, true, true, false, false, false, false, false, false, false, false, false, false, false, false, false, false, false, false] rfl rfl (any_of HT_.out (by kernel_rfl)) (fun _ _ _ h => h) (Or.inl ⟨by rfl, ?_⟩) ?_ ?_
                  rotate_left
                  · intro w'
                    go_simp
                    with_reducible rfl
                  rotate_left
                  · simp only [Act.put, List.setIfInBounds_toArray, List.set_cons_zero, List.set_cons_succ, i64_w, i32_w]
                    rfl
                  refine pure_ (i := 26) (N := some 94) (v := ?_) (a' := ?_) #[true, true, true, true, true, true, true, true, true, true, true, true, true, true, true, true, true, true, true, true, true, true, true, true, true, true, true, false, false, false, false, false, false, false, false, false, false, false, false, false, false, false] rfl rfl (any_of HT_.out (by kernel_rfl)) (fun _ _ _ h => h) (Or.inl ⟨by rfl, ?_⟩) ?_ ?_
                  rotate_left
                  · intro w'
                    go_simp
                    with_reducible rfl
                  rotate_left
                  · simp only [Act.put, List.setIfInBounds_toArray, List.set_cons_zero, List.set_cons_succ, i64_w, i32_w]
                    rfl
                  refine pure_ (i := 27) (N := some 95) (v := ?_) (a' := ?_) #[true, true, true, true, true, true, true, true, true, true, true, true, true, true, true, true, true, true, true, true, true, true, true, true, true, true, true, true, false, false, false, false, false, false, false, false, false, false, false, false, false, false] rfl rfl (any_of HT_.out (by kernel_rfl)) (fun _ _ _ h => h) (Or.inl ⟨by rfl, ?_⟩) ?_ ?_
                  rotate_left
                  · intro w'
                    go_simp
                    with_reducible rfl
                  rotate_left
                  · simp only [Act.put, List.setIfInBounds_toArray, List.set_cons_zero, List.set_cons_succ, i64_w, i32_w]
                    rfl
                  refine take_ (i := 28) (N := some 96) (v := ?_) (a' := ?_) #[true, true, true, true, true, true, true, true, true, true, true, true, true, true, true, true, true, true, true, true, true, true, true, true, true, true, true, true, true, false, false, false, false, false, false, false, false, false, false, false, false, false] rfl rfl (take_ofW HT_.out HW_.out (by kernel_rfl)) (fun _ _ _ h => h) (Or.inl ⟨by rfl, ?_⟩) hHeld ?_ ?_
                  rotate_left
                  · rintro w' ⟨s0, s1, s2, s3, s4, s5, s6, s7, s8, s9, s10, s11⟩
                    go_simp
                    with_reducible rfl
                  rotate_left
                  · simp only [Act.put, List.setIfInBounds_toArray, List.set_cons_zero, List.set_cons_succ, i64_w, i32_w]
                    rfl
                  refine take_ (i := 29) (N := some 97) (v := ?_) (a' := ?_) #[true, true, true, true, true, true, true, true, true, true, true, true, true, true, true, true, true, true, true, true, true, true, true, true, true, true, true, true, true, true, false, false, false, false, false, false, false, false, false, false, false, false] rfl rfl (take_ofW HT_.out HW_.out (by kernel_rfl)) (fun _ _ _ h => h) (Or.inl ⟨by rfl, ?_⟩) hHeld ?_ ?_
                  rotate_left
                  · rintro w' ⟨s0, s1, s2, s3, s4, s5, s6, s7, s8, s9, s10, s11⟩
                    go_simp
                    with_reducible rfl
                  rotate_left
                  · simp only [Act.put, List.setIfInBounds_toArray, List.set_cons_zero, List.set_cons_succ, i64_w, i32_w]
                    rfl
                  refine take_ (i := 31) (N := some 99) (v := ?_) (a' := ?_) #[true, true, true, true, true, true, true, true, true, true, true, true, true, true, true, true, true, true, true, true, true, true, true, true, true, true, true, true, true, true, false, true, false, false, false, false, false, false, false, false, false, false] rfl rfl (take_ofW HT_.out HW_.out (by kernel_rfl)) (fun _ _ _ h => h) (Or.inl ⟨by rfl, ?_⟩) hHeld ?_ ?_
                  rotate_left
                  · rintro w' ⟨s0, s1, s2, s3, s4, s5, s6, s7, s8, s9, s10, s11⟩
                    go_simp
                    with_reducible rfl
                  rotate_left
                  · simp only [Act.put, List.setIfInBounds_toArray, List.set_cons_zero, List.set_cons_succ, i64_w, i32_w]
                    rfl
                  refine one_ (i := 30) (N := some 98) #[true, true, true, true, true, true, true, true, true, true, true, true, true, true, true, true, true, true, true, true, true, true, true, true, true, true, true, true, true, true, true, true, false, false, false, false, false, false, false, false, false, false] rfl rfl (one_of HT_.out (by kernel_rfl)) (by decide) (fun K hK => ?_)
                  refine goes_ Try.func18 (by kernel_rfl) rfl #[.agg #[.int .i64 t359, .int .i64 t360, .int .i64 t361, .int .i64 t362], .agg #[.int .i64 a0_0, .int .i64 a0_1, .int .i64 a0_2, .int .i64 a0_3]] (by rfl) rfl rfl (by (try simp only [List.map_toArray, List.map_cons, List.map_nil]); first | done | rfl | (simp only [List.length_drop, List.length_take]; rfl)) ?_
                  with_reducible refine (rect_Meet.calls t359 t360 t361 t362 a0_0 a0_1 a0_2 a0_3 t372 t373 t374 t375 _ A54.out).mono ?_
                  rintro e w72 ⟨rfl, hb⟩
                  refine ⟨_, rfl, ?_⟩
                  have n0_ := Aside0.mk (blk_below (g := gb351) (o := .cells #[.int .i64 a0_0, .int .i64 a0_1, .int .i64 a0_2, .int .i64 a0_3] 23 (0, 0)) (by (with_reducible repeat (first | refine blk_drewN ?_ _ | refine blk_drew ?_ | refine blk_alloc ?_ _)); exact BK351.out) hb)
                  have n1_ := Aside0.mk (blk_below (g := gb358) (o := .cells #[.int .i64 t354, .int .i64 t355, .int .i64 t356, .int .i64 t357] 23 (0, 0)) (by (with_reducible repeat (first | refine blk_drewN ?_ _ | refine blk_drew ?_ | refine blk_alloc ?_ _)); exact BK358.out) hb)
                  have n2_ := Aside0.mk (blk_below (g := gb363) (o := .cells #[.int .i64 t359, .int .i64 t360, .int .i64 t361, .int .i64 t362] 23 (0, 0)) (by (with_reducible repeat (first | refine blk_drewN ?_ _ | refine blk_drew ?_ | refine blk_alloc ?_ _)); exact BK363.out) hb)
                  have n3_ := Aside0.mk (below_step (by repeat (first | (with_reducible first | exact HB.out | apply below_alloc | apply pw_below_drewN | apply below_drew1 | refine below_set ?_ GE351.out | refine below_set ?_ GE358.out | refine below_set ?_ GE363.out) | exact HB.out)) hb)
                  clear BK351
                  clear BK358
                  clear BK363
                  clear HB
                  have BK351 := n0_
                  have BK358 := n1_
                  have BK363 := n2_
                  have HB := n3_
                  clear n0_ n1_ n2_ n3_
                  (try clear hb)
                  (try clear hb2)
                  (try clear hk)
                  (try clear hi)
                  refine hK.out _ _ ⟨(blk_cell BK351.out 0).trans rfl, (blk_cell BK351.out 1).trans rfl, (blk_cell BK351.out 2).trans rfl, (blk_cell BK351.out 3).trans rfl, (blk_cell BK358.out 0).trans rfl, (blk_cell BK358.out 1).trans rfl, (blk_cell BK358.out 2).trans rfl, (blk_cell BK358.out 3).trans rfl, (blk_cell BK363.out 0).trans rfl, (blk_cell BK363.out 1).trans rfl, (blk_cell BK363.out 2).trans rfl, (blk_cell BK363.out 3).trans rfl⟩ (fun hHeld => ?_)
                  clear hK K
                  refine norm_ (a' := ?_) ?_ ?_
                  rotate_left
                  · show Act.put _ (some 98) _ = _
                    simp only [Act.put, List.setIfInBounds_toArray, List.set_cons_zero, List.set_cons_succ, i64_w, i32_w]
                    rfl
                  refine pure_ (i := 32) (N := some 100) (v := ?_) (a' := ?_) #[true, true, true, true, true, true, true, true, true, true, true, true, true, true, true, true, true, true, true, true, true, true, true, true, true, true, true, true, true, true, true, true, true, false, false, false, false, false, false, false, false, false] rfl rfl (any_of HT_.out (by kernel_rfl)) (fun _ _ _ h => h) (Or.inl ⟨by rfl, ?_⟩) ?_ ?_
                  rotate_left
                  · intro w'
                    go_simp
                    with_reducible rfl
                  rotate_left
                  · simp only [Act.put, List.setIfInBounds_toArray, List.set_cons_zero, List.set_cons_succ, i64_w, i32_w]
                    rfl
                  refine pure_ (i := 33) (N := some 101) (v := ?_) (a' := ?_) #[true, true, true, true, true, true, true, true, true, true, true, true, true, true, true, true, true, true, true, true, true, true, true, true, true, true, true, true, true, true, true, true, true, true, false, false, false, false, false, false, false, false] rfl rfl (any_of HT_.out (by kernel_rfl)) (fun _ _ _ h => h) (Or.inl ⟨by rfl, ?_⟩) ?_ ?_
                  rotate_left
                  · intro w'
                    go_simp
                    with_reducible rfl
                  rotate_left
                  · simp only [Act.put, List.setIfInBounds_toArray, List.set_cons_zero, List.set_cons_succ, i64_w, i32_w]
                    rfl
                  refine pure_ (i := 34) (N := some 102) (v := ?_) (a' := ?_) #[true, true, true, true, true, true, true, true, true, true, true, true, true, true, true, true, true, true, true, true, true, true, true, true, true, true, true, true, true, true, true, true, true, true, true, false, false, false, false, false, false, false] rfl rfl (any_of HT_.out (by kernel_rfl)) (fun _ _ _ h => h) (Or.inl ⟨by rfl, ?_⟩) ?_ ?_
                  rotate_left
                  · intro w'
                    go_simp
                    with_reducible rfl
                  rotate_left
                  · simp only [Act.put, List.setIfInBounds_toArray, List.set_cons_zero, List.set_cons_succ, i64_w, i32_w]
                    rfl
                  refine take_ (i := 35) (N := some 103) (v := ?_) (a' := ?_) #[true, true, true, true, true, true, true, true, true, true, true, true, true, true, true, true, true, true, true, true, true, true, true, true, true, true, true, true, true, true, true, true, true, true, true, true, false, false, false, false, false, false] rfl rfl (take_ofW HT_.out HW_.out (by kernel_rfl)) (fun _ _ _ h => h) (Or.inl ⟨by rfl, ?_⟩) hHeld ?_ ?_
                  rotate_left
                  · rintro w' ⟨s0, s1, s2, s3, s4, s5, s6, s7, s8, s9, s10, s11⟩
                    go_simp
                    with_reducible rfl
                  rotate_left
                  · simp only [Act.put, List.setIfInBounds_toArray, List.set_cons_zero, List.set_cons_succ, i64_w, i32_w]
                    rfl
                  refine take_ (i := 36) (N := some 104) (v := ?_) (a' := ?_) #[true, true, true, true, true, true, true, true, true, true, true, true, true, true, true, true, true, true, true, true, true, true, true, true, true, true, true, true, true, true, true, true, true, true, true, true, true, false, false, false, false, false] rfl rfl (take_ofW HT_.out HW_.out (by kernel_rfl)) (fun _ _ _ h => h) (Or.inl ⟨by rfl, ?_⟩) hHeld ?_ ?_
                  rotate_left
                  · rintro w' ⟨s0, s1, s2, s3, s4, s5, s6, s7, s8, s9, s10, s11⟩
                    go_simp
                    with_reducible rfl
                  rotate_left
                  · simp only [Act.put, List.setIfInBounds_toArray, List.set_cons_zero, List.set_cons_succ, i64_w, i32_w]
                    rfl
                  refine take_ (i := 38) (N := some 106) (v := ?_) (a' := ?_) #[true, true, true, true, true, true, true, true, true, true, true, true, true, true, true, true, true, true, true, true, true, true, true, true, true, true, true, true, true, true, true, true, true, true, true, true, true, false, true, false, false, false] rfl rfl (take_ofW HT_.out HW_.out (by kernel_rfl)) (fun _ _ _ h => h) (Or.inl ⟨by rfl, ?_⟩) hHeld ?_ ?_
                  rotate_left
                  · rintro w' ⟨s0, s1, s2, s3, s4, s5, s6, s7, s8, s9, s10, s11⟩
                    go_simp
                    with_reducible rfl
                  rotate_left
                  · simp only [Act.put, List.setIfInBounds_toArray, List.set_cons_zero, List.set_cons_succ, i64_w, i32_w]
                    rfl
                  refine one_ (i := 37) (N := some 105) #[true, true, true, true, true, true, true, true, true, true, true, true, true, true, true, true, true, true, true, true, true, true, true, true, true, true, true, true, true, true, true, true, true, true, true, true, true, true, true, false, false, false] rfl rfl (one_of HT_.out (by kernel_rfl)) (by decide) (fun K hK => ?_)
                  refine goes_ Try.func18 (by kernel_rfl) rfl #[.agg #[.int .i64 t359, .int .i64 t360, .int .i64 t361, .int .i64 t362], .agg #[.int .i64 t354, .int .i64 t355, .int .i64 t356, .int .i64 t357]] (by rfl) rfl rfl (by (try simp only [List.map_toArray, List.map_cons, List.map_nil]); first | done | rfl | (simp only [List.length_drop, List.length_take]; rfl)) ?_
                  with_reducible refine (rect_Meet.calls t359 t360 t361 t362 t354 t355 t356 t357 t376 t377 t378 t379 _ A56.out).mono ?_
                  rintro e w73 ⟨rfl, hb⟩
                  refine ⟨_, rfl, ?_⟩
                  have n0_ := Aside0.mk (blk_below (g := gb351) (o := .cells #[.int .i64 a0_0, .int .i64 a0_1, .int .i64 a0_2, .int .i64 a0_3] 23 (0, 0)) (by (with_reducible repeat (first | refine blk_drewN ?_ _ | refine blk_drew ?_ | refine blk_alloc ?_ _)); exact BK351.out) hb)
                  have n1_ := Aside0.mk (blk_below (g := gb358) (o := .cells #[.int .i64 t354, .int .i64 t355, .int .i64 t356, .int .i64 t357] 23 (0, 0)) (by (with_reducible repeat (first | refine blk_drewN ?_ _ | refine blk_drew ?_ | refine blk_alloc ?_ _)); exact BK358.out) hb)
                  have n2_ := Aside0.mk (blk_below (g := gb363) (o := .cells #[.int .i64 t359, .int .i64 t360, .int .i64 t361, .int .i64 t362] 23 (0, 0)) (by (with_reducible repeat (first | refine blk_drewN ?_ _ | refine blk_drew ?_ | refine blk_alloc ?_ _)); exact BK363.out) hb)
                  have n3_ := Aside0.mk (below_step (by repeat (first | (with_reducible first | exact HB.out | apply below_alloc | apply pw_below_drewN | apply below_drew1 | refine below_set ?_ GE351.out | refine below_set ?_ GE358.out | refine below_set ?_ GE363.out) | exact HB.out)) hb)
                  clear BK351
                  clear BK358
                  clear BK363
                  clear HB
                  have BK351 := n0_
                  have BK358 := n1_
                  have BK363 := n2_
                  have HB := n3_
                  clear n0_ n1_ n2_ n3_
                  (try clear hb)
                  (try clear hb2)
                  (try clear hk)
                  (try clear hi)
                  refine hK.out _ _ ⟨(blk_cell BK351.out 0).trans rfl, (blk_cell BK351.out 1).trans rfl, (blk_cell BK351.out 2).trans rfl, (blk_cell BK351.out 3).trans rfl, (blk_cell BK358.out 0).trans rfl, (blk_cell BK358.out 1).trans rfl, (blk_cell BK358.out 2).trans rfl, (blk_cell BK358.out 3).trans rfl, (blk_cell BK363.out 0).trans rfl, (blk_cell BK363.out 1).trans rfl, (blk_cell BK363.out 2).trans rfl, (blk_cell BK363.out 3).trans rfl⟩ (fun hHeld => ?_)
                  clear hK K
                  refine norm_ (a' := ?_) ?_ ?_
                  rotate_left
                  · show Act.put _ (some 105) _ = _
                    simp only [Act.put, List.setIfInBounds_toArray, List.set_cons_zero, List.set_cons_succ, i64_w, i32_w]
                    rfl
                  refine pure_ (i := 39) (N := some 107) (v := ?_) (a' := ?_) #[true, true, true, true, true, true, true, true, true, true, true, true, true, true, true, true, true, true, true, true, true, true, true, true, true, true, true, true, true, true, true, true, true, true, true, true, true, true, true, true, false, false] rfl rfl (any_of HT_.out (by kernel_rfl)) (fun _ _ _ h => h) (Or.inl ⟨by rfl, ?_⟩) ?_ ?_
                  rotate_left
                  · intro w'
                    go_simp
                    with_reducible rfl
                  rotate_left
                  · simp only [Act.put, List.setIfInBounds_toArray, List.set_cons_zero, List.set_cons_succ, i64_w, i32_w]
                    rfl
                  refine pure_ (i := 40) (N := some 108) (v := ?_) (a' := ?_) #[true, true, true, true, true, true, true, true, true, true, true, true, true, true, true, true, true, true, true, true, true, true, true, true, true, true, true, true, true, true, true, true, true, true, true, true, true, true, true, true, true, false] rfl rfl (any_of HT_.out (by kernel_rfl)) (fun _ _ _ h => h) (Or.inl ⟨by rfl, ?_⟩) ?_ ?_
                  rotate_left
                  · intro w'
                    go_simp
                    with_reducible rfl
                  rotate_left
                  · simp only [Act.put, List.setIfInBounds_toArray, List.set_cons_zero, List.set_cons_succ, i64_w, i32_w]
                    rfl
                  refine pure_ (i := 41) (N := some 8) (v := ?_) (a' := ?_) #[true, true, true, true, true, true, true, true, true, true, true, true, true, true, true, true, true, true, true, true, true, true, true, true, true, true, true, true, true, true, true, true, true, true, true, true, true, true, true, true, true, true] rfl rfl (any_of HT_.out (by kernel_rfl)) (fun _ _ _ h => h) (Or.inl ⟨by rfl, ?_⟩) ?_ ?_
                  rotate_left
                  · intro w'
                    go_simp
                    with_reducible rfl
                  rotate_left
                  · simp only [Act.put, List.setIfInBounds_toArray, List.set_cons_zero, List.set_cons_succ, i64_w, i32_w]
                    rfl
                  refine done_ (done_of HT_.out (by kernel_rfl)) ?_
                  try go_wp2
                  go_ret
                  exact ⟨by first | rfl | (simp [errW_none, errW_some] <;> rfl) | (simp only [← hji51]; first | rfl | (simp [errW_none, errW_some] <;> rfl)) | (simp [*, errW_none, errW_some] <;> rfl), by repeat (first | (with_reducible first | exact HB.out | apply below_alloc | apply pw_below_drewN | apply below_drew1 | refine below_set ?_ GE351.out | refine below_set ?_ GE358.out | refine below_set ?_ GE363.out) | exact HB.out)⟩
                · rw [if_neg c55] at H
                  exact absurd H (by simp)
              · rw [if_neg c53] at H
                exact absurd H (by simp)
            · rw [if_neg c50] at H
              exact absurd H (by simp)
          · exact absurd rfl c48
  · replace c6 := Bool.eq_false_iff.mpr c6
    subst c6
    have H1 : (none) = some r := by rw [if_neg (show ¬ (false = true) by decide)] at H; exact H
    clear H
    have H := H1
    clear H1
    exact absurd H (by simp)

/-- THE ONE PURE STATEMENT of valancelaw04_RectFar: yours. -/
def valancelaw04_RectFar.Pure : Prop := ∀ (a0_0 : Int) (a0_1 : Int) (a0_2 : Int) (a0_3 : Int) (a1 : Int) (a2 : Int) (a3 : Int), (Lit.int .i64 a0_0).wf = true → (Lit.int .i64 a0_1).wf = true → (Lit.int .i64 a0_2).wf = true → (Lit.int .i64 a0_3).wf = true → (Lit.int .i64 a1).wf = true → (Lit.int .i64 a2).wf = true → (Lit.int .i64 a3).wf = true → ∃ k, valancelaw04_RectFar.f k a0_0 a0_1 a0_2 a0_3 a1 a2 a3 = some true
theorem valancelaw04_RectFar.walk (P : valancelaw04_RectFar.Pure) (a0_0 : Int) (a0_1 : Int) (a0_2 : Int) (a0_3 : Int) (a1 : Int) (a2 : Int) (a3 : Int) (w : World) (w0_0 : (Lit.int .i64 a0_0).wf = true) (w0_1 : (Lit.int .i64 a0_1).wf = true) (w0_2 : (Lit.int .i64 a0_2).wf = true) (w0_3 : (Lit.int .i64 a0_3).wf = true) (w1 : (Lit.int .i64 a1).wf = true) (w2 : (Lit.int .i64 a2).wf = true) (w3 : (Lit.int .i64 a3).wf = true) :
    Calls Try.prog 5 #[.agg #[.int .i64 a0_0, .int .i64 a0_1, .int .i64 a0_2, .int .i64 a0_3], .int .i64 a1, .int .i64 a2, .int .i64 a3] w fun e w' => e = .returned (.bool true) ∧ Below w.heap.size w w' := by
  obtain ⟨k, h⟩ := P a0_0 a0_1 a0_2 a0_3 a1 a2 a3 w0_0 w0_1 w0_2 w0_3 w1 w2 w3
  refine (valancelaw04_RectFar.calls k a0_0 a0_1 a0_2 a0_3 a1 a2 a3 true w h).mono ?_
  rintro e w' ⟨rfl, hd⟩
  exact ⟨rfl, hd⟩

end Go.Proofs.Ytnmcefpnpfaklae.V
