/- What the functions of this seat answer, as plain Lean functions, and that the calls come to just that (written by a program of this repo, over the kit's printer; Lean checks it). -/
import Derived.Test.YtnmcefpnpfaklaaVx0
import Derived.Test.YtnmcefpnpfaklaaVx1
import Derived.Test.YtnmcefpnpfaklaaVx3
import Derived.Test.YtnmcefpnpfaklaaVx4
import Derived.Test.YtnmcefpnpfaklaaVx6
import Derived.Test.YtnmcefpnpfaklaaVx7
import Derived.Test.YtnmcefpnpfaklaaVx8
namespace Go.Proofs.Ytnmcefpnpfaklaa.V
open Go.RowKit Go.Proofs.Ytnmcefpnpfaklaa.Flt Go.Proofs.YtnmcefpnpfaklaaW.PrintWords Go.Proofs.YtnmcefpnpfaklaaW.PrintLast Go.Proofs.YtnmcefpnpfaklaaW.PrintMore
attribute [local go_sem high] run_eql_vpt2 run_neq_vpt2 eqGuard_vpt2 vpt2_zero run_add_vpt2
attribute [local go_sem] max2_int min2_int max_two min_two max_three min_three max_four min_four   -- for this text's walks alone
set_option linter.unusedVariables false
set_option linter.unusedSimpArgs false

attribute [local go_sem high] eqA30
/-! ### valancelaw05_works: function 12 -/
def valancelaw05_works.f  : Option (Bool) := (length_Of.f 2 2500 640 9).bind fun t118 => (if t118 = 160 then ((length_Of.f 2 2500 (-1) 9).bind fun t119 => (if t119 = 9 then ((length_Of.f 0 0 640 7).bind fun t120 => (if t120 = 7 then ((length_Fixed.f 1 5 (-1)).bind fun t121 => (if t121 = true then ((length_Fixed.f 2 2500 (-1)).bind fun t122 => (if t122 = true then (none) else ((length_Limit.f 3 1 5 2 2500 640).bind fun t123 => (if t123 = 5 then ((length_Sides.f 1 5 2 2500 0 0 1 5 640).bind fun bt124 => (if (bt124.1 == 5 && (bt124.2.1 == 160 && (bt124.2.2.1 == 0 && (bt124.2.2.2 == 5)))) = true then ((length_Valid.f 2 2500).bind fun t128 => (if t128 = true then ((length_Valid.f 0 1).bind fun t129 => (some (!t129))) else (none))) else (none))) else (none))))) else (none))) else (none))) else (none))) else (none))
set_option maxHeartbeats 8000000 in
set_option maxRecDepth 100000 in
theorem valancelaw05_works.calls  (r : Bool) (w : World) (h : valancelaw05_works.f  = some r) :
    Calls Try.prog 12 #[] w fun e w' => e = .returned (.bool r) ∧ Below w.heap.size w w' := by
  have hu24 := Try.underlying24
  have hu25 := Try.underlying25
  have hu30 := Try.underlying30
  have HB := Aside0.mk (Below.refl w.heap.size w)
  have H : ((length_Of.f 2 2500 640 9).bind fun t118 => (if t118 = 160 then ((length_Of.f 2 2500 (-1) 9).bind fun t119 => (if t119 = 9 then ((length_Of.f 0 0 640 7).bind fun t120 => (if t120 = 7 then ((length_Fixed.f 1 5 (-1)).bind fun t121 => (if t121 = true then ((length_Fixed.f 2 2500 (-1)).bind fun t122 => (if t122 = true then (none) else ((length_Limit.f 3 1 5 2 2500 640).bind fun t123 => (if t123 = 5 then ((length_Sides.f 1 5 2 2500 0 0 1 5 640).bind fun bt124 => (if (bt124.1 == 5 && (bt124.2.1 == 160 && (bt124.2.2.1 == 0 && (bt124.2.2.2 == 5)))) = true then ((length_Valid.f 2 2500).bind fun t128 => (if t128 = true then ((length_Valid.f 0 1).bind fun t129 => (some (!t129))) else (none))) else (none))) else (none))))) else (none))) else (none))) else (none))) else (none))) = some r := h
  clear h
  replace H := Option.bind_eq_some_iff.mp H
  obtain ⟨t118, A10, H⟩ := H
  replace H : (if t118 = 160 then ((length_Of.f 2 2500 (-1) 9).bind fun t119 => (if t119 = 9 then ((length_Of.f 0 0 640 7).bind fun t120 => (if t120 = 7 then ((length_Fixed.f 1 5 (-1)).bind fun t121 => (if t121 = true then ((length_Fixed.f 2 2500 (-1)).bind fun t122 => (if t122 = true then (none) else ((length_Limit.f 3 1 5 2 2500 640).bind fun t123 => (if t123 = 5 then ((length_Sides.f 1 5 2 2500 0 0 1 5 640).bind fun bt124 => (if (bt124.1 == 5 && (bt124.2.1 == 160 && (bt124.2.2.1 == 0 && (bt124.2.2.2 == 5)))) = true then ((length_Valid.f 2 2500).bind fun t128 => (if t128 = true then ((length_Valid.f 0 1).bind fun t129 => (some (!t129))) else (none))) else (none))) else (none))))) else (none))) else (none))) else (none))) else (none)) = some r := H
  have A1 := Aside0.mk A10
  clear A10
  by_cases c2 : t118 = 160
  · rw [if_pos c2] at H
    have c2b0 : (t118 == 160) = true := beq_iff_eq.mpr c2
    have c2b1 : (t118 != 160) = false := bne_eq_false_iff_eq.mpr c2
    clear c2
    replace H := Option.bind_eq_some_iff.mp H
    obtain ⟨t119, A30, H⟩ := H
    replace H : (if t119 = 9 then ((length_Of.f 0 0 640 7).bind fun t120 => (if t120 = 7 then ((length_Fixed.f 1 5 (-1)).bind fun t121 => (if t121 = true then ((length_Fixed.f 2 2500 (-1)).bind fun t122 => (if t122 = true then (none) else ((length_Limit.f 3 1 5 2 2500 640).bind fun t123 => (if t123 = 5 then ((length_Sides.f 1 5 2 2500 0 0 1 5 640).bind fun bt124 => (if (bt124.1 == 5 && (bt124.2.1 == 160 && (bt124.2.2.1 == 0 && (bt124.2.2.2 == 5)))) = true then ((length_Valid.f 2 2500).bind fun t128 => (if t128 = true then ((length_Valid.f 0 1).bind fun t129 => (some (!t129))) else (none))) else (none))) else (none))))) else (none))) else (none))) else (none)) = some r := H
    have A3 := Aside0.mk A30
    clear A30
    by_cases c4 : t119 = 9
    · rw [if_pos c4] at H
      have c4b0 : (t119 == 9) = true := beq_iff_eq.mpr c4
      have c4b1 : (t119 != 9) = false := bne_eq_false_iff_eq.mpr c4
      clear c4
      replace H := Option.bind_eq_some_iff.mp H
      obtain ⟨t120, A50, H⟩ := H
      replace H : (if t120 = 7 then ((length_Fixed.f 1 5 (-1)).bind fun t121 => (if t121 = true then ((length_Fixed.f 2 2500 (-1)).bind fun t122 => (if t122 = true then (none) else ((length_Limit.f 3 1 5 2 2500 640).bind fun t123 => (if t123 = 5 then ((length_Sides.f 1 5 2 2500 0 0 1 5 640).bind fun bt124 => (if (bt124.1 == 5 && (bt124.2.1 == 160 && (bt124.2.2.1 == 0 && (bt124.2.2.2 == 5)))) = true then ((length_Valid.f 2 2500).bind fun t128 => (if t128 = true then ((length_Valid.f 0 1).bind fun t129 => (some (!t129))) else (none))) else (none))) else (none))))) else (none))) else (none)) = some r := H
      have A5 := Aside0.mk A50
      clear A50
      by_cases c6 : t120 = 7
      · rw [if_pos c6] at H
        have c6b0 : (t120 == 7) = true := beq_iff_eq.mpr c6
        have c6b1 : (t120 != 7) = false := bne_eq_false_iff_eq.mpr c6
        clear c6
        replace H := Option.bind_eq_some_iff.mp H
        obtain ⟨t121, A70, H⟩ := H
        replace H : (if t121 = true then ((length_Fixed.f 2 2500 (-1)).bind fun t122 => (if t122 = true then (none) else ((length_Limit.f 3 1 5 2 2500 640).bind fun t123 => (if t123 = 5 then ((length_Sides.f 1 5 2 2500 0 0 1 5 640).bind fun bt124 => (if (bt124.1 == 5 && (bt124.2.1 == 160 && (bt124.2.2.1 == 0 && (bt124.2.2.2 == 5)))) = true then ((length_Valid.f 2 2500).bind fun t128 => (if t128 = true then ((length_Valid.f 0 1).bind fun t129 => (some (!t129))) else (none))) else (none))) else (none))))) else (none)) = some r := H
        have A7 := Aside0.mk A70
        clear A70
        by_cases c8 : t121 = true
        · subst c8
          have H1 : ((length_Fixed.f 2 2500 (-1)).bind fun t122 => (if t122 = true then (none) else ((length_Limit.f 3 1 5 2 2500 640).bind fun t123 => (if t123 = 5 then ((length_Sides.f 1 5 2 2500 0 0 1 5 640).bind fun bt124 => (if (bt124.1 == 5 && (bt124.2.1 == 160 && (bt124.2.2.1 == 0 && (bt124.2.2.2 == 5)))) = true then ((length_Valid.f 2 2500).bind fun t128 => (if t128 = true then ((length_Valid.f 0 1).bind fun t129 => (some (!t129))) else (none))) else (none))) else (none))))) = some r := by rw [if_pos rfl] at H; exact H
          clear H
          have H := H1
          clear H1
          replace H := Option.bind_eq_some_iff.mp H
          obtain ⟨t122, A90, H⟩ := H
          replace H : (if t122 = true then (none) else ((length_Limit.f 3 1 5 2 2500 640).bind fun t123 => (if t123 = 5 then ((length_Sides.f 1 5 2 2500 0 0 1 5 640).bind fun bt124 => (if (bt124.1 == 5 && (bt124.2.1 == 160 && (bt124.2.2.1 == 0 && (bt124.2.2.2 == 5)))) = true then ((length_Valid.f 2 2500).bind fun t128 => (if t128 = true then ((length_Valid.f 0 1).bind fun t129 => (some (!t129))) else (none))) else (none))) else (none)))) = some r := H
          have A9 := Aside0.mk A90
          clear A90
          by_cases c10 : t122 = true
          · subst c10
            have H1 : (none) = some r := by rw [if_pos rfl] at H; exact H
            clear H
            have H := H1
            clear H1
            exact absurd H (by simp)
          · replace c10 := Bool.eq_false_iff.mpr c10
            subst c10
            have H1 : ((length_Limit.f 3 1 5 2 2500 640).bind fun t123 => (if t123 = 5 then ((length_Sides.f 1 5 2 2500 0 0 1 5 640).bind fun bt124 => (if (bt124.1 == 5 && (bt124.2.1 == 160 && (bt124.2.2.1 == 0 && (bt124.2.2.2 == 5)))) = true then ((length_Valid.f 2 2500).bind fun t128 => (if t128 = true then ((length_Valid.f 0 1).bind fun t129 => (some (!t129))) else (none))) else (none))) else (none))) = some r := by rw [if_neg (show ¬ (false = true) by decide)] at H; exact H
            clear H
            have H := H1
            clear H1
            replace H := Option.bind_eq_some_iff.mp H
            obtain ⟨t123, A110, H⟩ := H
            replace H : (if t123 = 5 then ((length_Sides.f 1 5 2 2500 0 0 1 5 640).bind fun bt124 => (if (bt124.1 == 5 && (bt124.2.1 == 160 && (bt124.2.2.1 == 0 && (bt124.2.2.2 == 5)))) = true then ((length_Valid.f 2 2500).bind fun t128 => (if t128 = true then ((length_Valid.f 0 1).bind fun t129 => (some (!t129))) else (none))) else (none))) else (none)) = some r := H
            have A11 := Aside0.mk A110
            clear A110
            by_cases c12 : t123 = 5
            · rw [if_pos c12] at H
              have c12b0 : (t123 == 5) = true := beq_iff_eq.mpr c12
              have c12b1 : (t123 != 5) = false := bne_eq_false_iff_eq.mpr c12
              clear c12
              replace H := Option.bind_eq_some_iff.mp H
              obtain ⟨⟨t124, t125, t126, t127⟩, A130, H⟩ := H
              replace H : (if (t124 == 5 && (t125 == 160 && (t126 == 0 && (t127 == 5)))) = true then ((length_Valid.f 2 2500).bind fun t128 => (if t128 = true then ((length_Valid.f 0 1).bind fun t129 => (some (!t129))) else (none))) else (none)) = some r := H
              have A13 := Aside0.mk A130
              clear A130
              by_cases c14 : (t124 == 5 && (t125 == 160 && (t126 == 0 && (t127 == 5)))) = true
              · rw [if_pos c14] at H
                have c14b0 : (t124 == 5 && (t125 == 160 && (t126 == 0 && (t127 == 5)))) = true := c14
                (try (have c14b1 : decide (t124 = 5 && (t125 == 160 && (t126 == 0 && (t127 == 5)))) = true := by simpa using c14))
                (try (have c14b2 : (t124 == 5 && (t125 == 160 && (t126 == 0 && (t127 == 5)))) = true := by simpa using c14))
                clear c14
                replace H := Option.bind_eq_some_iff.mp H
                obtain ⟨t128, A150, H⟩ := H
                replace H : (if t128 = true then ((length_Valid.f 0 1).bind fun t129 => (some (!t129))) else (none)) = some r := H
                have A15 := Aside0.mk A150
                clear A150
                by_cases c16 : t128 = true
                · subst c16
                  have H1 : ((length_Valid.f 0 1).bind fun t129 => (some (!t129))) = some r := by rw [if_pos rfl] at H; exact H
                  clear H
                  have H := H1
                  clear H1
                  replace H := Option.bind_eq_some_iff.mp H
                  obtain ⟨t129, A170, H⟩ := H
                  replace H : (some (!t129)) = some r := H
                  have A17 := Aside0.mk A170
                  clear A170
                  obtain rfl := Option.some.inj H
                  go_enter Try.func12, Try.ntmps12
                  go_wp2_with (first | ((with_reducible refine gate_dst (N := 1) rfl ?_); refine box_event ?hg (N := 1) ?hd (cs := #[.int .i64 0, .int .i64 0]) (t := 24) ?hr ?_; (case hd => rfl); (case hg => rfl); (case hr => first | (go_simp; done) | (go_simp; rfl)); intro gb116 hg w18 hbox hb; have n0_ := Aside0.mk (below_step (by repeat (first | (with_reducible first | exact HB.out | apply below_alloc | apply pw_below_drewN | apply below_drew1) | exact HB.out)) hb); have n1_ := Aside0.mk (hbox); have n2_ := Aside0.mk ((by rw [hg]; exact (below_size (by repeat (first | (with_reducible first | exact HB.out | apply below_alloc | apply pw_below_drewN | apply below_drew1) | exact HB.out))) : w.heap.size ≤ gb116)); have n3_ := Aside0.mk ((by rw [hg]; exact (below_size (by repeat (first | (with_reducible first | exact HB.out | apply below_alloc | apply pw_below_drewN | apply below_drew1) | exact HB.out))) : w.heap.size ≤ gb116)); clear HB; have HB := n0_; have BK116 := n1_; have GW116 := n2_; have GE116 := n3_; clear n0_ n1_ n2_ n3_; clear hb hbox hg; have hcz19_0 : w18.cell? ⟨gb116, 0, none⟩ = some (.int .i64 0) := (blk_cell BK116.out 0).trans rfl; have hcz19_1 : w18.cell? ⟨gb116, 1, none⟩ = some (.int .i64 0) := (blk_cell BK116.out 1).trans rfl; have hfz19_0 := blk_frozen BK116.out 0; have hfz19_1 := blk_frozen BK116.out 1) | ((with_reducible refine gate_dst (N := 2) rfl ?_); refine box_event ?hg (N := 2) ?hd (cs := #[.int .i64 0, .int .i64 0]) (t := 24) ?hr ?_; (case hd => rfl); (case hg => rfl); (case hr => first | (go_simp; done) | (go_simp; rfl)); intro gb117 hg w20 hbox hb; have n0_ := Aside0.mk (blk_below (g := gb116) (o := .cells #[.int .i64 2, .int .i64 2500] 24 (0, 0)) (by (with_reducible repeat (first | refine blk_drewN ?_ _ | refine blk_drew ?_ | refine blk_alloc ?_ _)); refine blk_put (cs := #[.int .i64 2, .int .i64 0]) ?_ 1 _ rfl; (with_reducible repeat (first | refine blk_drewN ?_ _ | refine blk_drew ?_ | refine blk_alloc ?_ _)); refine blk_put (cs := #[.int .i64 0, .int .i64 0]) ?_ 0 _ rfl; (with_reducible repeat (first | refine blk_drewN ?_ _ | refine blk_drew ?_ | refine blk_alloc ?_ _)); exact BK116.out) hb); have n1_ := Aside0.mk (below_step (by repeat (first | (with_reducible first | exact HB.out | apply below_alloc | apply pw_below_drewN | apply below_drew1 | refine below_set ?_ GE116.out) | exact HB.out)) hb); have n2_ := Aside0.mk (hbox); have n3_ := Aside0.mk ((by rw [hg]; exact (below_size (by repeat (first | (with_reducible first | exact HB.out | apply below_alloc | apply pw_below_drewN | apply below_drew1 | refine below_set ?_ GE116.out) | exact HB.out))) : w.heap.size ≤ gb117)); have n4_ := Aside0.mk ((by rw [hg]; exact (below_size (by repeat (first | (with_reducible first | exact HB.out | apply below_alloc | apply pw_below_drewN | apply below_drew1 | refine below_set ?_ GE116.out) | exact HB.out))) : w.heap.size ≤ gb117)); have n5_ := Aside0.mk ((by rw [hg]; exact Nat.ne_of_lt (blk_lt (g := gb116) (o := .cells #[.int .i64 2, .int .i64 2500] 24 (0, 0)) (by (with_reducible repeat (first | refine blk_drewN ?_ _ | refine blk_drew ?_ | refine blk_alloc ?_ _)); refine blk_put (cs := #[.int .i64 2, .int .i64 0]) ?_ 1 _ rfl; (with_reducible repeat (first | refine blk_drewN ?_ _ | refine blk_drew ?_ | refine blk_alloc ?_ _)); refine blk_put (cs := #[.int .i64 0, .int .i64 0]) ?_ 0 _ rfl; (with_reducible repeat (first | refine blk_drewN ?_ _ | refine blk_drew ?_ | refine blk_alloc ?_ _)); exact BK116.out)) : gb116 ≠ gb117)); have n6_ := Aside0.mk ((by rw [hg]; exact Nat.ne_of_gt (blk_lt (g := gb116) (o := .cells #[.int .i64 2, .int .i64 2500] 24 (0, 0)) (by (with_reducible repeat (first | refine blk_drewN ?_ _ | refine blk_drew ?_ | refine blk_alloc ?_ _)); refine blk_put (cs := #[.int .i64 2, .int .i64 0]) ?_ 1 _ rfl; (with_reducible repeat (first | refine blk_drewN ?_ _ | refine blk_drew ?_ | refine blk_alloc ?_ _)); refine blk_put (cs := #[.int .i64 0, .int .i64 0]) ?_ 0 _ rfl; (with_reducible repeat (first | refine blk_drewN ?_ _ | refine blk_drew ?_ | refine blk_alloc ?_ _)); exact BK116.out)) : gb117 ≠ gb116)); clear BK116; clear HB; have BK116 := n0_; have HB := n1_; have BK117 := n2_; have GW117 := n3_; have GE117 := n4_; have NB116_117 := n5_; have NB117_116 := n6_; clear n0_ n1_ n2_ n3_ n4_ n5_ n6_; clear hb hbox hg; have hnb21 := NB117_116.out; have hnc21 := NB116_117.out; have hcz22_0 : w20.cell? ⟨gb117, 0, none⟩ = some (.int .i64 0) := (blk_cell BK117.out 0).trans rfl; have hcz22_1 : w20.cell? ⟨gb117, 1, none⟩ = some (.int .i64 0) := (blk_cell BK117.out 1).trans rfl; have hfz22_0 := blk_frozen BK117.out 0; have hfz22_1 := blk_frozen BK117.out 1; have hcz23_0 : w20.cell? ⟨gb116, 0, none⟩ = some (.int .i64 2) := (blk_cell BK116.out 0).trans rfl; have hcz23_1 : w20.cell? ⟨gb116, 1, none⟩ = some (.int .i64 2500) := (blk_cell BK116.out 1).trans rfl; have hfz23_0 := blk_frozen BK116.out 0; have hfz23_1 := blk_frozen BK116.out 1) | ((with_reducible refine gate_callee (f := 13) rfl ?_); refine goesL_ (some 6) rfl rfl Try.func13 (by kernel_rfl) rfl #[.agg #[.int .i64 2, .int .i64 2500], .int .i64 640, .int .i64 9] rfl (by (try simp only [List.map_toArray, List.map_cons, List.map_nil]); first | done | rfl | (simp only [List.length_drop, List.length_take]; rfl)) ?_; (with_reducible refine (length_Of.calls 2 2500 640 9 t118 _ A1.out).mono ?_); rintro e w24 ⟨rfl, hb⟩; refine ⟨_, rfl, ?_⟩; have n0_ := Aside0.mk (blk_below (g := gb116) (o := .cells #[.int .i64 2, .int .i64 2500] 24 (0, 0)) (by (with_reducible repeat (first | refine blk_drewN ?_ _ | refine blk_drew ?_ | refine blk_alloc ?_ _)); refine blk_far ?_ NB116_117.out _; (with_reducible repeat (first | refine blk_drewN ?_ _ | refine blk_drew ?_ | refine blk_alloc ?_ _)); refine blk_far ?_ NB116_117.out _; (with_reducible repeat (first | refine blk_drewN ?_ _ | refine blk_drew ?_ | refine blk_alloc ?_ _)); exact BK116.out) hb); have n1_ := Aside0.mk (blk_below (g := gb117) (o := .cells #[.int .i64 1, .int .i64 5] 24 (0, 0)) (by (with_reducible repeat (first | refine blk_drewN ?_ _ | refine blk_drew ?_ | refine blk_alloc ?_ _)); refine blk_put (cs := #[.int .i64 1, .int .i64 0]) ?_ 1 _ rfl; (with_reducible repeat (first | refine blk_drewN ?_ _ | refine blk_drew ?_ | refine blk_alloc ?_ _)); refine blk_put (cs := #[.int .i64 0, .int .i64 0]) ?_ 0 _ rfl; (with_reducible repeat (first | refine blk_drewN ?_ _ | refine blk_drew ?_ | refine blk_alloc ?_ _)); exact BK117.out) hb); have n2_ := Aside0.mk (below_step (by repeat (first | (with_reducible first | exact HB.out | apply below_alloc | apply pw_below_drewN | apply below_drew1 | refine below_set ?_ GE116.out | refine below_set ?_ GE117.out) | exact HB.out)) hb); clear BK116; clear BK117; clear HB; have BK116 := n0_; have BK117 := n1_; have HB := n2_; clear n0_ n1_ n2_; (try clear hb); (try clear hb2); (try clear hk); (try clear hi); have hcz25_0 : w24.cell? ⟨gb116, 0, none⟩ = some (.int .i64 2) := (blk_cell BK116.out 0).trans rfl; have hcz25_1 : w24.cell? ⟨gb116, 1, none⟩ = some (.int .i64 2500) := (blk_cell BK116.out 1).trans rfl; have hfz25_0 := blk_frozen BK116.out 0; have hfz25_1 := blk_frozen BK116.out 1) | (go_at_call 13; (with_reducible refine (length_Of.calls 2 2500 (-1) 9 t119 _ A3.out).mono ?_); rintro e w26 ⟨rfl, hb⟩; have n0_ := Aside0.mk (blk_below (g := gb116) (o := .cells #[.int .i64 2, .int .i64 2500] 24 (0, 0)) (by (with_reducible repeat (first | refine blk_drewN ?_ _ | refine blk_drew ?_ | refine blk_alloc ?_ _)); exact BK116.out) hb); have n1_ := Aside0.mk (blk_below (g := gb117) (o := .cells #[.int .i64 1, .int .i64 5] 24 (0, 0)) (by (with_reducible repeat (first | refine blk_drewN ?_ _ | refine blk_drew ?_ | refine blk_alloc ?_ _)); exact BK117.out) hb); have n2_ := Aside0.mk (below_step (by repeat (first | (with_reducible first | exact HB.out | apply below_alloc | apply pw_below_drewN | apply below_drew1 | refine below_set ?_ GE116.out | refine below_set ?_ GE117.out) | exact HB.out)) hb); clear BK116; clear BK117; clear HB; have BK116 := n0_; have BK117 := n1_; have HB := n2_; clear n0_ n1_ n2_; (try clear hb); (try clear hb2); (try clear hk); (try clear hi)) | (go_at_call 13; (with_reducible refine (length_Of.calls 0 0 640 7 t120 _ A5.out).mono ?_); rintro e w27 ⟨rfl, hb⟩; have n0_ := Aside0.mk (blk_below (g := gb116) (o := .cells #[.int .i64 2, .int .i64 2500] 24 (0, 0)) (by (with_reducible repeat (first | refine blk_drewN ?_ _ | refine blk_drew ?_ | refine blk_alloc ?_ _)); exact BK116.out) hb); have n1_ := Aside0.mk (blk_below (g := gb117) (o := .cells #[.int .i64 1, .int .i64 5] 24 (0, 0)) (by (with_reducible repeat (first | refine blk_drewN ?_ _ | refine blk_drew ?_ | refine blk_alloc ?_ _)); exact BK117.out) hb); have n2_ := Aside0.mk (below_step (by repeat (first | (with_reducible first | exact HB.out | apply below_alloc | apply pw_below_drewN | apply below_drew1 | refine below_set ?_ GE116.out | refine below_set ?_ GE117.out) | exact HB.out)) hb); clear BK116; clear BK117; clear HB; have BK116 := n0_; have BK117 := n1_; have HB := n2_; clear n0_ n1_ n2_; (try clear hb); (try clear hb2); (try clear hk); (try clear hi); have hcz28_0 : w27.cell? ⟨gb117, 0, none⟩ = some (.int .i64 1) := (blk_cell BK117.out 0).trans rfl; have hcz28_1 : w27.cell? ⟨gb117, 1, none⟩ = some (.int .i64 5) := (blk_cell BK117.out 1).trans rfl; have hfz28_0 := blk_frozen BK117.out 0; have hfz28_1 := blk_frozen BK117.out 1) | (go_at_call 15; (with_reducible refine (length_Fixed.calls 1 5 (-1) true _ A7.out).mono ?_); rintro e w29 ⟨rfl, hb⟩; have n0_ := Aside0.mk (blk_below (g := gb116) (o := .cells #[.int .i64 2, .int .i64 2500] 24 (0, 0)) (by (with_reducible repeat (first | refine blk_drewN ?_ _ | refine blk_drew ?_ | refine blk_alloc ?_ _)); exact BK116.out) hb); have n1_ := Aside0.mk (blk_below (g := gb117) (o := .cells #[.int .i64 1, .int .i64 5] 24 (0, 0)) (by (with_reducible repeat (first | refine blk_drewN ?_ _ | refine blk_drew ?_ | refine blk_alloc ?_ _)); exact BK117.out) hb); have n2_ := Aside0.mk (below_step (by repeat (first | (with_reducible first | exact HB.out | apply below_alloc | apply pw_below_drewN | apply below_drew1 | refine below_set ?_ GE116.out | refine below_set ?_ GE117.out) | exact HB.out)) hb); clear BK116; clear BK117; clear HB; have BK116 := n0_; have BK117 := n1_; have HB := n2_; clear n0_ n1_ n2_; (try clear hb); (try clear hb2); (try clear hk); (try clear hi); have hcz30_0 : w29.cell? ⟨gb116, 0, none⟩ = some (.int .i64 2) := (blk_cell BK116.out 0).trans rfl; have hcz30_1 : w29.cell? ⟨gb116, 1, none⟩ = some (.int .i64 2500) := (blk_cell BK116.out 1).trans rfl; have hfz30_0 := blk_frozen BK116.out 0; have hfz30_1 := blk_frozen BK116.out 1) | (go_at_call 15; (with_reducible refine (length_Fixed.calls 2 2500 (-1) false _ A9.out).mono ?_); rintro e w31 ⟨rfl, hb⟩; have n0_ := Aside0.mk (blk_below (g := gb116) (o := .cells #[.int .i64 2, .int .i64 2500] 24 (0, 0)) (by (with_reducible repeat (first | refine blk_drewN ?_ _ | refine blk_drew ?_ | refine blk_alloc ?_ _)); exact BK116.out) hb); have n1_ := Aside0.mk (blk_below (g := gb117) (o := .cells #[.int .i64 1, .int .i64 5] 24 (0, 0)) (by (with_reducible repeat (first | refine blk_drewN ?_ _ | refine blk_drew ?_ | refine blk_alloc ?_ _)); exact BK117.out) hb); have n2_ := Aside0.mk (below_step (by repeat (first | (with_reducible first | exact HB.out | apply below_alloc | apply pw_below_drewN | apply below_drew1 | refine below_set ?_ GE116.out | refine below_set ?_ GE117.out) | exact HB.out)) hb); clear BK116; clear BK117; clear HB; have BK116 := n0_; have BK117 := n1_; have HB := n2_; clear n0_ n1_ n2_; (try clear hb); (try clear hb2); (try clear hk); (try clear hi); have hcz32_0 : w31.cell? ⟨gb117, 0, none⟩ = some (.int .i64 1) := (blk_cell BK117.out 0).trans rfl; have hcz32_1 : w31.cell? ⟨gb117, 1, none⟩ = some (.int .i64 5) := (blk_cell BK117.out 1).trans rfl; have hfz32_0 := blk_frozen BK117.out 0; have hfz32_1 := blk_frozen BK117.out 1; have hcz33_0 : w31.cell? ⟨gb116, 0, none⟩ = some (.int .i64 2) := (blk_cell BK116.out 0).trans rfl; have hcz33_1 : w31.cell? ⟨gb116, 1, none⟩ = some (.int .i64 2500) := (blk_cell BK116.out 1).trans rfl; have hfz33_0 := blk_frozen BK116.out 0; have hfz33_1 := blk_frozen BK116.out 1) | (go_at_call 21; (with_reducible refine (length_Limit.calls 3 1 5 2 2500 640 t123 _ A11.out).mono ?_); rintro e w34 ⟨rfl, hb⟩; have n0_ := Aside0.mk (blk_below (g := gb116) (o := .cells #[.int .i64 2, .int .i64 2500] 24 (0, 0)) (by (with_reducible repeat (first | refine blk_drewN ?_ _ | refine blk_drew ?_ | refine blk_alloc ?_ _)); exact BK116.out) hb); have n1_ := Aside0.mk (blk_below (g := gb117) (o := .cells #[.int .i64 1, .int .i64 5] 24 (0, 0)) (by (with_reducible repeat (first | refine blk_drewN ?_ _ | refine blk_drew ?_ | refine blk_alloc ?_ _)); exact BK117.out) hb); have n2_ := Aside0.mk (below_step (by repeat (first | (with_reducible first | exact HB.out | apply below_alloc | apply pw_below_drewN | apply below_drew1 | refine below_set ?_ GE116.out | refine below_set ?_ GE117.out) | exact HB.out)) hb); clear BK116; clear BK117; clear HB; have BK116 := n0_; have BK117 := n1_; have HB := n2_; clear n0_ n1_ n2_; (try clear hb); (try clear hb2); (try clear hk); (try clear hi); have hcz35_0 : w34.cell? ⟨gb117, 0, none⟩ = some (.int .i64 1) := (blk_cell BK117.out 0).trans rfl; have hcz35_1 : w34.cell? ⟨gb117, 1, none⟩ = some (.int .i64 5) := (blk_cell BK117.out 1).trans rfl; have hfz35_0 := blk_frozen BK117.out 0; have hfz35_1 := blk_frozen BK117.out 1; have hcz36_0 : w34.cell? ⟨gb116, 0, none⟩ = some (.int .i64 2) := (blk_cell BK116.out 0).trans rfl; have hcz36_1 : w34.cell? ⟨gb116, 1, none⟩ = some (.int .i64 2500) := (blk_cell BK116.out 1).trans rfl; have hfz36_0 := blk_frozen BK116.out 0; have hfz36_1 := blk_frozen BK116.out 1) | (go_at_call 19; (with_reducible refine (length_Sides.calls 1 5 2 2500 0 0 1 5 640 t124 t125 t126 t127 _ A13.out).mono ?_); rintro e w37 ⟨rfl, hb⟩; have n0_ := Aside0.mk (blk_below (g := gb116) (o := .cells #[.int .i64 2, .int .i64 2500] 24 (0, 0)) (by (with_reducible repeat (first | refine blk_drewN ?_ _ | refine blk_drew ?_ | refine blk_alloc ?_ _)); exact BK116.out) hb); have n1_ := Aside0.mk (blk_below (g := gb117) (o := .cells #[.int .i64 1, .int .i64 5] 24 (0, 0)) (by (with_reducible repeat (first | refine blk_drewN ?_ _ | refine blk_drew ?_ | refine blk_alloc ?_ _)); exact BK117.out) hb); have n2_ := Aside0.mk (below_step (by repeat (first | (with_reducible first | exact HB.out | apply below_alloc | apply pw_below_drewN | apply below_drew1 | refine below_set ?_ GE116.out | refine below_set ?_ GE117.out) | exact HB.out)) hb); clear BK116; clear BK117; clear HB; have BK116 := n0_; have BK117 := n1_; have HB := n2_; clear n0_ n1_ n2_; (try clear hb); (try clear hb2); (try clear hk); (try clear hi); have hcz38_0 : w37.cell? ⟨gb116, 0, none⟩ = some (.int .i64 2) := (blk_cell BK116.out 0).trans rfl; have hcz38_1 : w37.cell? ⟨gb116, 1, none⟩ = some (.int .i64 2500) := (blk_cell BK116.out 1).trans rfl; have hfz38_0 := blk_frozen BK116.out 0; have hfz38_1 := blk_frozen BK116.out 1) | (go_at_call 17; (with_reducible refine (length_Valid.calls 2 2500 true _ A15.out).mono ?_); rintro e w39 ⟨rfl, hb⟩; have n0_ := Aside0.mk (blk_below (g := gb116) (o := .cells #[.int .i64 2, .int .i64 2500] 24 (0, 0)) (by (with_reducible repeat (first | refine blk_drewN ?_ _ | refine blk_drew ?_ | refine blk_alloc ?_ _)); exact BK116.out) hb); have n1_ := Aside0.mk (blk_below (g := gb117) (o := .cells #[.int .i64 1, .int .i64 5] 24 (0, 0)) (by (with_reducible repeat (first | refine blk_drewN ?_ _ | refine blk_drew ?_ | refine blk_alloc ?_ _)); exact BK117.out) hb); have n2_ := Aside0.mk (below_step (by repeat (first | (with_reducible first | exact HB.out | apply below_alloc | apply pw_below_drewN | apply below_drew1 | refine below_set ?_ GE116.out | refine below_set ?_ GE117.out) | exact HB.out)) hb); clear BK116; clear BK117; clear HB; have BK116 := n0_; have BK117 := n1_; have HB := n2_; clear n0_ n1_ n2_; (try clear hb); (try clear hb2); (try clear hk); (try clear hi)) | (go_at_call 17; (with_reducible refine (length_Valid.calls 0 1 t129 _ A17.out).mono ?_); rintro e w40 ⟨rfl, hb⟩; have n0_ := Aside0.mk (blk_below (g := gb116) (o := .cells #[.int .i64 2, .int .i64 2500] 24 (0, 0)) (by (with_reducible repeat (first | refine blk_drewN ?_ _ | refine blk_drew ?_ | refine blk_alloc ?_ _)); exact BK116.out) hb); have n1_ := Aside0.mk (blk_below (g := gb117) (o := .cells #[.int .i64 1, .int .i64 5] 24 (0, 0)) (by (with_reducible repeat (first | refine blk_drewN ?_ _ | refine blk_drew ?_ | refine blk_alloc ?_ _)); exact BK117.out) hb); have n2_ := Aside0.mk (below_step (by repeat (first | (with_reducible first | exact HB.out | apply below_alloc | apply pw_below_drewN | apply below_drew1 | refine below_set ?_ GE116.out | refine below_set ?_ GE117.out) | exact HB.out)) hb); clear BK116; clear BK117; clear HB; have BK116 := n0_; have BK117 := n1_; have HB := n2_; clear n0_ n1_ n2_; (try clear hb); (try clear hb2); (try clear hk); (try clear hi)))
                  go_ret
                  exact ⟨by first | rfl | (simp [errW_none, errW_some] <;> rfl) | (simp [*, errW_none, errW_some] <;> rfl), by repeat (first | (with_reducible first | exact HB.out | apply below_alloc | apply pw_below_drewN | apply below_drew1 | refine below_set ?_ GE116.out | refine below_set ?_ GE117.out) | exact HB.out)⟩
                · replace c16 := Bool.eq_false_iff.mpr c16
                  subst c16
                  have H1 : (none) = some r := by rw [if_neg (show ¬ (false = true) by decide)] at H; exact H
                  clear H
                  have H := H1
                  clear H1
                  exact absurd H (by simp)
              · rw [if_neg c14] at H
                exact absurd H (by simp)
            · rw [if_neg c12] at H
              exact absurd H (by simp)
        · replace c8 := Bool.eq_false_iff.mpr c8
          subst c8
          have H1 : (none) = some r := by rw [if_neg (show ¬ (false = true) by decide)] at H; exact H
          clear H
          have H := H1
          clear H1
          exact absurd H (by simp)
      · rw [if_neg c6] at H
        exact absurd H (by simp)
    · rw [if_neg c4] at H
      exact absurd H (by simp)
  · rw [if_neg c2] at H
    exact absurd H (by simp)

end Go.Proofs.Ytnmcefpnpfaklaa.V
