/- What the functions of this seat answer, as plain Lean functions, and that the calls come to just that (written by a program of this repo, over the kit's printer; Lean checks it). -/
import Derived.Test.YtnmcefpnpfaklabVx0
import Derived.Test.YtnmcefpnpfaklabVx4
import Derived.Test.YtnmcefpnpfaklabVx8
import Derived.Test.YtnmcefpnpfaklabVx9
import Derived.Test.YtnmcefpnpfaklabVx10
namespace Go.Proofs.Ytnmcefpnpfaklab.V
open Go.RowKit Go.Proofs.Ytnmcefpnpfaklab.Flt Go.Proofs.YtnmcefpnpfaklabW.PrintWords Go.Proofs.YtnmcefpnpfaklabW.PrintLast Go.Proofs.YtnmcefpnpfaklabW.PrintMore
attribute [local go_sem high] run_eql_vpt2 run_neq_vpt2 eqGuard_vpt2 vpt2_zero run_add_vpt2
attribute [local go_sem] max2_int min2_int max_two min_two max_three min_three max_four min_four   -- for this text's walks alone
set_option linter.unusedVariables false
set_option linter.unusedSimpArgs false

/-! ### valancelaw10_works: function 15 -/
def valancelaw10_works.f (k : Nat)  : Option (Bool) := (stick_Sides.f 1 5 0 0 0 0 0 0 10 10).bind fun bt141 => ((stick_Both.f 0 10 4 4 0 0 9 100 0 30 9 50 bt141.1 bt141.2.1 bt141.2.2.1 bt141.2.2.2.1 bt141.2.2.2.2.1 bt141.2.2.2.2.2.1 bt141.2.2.2.2.2.2.1 bt141.2.2.2.2.2.2.2).bind fun t150 => ((stick_Shift.f k 10 14 0 100 30 80 true 5 false 0).bind fun t151 => (if t151 = 25 then (if bt141.1 = true then (if bt141.2.1 = 5 then (if bt141.2.2.1 = true then (none) else ((point_Of.f 0 25).bind fun t152 => (some (veq2 t150 t152)))) else (none)) else (none)) else (none))))
theorem valancelaw10_works.mono : ∀ k, LeO (valancelaw10_works.f k ) (valancelaw10_works.f (k + 1) ) := by
  intro  k
  unfold valancelaw10_works.f
  repeat' first
      | (with_reducible exact stick_Shift.mono _ _ _ _ _ _ _ _ _ _ _)
      | (with_reducible exact LeO.refl _)
      | (with_reducible exact LeO.none _)
      | (with_reducible refine LeO.ite ?_ ?_)
      | (with_reducible refine LeO.bind ?_ (fun _ => ?_))
      | exact stick_Shift.mono _ _ _ _ _ _ _ _ _ _ _
      | exact LeO.none _
      | refine LeO.ite ?_ ?_
      | refine LeO.bind ?_ (fun _ => ?_)
set_option maxHeartbeats 8000000 in
set_option maxRecDepth 100000 in
theorem valancelaw10_works.calls (k : Nat)  (r : Bool) (w : World) (h : valancelaw10_works.f k  = some r) :
    Calls Try.prog 15 #[] w fun e w' => e = .returned (.bool r) ∧ Below w.heap.size w w' := by
  have hu36 := Try.underlying36
  have hu37 := Try.underlying37
  have hu38 := Try.underlying38
  have hu33 := Try.underlying33
  have hu23 := Try.underlying23
  have hu25 := Try.underlying25
  have HB := Aside0.mk (Below.refl w.heap.size w)
  have H : ((stick_Sides.f 1 5 0 0 0 0 0 0 10 10).bind fun bt141 => ((stick_Both.f 0 10 4 4 0 0 9 100 0 30 9 50 bt141.1 bt141.2.1 bt141.2.2.1 bt141.2.2.2.1 bt141.2.2.2.2.1 bt141.2.2.2.2.2.1 bt141.2.2.2.2.2.2.1 bt141.2.2.2.2.2.2.2).bind fun t150 => ((stick_Shift.f k 10 14 0 100 30 80 true 5 false 0).bind fun t151 => (if t151 = 25 then (if bt141.1 = true then (if bt141.2.1 = 5 then (if bt141.2.2.1 = true then (none) else ((point_Of.f 0 25).bind fun t152 => (some (veq2 t150 t152)))) else (none)) else (none)) else (none))))) = some r := h
  clear h
  replace H := Option.bind_eq_some_iff.mp H
  obtain ⟨⟨t141, t142, t143, t144, t145, t146, t147, t148⟩, A10, H⟩ := H
  replace H : ((stick_Both.f 0 10 4 4 0 0 9 100 0 30 9 50 t141 t142 t143 t144 t145 t146 t147 t148).bind fun t150 => ((stick_Shift.f k 10 14 0 100 30 80 true 5 false 0).bind fun t151 => (if t151 = 25 then (if t141 = true then (if t142 = 5 then (if t143 = true then (none) else ((point_Of.f 0 25).bind fun t152 => (some (veq2 t150 t152)))) else (none)) else (none)) else (none)))) = some r := H
  have A1 := Aside0.mk A10
  clear A10
  replace H := Option.bind_eq_some_iff.mp H
  obtain ⟨t150, A20, H⟩ := H
  replace H : ((stick_Shift.f k 10 14 0 100 30 80 true 5 false 0).bind fun t151 => (if t151 = 25 then (if t141 = true then (if t142 = 5 then (if t143 = true then (none) else ((point_Of.f 0 25).bind fun t152 => (some (veq2 t150 t152)))) else (none)) else (none)) else (none))) = some r := H
  have A2 := Aside0.mk A20
  clear A20
  replace H := Option.bind_eq_some_iff.mp H
  obtain ⟨t151, A30, H⟩ := H
  replace H : (if t151 = 25 then (if t141 = true then (if t142 = 5 then (if t143 = true then (none) else ((point_Of.f 0 25).bind fun t152 => (some (veq2 t150 t152)))) else (none)) else (none)) else (none)) = some r := H
  have A3 := Aside0.mk A30
  clear A30
  by_cases c4 : t151 = 25
  · rw [if_pos c4] at H
    have c4b0 : (t151 == 25) = true := beq_iff_eq.mpr c4
    have c4b1 : (t151 != 25) = false := bne_eq_false_iff_eq.mpr c4
    clear c4
    by_cases c5 : t141 = true
    · subst c5
      have H1 : (if t142 = 5 then (if t143 = true then (none) else ((point_Of.f 0 25).bind fun t152 => (some (veq2 t150 t152)))) else (none)) = some r := by rw [if_pos rfl] at H; exact H
      clear H
      have H := H1
      clear H1
      by_cases c6 : t142 = 5
      · rw [if_pos c6] at H
        have c6b0 : (t142 == 5) = true := beq_iff_eq.mpr c6
        have c6b1 : (t142 != 5) = false := bne_eq_false_iff_eq.mpr c6
        clear c6
        by_cases c7 : t143 = true
        · subst c7
          have H1 : (none) = some r := by rw [if_pos rfl] at H; exact H
          clear H
          have H := H1
          clear H1
          exact absurd H (by simp)
        · replace c7 := Bool.eq_false_iff.mpr c7
          subst c7
          have H1 : ((point_Of.f 0 25).bind fun t152 => (some (veq2 t150 t152))) = some r := by rw [if_neg (show ¬ (false = true) by decide)] at H; exact H
          clear H
          have H := H1
          clear H1
          replace H := Option.bind_eq_some_iff.mp H
          obtain ⟨t152, A80, H⟩ := H
          replace H : (some (veq2 t150 t152)) = some r := H
          have A8 := Aside0.mk A80
          clear A80
          obtain rfl := Option.some.inj H
          go_enter Try.func15, Try.ntmps15
          go_wp2_with (first | ((with_reducible refine gate_callee (f := 19) rfl ?_); refine goesL_ (some 5) rfl rfl Try.func19 (by kernel_rfl) rfl #[.agg #[.int .i64 1, .int .i64 5, .int .i64 0, .int .i64 0, .int .i64 0, .int .i64 0, .int .i64 0, .int .i64 0], .int .i64 10, .int .i64 10] rfl (by (try simp only [List.map_toArray, List.map_cons, List.map_nil]); first | done | rfl | (simp only [List.length_drop, List.length_take]; rfl)) ?_; (with_reducible refine (stick_Sides.calls 1 5 0 0 0 0 0 0 10 10 true t142 false t144 t145 t146 t147 t148 _ A1.out).mono ?_); rintro e w9 ⟨rfl, hb⟩; refine ⟨_, rfl, ?_⟩; have n0_ := Aside0.mk (below_step (by repeat (first | (with_reducible first | exact HB.out | apply below_alloc | apply pw_below_drewN | apply below_drew1) | exact HB.out)) hb); clear HB; have HB := n0_; clear n0_; (try clear hb); (try clear hb2); (try clear hk); (try clear hi)) | ((with_reducible refine gate_dst (N := 1) rfl ?_); refine box_event ?hg (N := 1) ?hd (cs := #[.bool false, .int .i64 0, .bool false, .int .i64 0, .bool false, .int .i64 0, .bool false, .int .i64 0]) (t := 38) ?hr ?_; (case hd => rfl); (case hg => rfl); (case hr => first | (go_simp; done) | (go_simp; rfl)); intro gb149 hg w10 hbox hb; have n0_ := Aside0.mk (below_step (by repeat (first | (with_reducible first | exact HB.out | apply below_alloc | apply pw_below_drewN | apply below_drew1) | exact HB.out)) hb); have n1_ := Aside0.mk (hbox); have n2_ := Aside0.mk ((by rw [hg]; exact (below_size (by repeat (first | (with_reducible first | exact HB.out | apply below_alloc | apply pw_below_drewN | apply below_drew1) | exact HB.out))) : w.heap.size ≤ gb149)); have n3_ := Aside0.mk ((by rw [hg]; exact (below_size (by repeat (first | (with_reducible first | exact HB.out | apply below_alloc | apply pw_below_drewN | apply below_drew1) | exact HB.out))) : w.heap.size ≤ gb149)); clear HB; have HB := n0_; have BK149 := n1_; have GW149 := n2_; have GE149 := n3_; clear n0_ n1_ n2_ n3_; clear hb hbox hg; have hcz11_0 : w10.cell? ⟨gb149, 0, none⟩ = some (.bool false) := (blk_cell BK149.out 0).trans rfl; have hcz11_1 : w10.cell? ⟨gb149, 1, none⟩ = some (.int .i64 0) := (blk_cell BK149.out 1).trans rfl; have hcz11_2 : w10.cell? ⟨gb149, 2, none⟩ = some (.bool false) := (blk_cell BK149.out 2).trans rfl; have hcz11_3 : w10.cell? ⟨gb149, 3, none⟩ = some (.int .i64 0) := (blk_cell BK149.out 3).trans rfl; have hcz11_4 : w10.cell? ⟨gb149, 4, none⟩ = some (.bool false) := (blk_cell BK149.out 4).trans rfl; have hcz11_5 : w10.cell? ⟨gb149, 5, none⟩ = some (.int .i64 0) := (blk_cell BK149.out 5).trans rfl; have hcz11_6 : w10.cell? ⟨gb149, 6, none⟩ = some (.bool false) := (blk_cell BK149.out 6).trans rfl; have hcz11_7 : w10.cell? ⟨gb149, 7, none⟩ = some (.int .i64 0) := (blk_cell BK149.out 7).trans rfl; have hfz11_0 := blk_frozen BK149.out 0; have hfz11_1 := blk_frozen BK149.out 1; have hfz11_2 := blk_frozen BK149.out 2; have hfz11_3 := blk_frozen BK149.out 3; have hfz11_4 := blk_frozen BK149.out 4; have hfz11_5 := blk_frozen BK149.out 5; have hfz11_6 := blk_frozen BK149.out 6; have hfz11_7 := blk_frozen BK149.out 7) | ((with_reducible refine gate_callee (f := 21) rfl ?_); refine goesL_ (some 10) rfl rfl Try.func21 (by kernel_rfl) rfl #[.agg #[.int .i64 0, .int .i64 10, .int .i64 4, .int .i64 4], .agg #[.int .i64 0, .int .i64 0, .int .i64 9, .int .i64 100], .agg #[.int .i64 0, .int .i64 30, .int .i64 9, .int .i64 50], .agg #[.bool true, .int .i64 t142, .bool false, .int .i64 t144, .bool t145, .int .i64 t146, .bool t147, .int .i64 t148]] rfl (by (try simp only [List.map_toArray, List.map_cons, List.map_nil]); first | done | rfl | (simp only [List.length_drop, List.length_take]; rfl)) ?_; (with_reducible refine (stick_Both.calls 0 10 4 4 0 0 9 100 0 30 9 50 true t142 false t144 t145 t146 t147 t148 t150 _ A2.out).mono ?_); rintro e w12 ⟨rfl, hb⟩; refine ⟨_, rfl, ?_⟩; have n0_ := Aside0.mk (blk_below (g := gb149) (o := .cells #[.bool true, .int .i64 t142, .bool false, .int .i64 t144, .bool t145, .int .i64 t146, .bool t147, .int .i64 t148] 38 (0, 0)) (by (with_reducible repeat (first | refine blk_drewN ?_ _ | refine blk_drew ?_ | refine blk_alloc ?_ _)); refine blk_put (cs := #[.bool true, .int .i64 t142, .bool false, .int .i64 t144, .bool t145, .int .i64 t146, .bool t147, .int .i64 0]) ?_ 7 _ rfl; (with_reducible repeat (first | refine blk_drewN ?_ _ | refine blk_drew ?_ | refine blk_alloc ?_ _)); refine blk_put (cs := #[.bool true, .int .i64 t142, .bool false, .int .i64 t144, .bool t145, .int .i64 t146, .bool false, .int .i64 0]) ?_ 6 _ rfl; (with_reducible repeat (first | refine blk_drewN ?_ _ | refine blk_drew ?_ | refine blk_alloc ?_ _)); refine blk_put (cs := #[.bool true, .int .i64 t142, .bool false, .int .i64 t144, .bool t145, .int .i64 0, .bool false, .int .i64 0]) ?_ 5 _ rfl; (with_reducible repeat (first | refine blk_drewN ?_ _ | refine blk_drew ?_ | refine blk_alloc ?_ _)); refine blk_put (cs := #[.bool true, .int .i64 t142, .bool false, .int .i64 t144, .bool false, .int .i64 0, .bool false, .int .i64 0]) ?_ 4 _ rfl; (with_reducible repeat (first | refine blk_drewN ?_ _ | refine blk_drew ?_ | refine blk_alloc ?_ _)); refine blk_put (cs := #[.bool true, .int .i64 t142, .bool false, .int .i64 0, .bool false, .int .i64 0, .bool false, .int .i64 0]) ?_ 3 _ rfl; (with_reducible repeat (first | refine blk_drewN ?_ _ | refine blk_drew ?_ | refine blk_alloc ?_ _)); refine blk_put (cs := #[.bool true, .int .i64 t142, .bool false, .int .i64 0, .bool false, .int .i64 0, .bool false, .int .i64 0]) ?_ 2 _ rfl; (with_reducible repeat (first | refine blk_drewN ?_ _ | refine blk_drew ?_ | refine blk_alloc ?_ _)); refine blk_put (cs := #[.bool true, .int .i64 0, .bool false, .int .i64 0, .bool false, .int .i64 0, .bool false, .int .i64 0]) ?_ 1 _ rfl; (with_reducible repeat (first | refine blk_drewN ?_ _ | refine blk_drew ?_ | refine blk_alloc ?_ _)); refine blk_put (cs := #[.bool false, .int .i64 0, .bool false, .int .i64 0, .bool false, .int .i64 0, .bool false, .int .i64 0]) ?_ 0 _ rfl; (with_reducible repeat (first | refine blk_drewN ?_ _ | refine blk_drew ?_ | refine blk_alloc ?_ _)); exact BK149.out) hb); have n1_ := Aside0.mk (below_step (by repeat (first | (with_reducible first | exact HB.out | apply below_alloc | apply pw_below_drewN | apply below_drew1 | refine below_set ?_ GE149.out) | exact HB.out)) hb); clear BK149; clear HB; have BK149 := n0_; have HB := n1_; clear n0_ n1_; (try clear hb); (try clear hb2); (try clear hk); (try clear hi)) | ((with_reducible refine gate_callee (f := 16) rfl ?_); refine goesL_ (some 16) rfl rfl Try.func16 (by kernel_rfl) rfl #[.agg #[.int .i64 10, .int .i64 14], .agg #[.int .i64 0, .int .i64 100], .agg #[.int .i64 30, .int .i64 80], .agg #[.bool true, .int .i64 5], .agg #[.bool false, .int .i64 0]] rfl (by (try simp only [List.map_toArray, List.map_cons, List.map_nil]); first | done | rfl | (simp only [List.length_drop, List.length_take]; rfl)) ?_; (with_reducible refine (stick_Shift.calls k 10 14 0 100 30 80 true 5 false 0 t151 _ A3.out).mono ?_); rintro e w13 ⟨rfl, hb⟩; refine ⟨_, rfl, ?_⟩; have n0_ := Aside0.mk (blk_below (g := gb149) (o := .cells #[.bool true, .int .i64 t142, .bool false, .int .i64 t144, .bool t145, .int .i64 t146, .bool t147, .int .i64 t148] 38 (0, 0)) (by (with_reducible repeat (first | refine blk_drewN ?_ _ | refine blk_drew ?_ | refine blk_alloc ?_ _)); exact BK149.out) hb); have n1_ := Aside0.mk (below_step (by repeat (first | (with_reducible first | exact HB.out | apply below_alloc | apply pw_below_drewN | apply below_drew1 | refine below_set ?_ GE149.out) | exact HB.out)) hb); clear BK149; clear HB; have BK149 := n0_; have HB := n1_; clear n0_ n1_; (try clear hb); (try clear hb2); (try clear hk); (try clear hi); have hcz14_0 : w13.cell? ⟨gb149, 0, none⟩ = some (.bool true) := (blk_cell BK149.out 0).trans rfl; have hcz14_1 : w13.cell? ⟨gb149, 1, none⟩ = some (.int .i64 t142) := (blk_cell BK149.out 1).trans rfl; have hcz14_2 : w13.cell? ⟨gb149, 2, none⟩ = some (.bool false) := (blk_cell BK149.out 2).trans rfl; have hcz14_3 : w13.cell? ⟨gb149, 3, none⟩ = some (.int .i64 t144) := (blk_cell BK149.out 3).trans rfl; have hcz14_4 : w13.cell? ⟨gb149, 4, none⟩ = some (.bool t145) := (blk_cell BK149.out 4).trans rfl; have hcz14_5 : w13.cell? ⟨gb149, 5, none⟩ = some (.int .i64 t146) := (blk_cell BK149.out 5).trans rfl; have hcz14_6 : w13.cell? ⟨gb149, 6, none⟩ = some (.bool t147) := (blk_cell BK149.out 6).trans rfl; have hcz14_7 : w13.cell? ⟨gb149, 7, none⟩ = some (.int .i64 t148) := (blk_cell BK149.out 7).trans rfl; have hfz14_0 := blk_frozen BK149.out 0; have hfz14_1 := blk_frozen BK149.out 1; have hfz14_2 := blk_frozen BK149.out 2; have hfz14_3 := blk_frozen BK149.out 3; have hfz14_4 := blk_frozen BK149.out 4; have hfz14_5 := blk_frozen BK149.out 5; have hfz14_6 := blk_frozen BK149.out 6; have hfz14_7 := blk_frozen BK149.out 7) | (go_at_call 34; (with_reducible refine (point_Of.calls 0 25 t152 _ A8.out).mono ?_); rintro e w15 ⟨rfl, hb⟩; have n0_ := Aside0.mk (blk_below (g := gb149) (o := .cells #[.bool true, .int .i64 t142, .bool false, .int .i64 t144, .bool t145, .int .i64 t146, .bool t147, .int .i64 t148] 38 (0, 0)) (by (with_reducible repeat (first | refine blk_drewN ?_ _ | refine blk_drew ?_ | refine blk_alloc ?_ _)); exact BK149.out) hb); have n1_ := Aside0.mk (below_step (by repeat (first | (with_reducible first | exact HB.out | apply below_alloc | apply pw_below_drewN | apply below_drew1 | refine below_set ?_ GE149.out) | exact HB.out)) hb); clear BK149; clear HB; have BK149 := n0_; have HB := n1_; clear n0_ n1_; (try clear hb); (try clear hb2); (try clear hk); (try clear hi)))
          go_ret
          exact ⟨by first | rfl | (simp [errW_none, errW_some] <;> rfl) | (simp [*, errW_none, errW_some] <;> rfl), by repeat (first | (with_reducible first | exact HB.out | apply below_alloc | apply pw_below_drewN | apply below_drew1 | refine below_set ?_ GE149.out) | exact HB.out)⟩
      · rw [if_neg c6] at H
        exact absurd H (by simp)
    · replace c5 := Bool.eq_false_iff.mpr c5
      subst c5
      have H1 : (none) = some r := by rw [if_neg (show ¬ (false = true) by decide)] at H; exact H
      clear H
      have H := H1
      clear H1
      exact absurd H (by simp)
  · rw [if_neg c4] at H
    exact absurd H (by simp)

/-! ### valanceref01_Cut: function 62 -/
def valanceref01_Cut.f (a0 : Int) : Option (Int) := if a0 > 1099511627776 then (some 1099511627776) else (if a0 < (-1099511627776) then (some (-1099511627776)) else (some a0))
set_option maxHeartbeats 8000000 in
set_option maxRecDepth 100000 in
theorem valanceref01_Cut.calls (a0 : Int) (r : Int) (w : World) (h : valanceref01_Cut.f a0 = some r) :
    Calls Try.prog 62 #[.int .i64 a0] w fun e w' => e = .returned (.int .i64 r) ∧ Drawn0 w w' := by
  have H : (if a0 > 1099511627776 then (some 1099511627776) else (if a0 < (-1099511627776) then (some (-1099511627776)) else (some a0))) = some r := h
  clear h
  by_cases c2 : a0 > 1099511627776
  · rw [if_pos c2] at H
    have c2b0 : decide (1099511627776 < a0) = true := decide_eq_true c2
    clear c2
    obtain rfl := Option.some.inj H
    go_enter Try.func62, Try.ntmps62
    go_wp2
    go_ret
    exact ⟨by first | rfl | (simp; done) | (simp [*]; done), by repeat (first | exact Drawn0.refl _ | apply Drawn0.step)⟩
  · rw [if_neg c2] at H
    have c2b0 : decide (1099511627776 < a0) = false := decide_eq_false c2
    clear c2
    by_cases c3 : a0 < (-1099511627776)
    · rw [if_pos c3] at H
      have c3b0 : decide (a0 < (-1099511627776)) = true := decide_eq_true c3
      clear c3
      obtain rfl := Option.some.inj H
      go_enter Try.func62, Try.ntmps62
      go_wp2
      go_ret
      exact ⟨by first | rfl | (simp; done) | (simp [*]; done), by repeat (first | exact Drawn0.refl _ | apply Drawn0.step)⟩
    · rw [if_neg c3] at H
      have c3b0 : decide (a0 < (-1099511627776)) = false := decide_eq_false c3
      clear c3
      obtain rfl := Option.some.inj H
      go_enter Try.func62, Try.ntmps62
      go_wp2
      go_ret
      exact ⟨by first | rfl | (simp; done) | (simp [*]; done), by repeat (first | exact Drawn0.refl _ | apply Drawn0.step)⟩

end Go.Proofs.Ytnmcefpnpfaklab.V
