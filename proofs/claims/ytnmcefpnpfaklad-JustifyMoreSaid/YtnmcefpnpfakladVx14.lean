/- What the functions of this seat answer, as plain Lean functions, and that the calls come to just that (written by a program of this repo, over the kit's printer; Lean checks it). -/
import Derived.Test.YtnmcefpnpfakladVx0
import Derived.Test.YtnmcefpnpfakladVx11
import Derived.Test.YtnmcefpnpfakladVx12
import Derived.Test.YtnmcefpnpfakladVx13
namespace Go.Proofs.Ytnmcefpnpfaklad.V
open Go.RowKit Go.Proofs.YtnmcefpnpfakladW.PrintWords Go.Proofs.YtnmcefpnpfakladW.PrintLast Go.Proofs.YtnmcefpnpfakladW.PrintMore
attribute [local go_sem] max2_int min2_int max_two min_two max_three min_three max_four min_four   -- for this text's walks alone
set_option linter.unusedVariables false
set_option linter.unusedSimpArgs false

/-! ### valancelaw09_works: function 15 -/
def valancelaw09_works.f (k : Nat)  : Option (Bool) := (justify_Starts.f k 3 (([2, 2] : List Int)) 10 0).bind fun t131 => ((justify_Starts.f k 5 (([2, 2] : List Int)) 10 0).bind fun t137 => ((justify_Flip.f k t131 (([2, 2] : List Int)) 10).bind fun t143 => (if (t131.length : Int) = 2 then (if 0 < (t131.length : Int) then (if (rd t131 0) = 0 then (if 1 < (t131.length : Int) then (if (rd t131 1) = 8 then (if (t137.length : Int) = 2 then (if 0 < (t137.length : Int) then (if (rd t137 0) = 2 then (if 1 < (t137.length : Int) then (if (rd t137 1) = 6 then (if (t143.length : Int) = 2 then (if 0 < (t143.length : Int) then (if (rd t143 0) = 8 then ((justify_Across.f 3 3 10).bind fun t151 => (some (t151 == 7))) else (none)) else (none)) else (none)) else (none)) else (none)) else (none)) else (none)) else (none)) else (none)) else (none)) else (none)) else (none)) else (none))))
theorem valancelaw09_works.mono : ∀ k, LeO (valancelaw09_works.f k ) (valancelaw09_works.f (k + 1) ) := by
  intro  k
  unfold valancelaw09_works.f
  repeat' first
      | (with_reducible exact justify_Flip.mono _ _ _ _)
      | (with_reducible exact justify_Starts.mono _ _ _ _ _)
      | (with_reducible exact LeO.refl _)
      | (with_reducible exact LeO.none _)
      | (with_reducible refine LeO.ite ?_ ?_)
      | (with_reducible refine LeO.bind ?_ (fun _ => ?_))
      | exact justify_Flip.mono _ _ _ _
      | exact justify_Starts.mono _ _ _ _ _
      | exact LeO.none _
      | refine LeO.ite ?_ ?_
      | refine LeO.bind ?_ (fun _ => ?_)
set_option maxHeartbeats 8000000 in
set_option maxRecDepth 100000 in
theorem valancelaw09_works.calls (k : Nat)  (r : Bool) (w : World) (h : valancelaw09_works.f k  = some r) :
    Calls Try.prog 15 #[] w fun e w' => e = .returned (.bool r) ∧ Below w.heap.size w w' := by
  have HB := Aside0.mk (Below.refl w.heap.size w)
  have H : ((justify_Starts.f k 3 (([2, 2] : List Int)) 10 0).bind fun t131 => ((justify_Starts.f k 5 (([2, 2] : List Int)) 10 0).bind fun t137 => ((justify_Flip.f k t131 (([2, 2] : List Int)) 10).bind fun t143 => (if (t131.length : Int) = 2 then (if 0 < (t131.length : Int) then (if (rd t131 0) = 0 then (if 1 < (t131.length : Int) then (if (rd t131 1) = 8 then (if (t137.length : Int) = 2 then (if 0 < (t137.length : Int) then (if (rd t137 0) = 2 then (if 1 < (t137.length : Int) then (if (rd t137 1) = 6 then (if (t143.length : Int) = 2 then (if 0 < (t143.length : Int) then (if (rd t143 0) = 8 then ((justify_Across.f 3 3 10).bind fun t151 => (some (t151 == 7))) else (none)) else (none)) else (none)) else (none)) else (none)) else (none)) else (none)) else (none)) else (none)) else (none)) else (none)) else (none)) else (none))))) = some r := h
  clear h
  obtain ⟨y128, hy128⟩ : ∃ y_ : List Int, y_ = (([2, 2] : List Int)) := ⟨_, rfl⟩
  replace H : ((justify_Starts.f k 3 y128 10 0).bind fun t131 => ((justify_Starts.f k 5 (([2, 2] : List Int)) 10 0).bind fun t137 => ((justify_Flip.f k t131 (([2, 2] : List Int)) 10).bind fun t143 => (if (t131.length : Int) = 2 then (if 0 < (t131.length : Int) then (if (rd t131 0) = 0 then (if 1 < (t131.length : Int) then (if (rd t131 1) = 8 then (if (t137.length : Int) = 2 then (if 0 < (t137.length : Int) then (if (rd t137 0) = 2 then (if 1 < (t137.length : Int) then (if (rd t137 1) = 6 then (if (t143.length : Int) = 2 then (if 0 < (t143.length : Int) then (if (rd t143 0) = 8 then ((justify_Across.f 3 3 10).bind fun t151 => (some (t151 == 7))) else (none)) else (none)) else (none)) else (none)) else (none)) else (none)) else (none)) else (none)) else (none)) else (none)) else (none)) else (none)) else (none))))) = some r := by first | (rw [hy128]; with_reducible exact H) | (have H2_ := (Option.bind_some _ _).symm.trans H; rw [hy128]; with_reducible exact H2_) | (have H2_ := (Option.bind_some _ _).symm.trans H; with_reducible exact H2_) | with_reducible exact H | (rw [hy128]; exact H) | exact H
  have Ny128 := Aside0.mk hy128
  clear hy128
  replace H := Option.bind_eq_some_iff.mp H
  obtain ⟨t131, A10, H⟩ := H
  replace H : ((justify_Starts.f k 5 (([2, 2] : List Int)) 10 0).bind fun t137 => ((justify_Flip.f k t131 (([2, 2] : List Int)) 10).bind fun t143 => (if (t131.length : Int) = 2 then (if 0 < (t131.length : Int) then (if (rd t131 0) = 0 then (if 1 < (t131.length : Int) then (if (rd t131 1) = 8 then (if (t137.length : Int) = 2 then (if 0 < (t137.length : Int) then (if (rd t137 0) = 2 then (if 1 < (t137.length : Int) then (if (rd t137 1) = 6 then (if (t143.length : Int) = 2 then (if 0 < (t143.length : Int) then (if (rd t143 0) = 8 then ((justify_Across.f 3 3 10).bind fun t151 => (some (t151 == 7))) else (none)) else (none)) else (none)) else (none)) else (none)) else (none)) else (none)) else (none)) else (none)) else (none)) else (none)) else (none)) else (none)))) = some r := H
  have A1 := Aside0.mk A10
  clear A10
  obtain ⟨y134, hy134⟩ : ∃ y_ : List Int, y_ = (([2, 2] : List Int)) := ⟨_, rfl⟩
  replace H : ((justify_Starts.f k 5 y134 10 0).bind fun t137 => ((justify_Flip.f k t131 (([2, 2] : List Int)) 10).bind fun t143 => (if (t131.length : Int) = 2 then (if 0 < (t131.length : Int) then (if (rd t131 0) = 0 then (if 1 < (t131.length : Int) then (if (rd t131 1) = 8 then (if (t137.length : Int) = 2 then (if 0 < (t137.length : Int) then (if (rd t137 0) = 2 then (if 1 < (t137.length : Int) then (if (rd t137 1) = 6 then (if (t143.length : Int) = 2 then (if 0 < (t143.length : Int) then (if (rd t143 0) = 8 then ((justify_Across.f 3 3 10).bind fun t151 => (some (t151 == 7))) else (none)) else (none)) else (none)) else (none)) else (none)) else (none)) else (none)) else (none)) else (none)) else (none)) else (none)) else (none)) else (none)))) = some r := by first | (rw [hy134]; with_reducible exact H) | (have H2_ := (Option.bind_some _ _).symm.trans H; rw [hy134]; with_reducible exact H2_) | (have H2_ := (Option.bind_some _ _).symm.trans H; with_reducible exact H2_) | with_reducible exact H | (rw [hy134]; exact H) | exact H
  have Ny134 := Aside0.mk hy134
  clear hy134
  replace H := Option.bind_eq_some_iff.mp H
  obtain ⟨t137, A20, H⟩ := H
  replace H : ((justify_Flip.f k t131 (([2, 2] : List Int)) 10).bind fun t143 => (if (t131.length : Int) = 2 then (if 0 < (t131.length : Int) then (if (rd t131 0) = 0 then (if 1 < (t131.length : Int) then (if (rd t131 1) = 8 then (if (t137.length : Int) = 2 then (if 0 < (t137.length : Int) then (if (rd t137 0) = 2 then (if 1 < (t137.length : Int) then (if (rd t137 1) = 6 then (if (t143.length : Int) = 2 then (if 0 < (t143.length : Int) then (if (rd t143 0) = 8 then ((justify_Across.f 3 3 10).bind fun t151 => (some (t151 == 7))) else (none)) else (none)) else (none)) else (none)) else (none)) else (none)) else (none)) else (none)) else (none)) else (none)) else (none)) else (none)) else (none))) = some r := H
  have A2 := Aside0.mk A20
  clear A20
  obtain ⟨y140, hy140⟩ : ∃ y_ : List Int, y_ = (([2, 2] : List Int)) := ⟨_, rfl⟩
  replace H : ((justify_Flip.f k t131 y140 10).bind fun t143 => (if (t131.length : Int) = 2 then (if 0 < (t131.length : Int) then (if (rd t131 0) = 0 then (if 1 < (t131.length : Int) then (if (rd t131 1) = 8 then (if (t137.length : Int) = 2 then (if 0 < (t137.length : Int) then (if (rd t137 0) = 2 then (if 1 < (t137.length : Int) then (if (rd t137 1) = 6 then (if (t143.length : Int) = 2 then (if 0 < (t143.length : Int) then (if (rd t143 0) = 8 then ((justify_Across.f 3 3 10).bind fun t151 => (some (t151 == 7))) else (none)) else (none)) else (none)) else (none)) else (none)) else (none)) else (none)) else (none)) else (none)) else (none)) else (none)) else (none)) else (none))) = some r := by first | (rw [hy140]; with_reducible exact H) | (have H2_ := (Option.bind_some _ _).symm.trans H; rw [hy140]; with_reducible exact H2_) | (have H2_ := (Option.bind_some _ _).symm.trans H; with_reducible exact H2_) | with_reducible exact H | (rw [hy140]; exact H) | exact H
  have Ny140 := Aside0.mk hy140
  clear hy140
  replace H := Option.bind_eq_some_iff.mp H
  obtain ⟨t143, A30, H⟩ := H
  replace H : (if (t131.length : Int) = 2 then (if 0 < (t131.length : Int) then (if (rd t131 0) = 0 then (if 1 < (t131.length : Int) then (if (rd t131 1) = 8 then (if (t137.length : Int) = 2 then (if 0 < (t137.length : Int) then (if (rd t137 0) = 2 then (if 1 < (t137.length : Int) then (if (rd t137 1) = 6 then (if (t143.length : Int) = 2 then (if 0 < (t143.length : Int) then (if (rd t143 0) = 8 then ((justify_Across.f 3 3 10).bind fun t151 => (some (t151 == 7))) else (none)) else (none)) else (none)) else (none)) else (none)) else (none)) else (none)) else (none)) else (none)) else (none)) else (none)) else (none)) else (none)) = some r := H
  have A3 := Aside0.mk A30
  clear A30
  by_cases c4 : (t131.length : Int) = 2
  · rw [if_pos c4] at H
    have c4b0 : ((t131.length : Int) == 2) = true := beq_iff_eq.mpr c4
    have c4b1 : ((t131.length : Int) != 2) = false := bne_eq_false_iff_eq.mpr c4
    clear c4
    by_cases c5 : 0 < (t131.length : Int)
    · rw [if_pos c5] at H
      have c5b0 : decide (0 < (t131.length : Int)) = true := decide_eq_true c5
      have c5b1 : decide (0 < t131.length) = true := decide_eq_true (by omega)
      clear c5
      by_cases c6 : (rd t131 0) = 0
      · rw [if_pos c6] at H
        have c6b0 : ((rd t131 0) == 0) = true := beq_iff_eq.mpr c6
        have c6b1 : ((rd t131 0) != 0) = false := bne_eq_false_iff_eq.mpr c6
        clear c6
        by_cases c7 : 1 < (t131.length : Int)
        · rw [if_pos c7] at H
          have c7b0 : decide (1 < (t131.length : Int)) = true := decide_eq_true c7
          have c7b1 : decide (1 < t131.length) = true := decide_eq_true (by omega)
          clear c7
          by_cases c8 : (rd t131 1) = 8
          · rw [if_pos c8] at H
            have c8b0 : ((rd t131 1) == 8) = true := beq_iff_eq.mpr c8
            have c8b1 : ((rd t131 1) != 8) = false := bne_eq_false_iff_eq.mpr c8
            clear c8
            by_cases c9 : (t137.length : Int) = 2
            · rw [if_pos c9] at H
              have c9b0 : ((t137.length : Int) == 2) = true := beq_iff_eq.mpr c9
              have c9b1 : ((t137.length : Int) != 2) = false := bne_eq_false_iff_eq.mpr c9
              clear c9
              by_cases c10 : 0 < (t137.length : Int)
              · rw [if_pos c10] at H
                have c10b0 : decide (0 < (t137.length : Int)) = true := decide_eq_true c10
                have c10b1 : decide (0 < t137.length) = true := decide_eq_true (by omega)
                clear c10
                by_cases c11 : (rd t137 0) = 2
                · rw [if_pos c11] at H
                  have c11b0 : ((rd t137 0) == 2) = true := beq_iff_eq.mpr c11
                  have c11b1 : ((rd t137 0) != 2) = false := bne_eq_false_iff_eq.mpr c11
                  clear c11
                  by_cases c12 : 1 < (t137.length : Int)
                  · rw [if_pos c12] at H
                    have c12b0 : decide (1 < (t137.length : Int)) = true := decide_eq_true c12
                    have c12b1 : decide (1 < t137.length) = true := decide_eq_true (by omega)
                    clear c12
                    by_cases c13 : (rd t137 1) = 6
                    · rw [if_pos c13] at H
                      have c13b0 : ((rd t137 1) == 6) = true := beq_iff_eq.mpr c13
                      have c13b1 : ((rd t137 1) != 6) = false := bne_eq_false_iff_eq.mpr c13
                      clear c13
                      by_cases c14 : (t143.length : Int) = 2
                      · rw [if_pos c14] at H
                        have c14b0 : ((t143.length : Int) == 2) = true := beq_iff_eq.mpr c14
                        have c14b1 : ((t143.length : Int) != 2) = false := bne_eq_false_iff_eq.mpr c14
                        clear c14
                        by_cases c15 : 0 < (t143.length : Int)
                        · rw [if_pos c15] at H
                          have c15b0 : decide (0 < (t143.length : Int)) = true := decide_eq_true c15
                          have c15b1 : decide (0 < t143.length) = true := decide_eq_true (by omega)
                          clear c15
                          by_cases c16 : (rd t143 0) = 8
                          · rw [if_pos c16] at H
                            have c16b0 : ((rd t143 0) == 8) = true := beq_iff_eq.mpr c16
                            have c16b1 : ((rd t143 0) != 8) = false := bne_eq_false_iff_eq.mpr c16
                            clear c16
                            replace H := Option.bind_eq_some_iff.mp H
                            obtain ⟨t151, A170, H⟩ := H
                            replace H : (some (t151 == 7)) = some r := H
                            have A17 := Aside0.mk A170
                            clear A170
                            obtain rfl := Option.some.inj H
                            go_enter Try.func15, Try.ntmps15
                            go_wp2_with (first | ((with_reducible refine gate_dst (N := 4) rfl ?_); (try (refine gate_guard (by rfl) ?_; dsimp only)); refine Kd.R_lit (Kd.int .i64) _ 3 ?hg (N := 4) ?hd (xs := ([2, 2] : List Int)) (inner := [.int .i64 2, .int .i64 2]) (ok := fun _ => True) (okp := fun _ => True) ?hr ?hp (fun _ hk => hk) trivial (Below.refl _ _) (Nat.le_refl _) (by simp) ?_; (case hd => rfl); (case hg => rfl); (case hr => first | (go_simp; done) | (go_simp; rfl)); (case hp => exact (Reps.one (show Kd.M (Kd.int .i64) _ _ _ 2 [.int .i64 2] from rfl) (Reps.one (show Kd.M (Kd.int .i64) _ _ _ 2 [.int .i64 2] from rfl) (Reps.none _ _)))); intro v129 w18 ho19 hb hg_ hnew_; clear hg_ hnew_; (first | rw [← Ny128.out] at ho19 | (simp only [Int.reduceToNat] at ho19; rw [← Ny128.out] at ho19)); have n0_ := Aside0.mk (Kd.R_lower ho19 (below_size (by repeat (first | (with_reducible first | exact HB.out | apply below_alloc | apply pw_below_drewN | apply below_drew1) | exact HB.out)))); have n1_ := Aside0.mk (below_step (by repeat (first | (with_reducible first | exact HB.out | apply below_alloc | apply pw_below_drewN | apply below_drew1) | exact HB.out)) hb); clear HB; have HO130 := n0_; have HB := n1_; clear n0_ n1_; clear hb ho19; obtain ⟨Ao20, co20, eo20⟩ := Kd.R_slice HO130.out; subst eo20) | ((with_reducible refine gate_callee (f := 16) rfl ?_); refine goesL_ (some 5) rfl rfl Try.func16 (by kernel_rfl) rfl #[.int .i64 3, .slice Ao20 y128.length co20, .int .i64 10, .int .i64 0] rfl (by (try simp only [List.map_toArray, List.map_cons, List.map_nil]); first | done | rfl | (simp only [List.length_drop, List.length_take]; rfl)) ?_; (with_reducible refine (justify_Starts.calls k 3 _ _ y128 10 0 t131 _ ?side1 ?side2 A1.out).mono ?_); (case side1 => repeat (first | exact (Kd.R_reads' HO130.out).2.2 | (with_reducible refine Kd.C_alloc ?_ _) | (with_reducible refine Kd.C_drewN ?_ _) | (with_reducible refine Kd.C_drew ?_))); (case side2 => exact (Kd.R_reads' HO130.out).2.1); rintro e w21 ⟨v132, rfl, ho0, hb⟩; refine ⟨_, rfl, ?_⟩; have n0_ := Aside0.mk (Kd.R_elder' (by (with_reducible repeat (first | apply Kd.R_alloc | apply Kd.R_drewN | apply Kd.R_drew)); exact HO130.out) (Kd.R_base ho0) hb); have n1_ := Aside0.mk (Kd.R_lower (Kd.R_new' ho0 (Kd.R_lt (by (with_reducible repeat (first | apply Kd.R_alloc | apply Kd.R_drewN | apply Kd.R_drew)); exact HO130.out))) (below_size (by repeat (first | (with_reducible first | exact HB.out | apply below_alloc | apply pw_below_drewN | apply below_drew1) | exact HB.out)))); have n2_ := Aside0.mk (below_step (by repeat (first | (with_reducible first | exact HB.out | apply below_alloc | apply pw_below_drewN | apply below_drew1) | exact HB.out)) hb); clear HO130; clear HB; have HO130 := n0_; have HO133 := n1_; have HB := n2_; clear n0_ n1_ n2_; (try clear hb); (try clear hb2); (try clear hk); (try clear hi); (try clear ho0)) | ((with_reducible refine gate_dst (N := 6) rfl ?_); (try (refine gate_guard (by rfl) ?_; dsimp only)); refine Kd.R_lit (Kd.int .i64) _ 3 ?hg (N := 6) ?hd (xs := ([2, 2] : List Int)) (inner := [.int .i64 2, .int .i64 2]) (ok := fun _ => True) (okp := fun _ => True) ?hr ?hp (fun _ hk => hk) trivial (Below.refl _ _) (Nat.le_refl _) (by simp) ?_; (case hd => rfl); (case hg => rfl); (case hr => first | (go_simp; done) | (go_simp; rfl)); (case hp => exact (Reps.one (show Kd.M (Kd.int .i64) _ _ _ 2 [.int .i64 2] from rfl) (Reps.one (show Kd.M (Kd.int .i64) _ _ _ 2 [.int .i64 2] from rfl) (Reps.none _ _)))); intro v135 w22 ho23 hb hg_ hnew_; clear hg_ hnew_; (first | rw [← Ny134.out] at ho23 | (simp only [Int.reduceToNat] at ho23; rw [← Ny134.out] at ho23)); have n0_ := Aside0.mk (Kd.R_elder' (by (with_reducible repeat (first | apply Kd.R_alloc | apply Kd.R_drewN | apply Kd.R_drew)); exact HO130.out) (Kd.R_base ho23) hb); have n1_ := Aside0.mk (Kd.R_elder' (by (with_reducible repeat (first | apply Kd.R_alloc | apply Kd.R_drewN | apply Kd.R_drew)); exact HO133.out) (Kd.R_base ho23) hb); have n2_ := Aside0.mk (Kd.R_lower (Kd.R_new' (Kd.R_new' ho23 (Kd.R_lt (by (with_reducible repeat (first | apply Kd.R_alloc | apply Kd.R_drewN | apply Kd.R_drew)); exact HO130.out))) (Kd.R_lt (by (with_reducible repeat (first | apply Kd.R_alloc | apply Kd.R_drewN | apply Kd.R_drew)); exact HO133.out))) (below_size (by repeat (first | (with_reducible first | exact HB.out | apply below_alloc | apply pw_below_drewN | apply below_drew1) | exact HB.out)))); have n3_ := Aside0.mk (below_step (by repeat (first | (with_reducible first | exact HB.out | apply below_alloc | apply pw_below_drewN | apply below_drew1) | exact HB.out)) hb); clear HO130; clear HO133; clear HB; have HO130 := n0_; have HO133 := n1_; have HO136 := n2_; have HB := n3_; clear n0_ n1_ n2_ n3_; clear hb ho23; obtain ⟨Ao24, co24, eo24⟩ := Kd.R_slice HO136.out; subst eo24) | ((with_reducible refine gate_callee (f := 16) rfl ?_); refine goesL_ (some 7) rfl rfl Try.func16 (by kernel_rfl) rfl #[.int .i64 5, .slice Ao24 y134.length co24, .int .i64 10, .int .i64 0] rfl (by (try simp only [List.map_toArray, List.map_cons, List.map_nil]); first | done | rfl | (simp only [List.length_drop, List.length_take]; rfl)) ?_; (with_reducible refine (justify_Starts.calls k 5 _ _ y134 10 0 t137 _ ?side1 ?side2 A2.out).mono ?_); (case side1 => repeat (first | exact (Kd.R_reads' HO136.out).2.2 | (with_reducible refine Kd.C_alloc ?_ _) | (with_reducible refine Kd.C_drewN ?_ _) | (with_reducible refine Kd.C_drew ?_))); (case side2 => exact (Kd.R_reads' HO136.out).2.1); rintro e w25 ⟨v138, rfl, ho0, hb⟩; refine ⟨_, rfl, ?_⟩; have n0_ := Aside0.mk (Kd.R_elder' (by (with_reducible repeat (first | apply Kd.R_alloc | apply Kd.R_drewN | apply Kd.R_drew)); exact HO130.out) (Kd.R_base ho0) hb); have n1_ := Aside0.mk (Kd.R_elder' (by (with_reducible repeat (first | apply Kd.R_alloc | apply Kd.R_drewN | apply Kd.R_drew)); exact HO133.out) (Kd.R_base ho0) hb); have n2_ := Aside0.mk (Kd.R_elder' (by (with_reducible repeat (first | apply Kd.R_alloc | apply Kd.R_drewN | apply Kd.R_drew)); exact HO136.out) (Kd.R_base ho0) hb); have n3_ := Aside0.mk (Kd.R_lower (Kd.R_new' (Kd.R_new' (Kd.R_new' ho0 (Kd.R_lt (by (with_reducible repeat (first | apply Kd.R_alloc | apply Kd.R_drewN | apply Kd.R_drew)); exact HO130.out))) (Kd.R_lt (by (with_reducible repeat (first | apply Kd.R_alloc | apply Kd.R_drewN | apply Kd.R_drew)); exact HO133.out))) (Kd.R_lt (by (with_reducible repeat (first | apply Kd.R_alloc | apply Kd.R_drewN | apply Kd.R_drew)); exact HO136.out))) (below_size (by repeat (first | (with_reducible first | exact HB.out | apply below_alloc | apply pw_below_drewN | apply below_drew1) | exact HB.out)))); have n4_ := Aside0.mk (below_step (by repeat (first | (with_reducible first | exact HB.out | apply below_alloc | apply pw_below_drewN | apply below_drew1) | exact HB.out)) hb); clear HO130; clear HO133; clear HO136; clear HB; have HO130 := n0_; have HO133 := n1_; have HO136 := n2_; have HO139 := n3_; have HB := n4_; clear n0_ n1_ n2_ n3_ n4_; (try clear hb); (try clear hb2); (try clear hk); (try clear hi); (try clear ho0)) | ((with_reducible refine gate_dst (N := 9) rfl ?_); (try (refine gate_guard (by rfl) ?_; dsimp only)); refine Kd.R_lit (Kd.int .i64) _ 3 ?hg (N := 9) ?hd (xs := ([2, 2] : List Int)) (inner := [.int .i64 2, .int .i64 2]) (ok := fun _ => True) (okp := fun _ => True) ?hr ?hp (fun _ hk => hk) trivial (Below.refl _ _) (Nat.le_refl _) (by simp) ?_; (case hd => rfl); (case hg => rfl); (case hr => first | (go_simp; done) | (go_simp; rfl)); (case hp => exact (Reps.one (show Kd.M (Kd.int .i64) _ _ _ 2 [.int .i64 2] from rfl) (Reps.one (show Kd.M (Kd.int .i64) _ _ _ 2 [.int .i64 2] from rfl) (Reps.none _ _)))); intro v141 w26 ho27 hb hg_ hnew_; clear hg_ hnew_; (first | rw [← Ny140.out] at ho27 | (simp only [Int.reduceToNat] at ho27; rw [← Ny140.out] at ho27)); have n0_ := Aside0.mk (Kd.R_elder' (by (with_reducible repeat (first | apply Kd.R_alloc | apply Kd.R_drewN | apply Kd.R_drew)); exact HO130.out) (Kd.R_base ho27) hb); have n1_ := Aside0.mk (Kd.R_elder' (by (with_reducible repeat (first | apply Kd.R_alloc | apply Kd.R_drewN | apply Kd.R_drew)); exact HO133.out) (Kd.R_base ho27) hb); have n2_ := Aside0.mk (Kd.R_elder' (by (with_reducible repeat (first | apply Kd.R_alloc | apply Kd.R_drewN | apply Kd.R_drew)); exact HO136.out) (Kd.R_base ho27) hb); have n3_ := Aside0.mk (Kd.R_elder' (by (with_reducible repeat (first | apply Kd.R_alloc | apply Kd.R_drewN | apply Kd.R_drew)); exact HO139.out) (Kd.R_base ho27) hb); have n4_ := Aside0.mk (Kd.R_lower (Kd.R_new' (Kd.R_new' (Kd.R_new' (Kd.R_new' ho27 (Kd.R_lt (by (with_reducible repeat (first | apply Kd.R_alloc | apply Kd.R_drewN | apply Kd.R_drew)); exact HO130.out))) (Kd.R_lt (by (with_reducible repeat (first | apply Kd.R_alloc | apply Kd.R_drewN | apply Kd.R_drew)); exact HO133.out))) (Kd.R_lt (by (with_reducible repeat (first | apply Kd.R_alloc | apply Kd.R_drewN | apply Kd.R_drew)); exact HO136.out))) (Kd.R_lt (by (with_reducible repeat (first | apply Kd.R_alloc | apply Kd.R_drewN | apply Kd.R_drew)); exact HO139.out))) (below_size (by repeat (first | (with_reducible first | exact HB.out | apply below_alloc | apply pw_below_drewN | apply below_drew1) | exact HB.out)))); have n5_ := Aside0.mk (below_step (by repeat (first | (with_reducible first | exact HB.out | apply below_alloc | apply pw_below_drewN | apply below_drew1) | exact HB.out)) hb); clear HO130; clear HO133; clear HO136; clear HO139; clear HB; have HO130 := n0_; have HO133 := n1_; have HO136 := n2_; have HO139 := n3_; have HO142 := n4_; have HB := n5_; clear n0_ n1_ n2_ n3_ n4_ n5_; clear hb ho27; obtain ⟨Ao28, co28, eo28⟩ := Kd.R_slice HO133.out; subst eo28; obtain ⟨Ao29, co29, eo29⟩ := Kd.R_slice HO142.out; subst eo29) | ((with_reducible refine gate_callee (f := 17) rfl ?_); refine goesL_ (some 10) rfl rfl Try.func17 (by kernel_rfl) rfl #[.slice Ao28 t131.length co28, .slice Ao29 y140.length co29, .int .i64 10] rfl (by (try simp only [List.map_toArray, List.map_cons, List.map_nil]); first | done | rfl | (simp only [List.length_drop, List.length_take]; rfl)) ?_; (with_reducible refine (justify_Flip.calls k _ _ t131 _ _ y140 10 t143 _ ?side1 ?side2 ?side3 ?side4 A3.out).mono ?_); (case side1 => repeat (first | exact (Kd.R_reads' HO133.out).2.2 | (with_reducible refine Kd.C_alloc ?_ _) | (with_reducible refine Kd.C_drewN ?_ _) | (with_reducible refine Kd.C_drew ?_))); (case side2 => exact (Kd.R_reads' HO133.out).2.1); (case side3 => repeat (first | exact (Kd.R_reads' HO142.out).2.2 | (with_reducible refine Kd.C_alloc ?_ _) | (with_reducible refine Kd.C_drewN ?_ _) | (with_reducible refine Kd.C_drew ?_))); (case side4 => exact (Kd.R_reads' HO142.out).2.1); rintro e w30 ⟨v144, rfl, ho0, hb⟩; refine ⟨_, rfl, ?_⟩; have n0_ := Aside0.mk (Kd.R_elder' (by (with_reducible repeat (first | apply Kd.R_alloc | apply Kd.R_drewN | apply Kd.R_drew)); exact HO130.out) (Kd.R_base ho0) hb); have n1_ := Aside0.mk (Kd.R_elder' (by (with_reducible repeat (first | apply Kd.R_alloc | apply Kd.R_drewN | apply Kd.R_drew)); exact HO133.out) (Kd.R_base ho0) hb); have n2_ := Aside0.mk (Kd.R_elder' (by (with_reducible repeat (first | apply Kd.R_alloc | apply Kd.R_drewN | apply Kd.R_drew)); exact HO136.out) (Kd.R_base ho0) hb); have n3_ := Aside0.mk (Kd.R_elder' (by (with_reducible repeat (first | apply Kd.R_alloc | apply Kd.R_drewN | apply Kd.R_drew)); exact HO139.out) (Kd.R_base ho0) hb); have n4_ := Aside0.mk (Kd.R_elder' (by (with_reducible repeat (first | apply Kd.R_alloc | apply Kd.R_drewN | apply Kd.R_drew)); exact HO142.out) (Kd.R_base ho0) hb); have n5_ := Aside0.mk (Kd.R_lower (Kd.R_new' (Kd.R_new' (Kd.R_new' (Kd.R_new' (Kd.R_new' ho0 (Kd.R_lt (by (with_reducible repeat (first | apply Kd.R_alloc | apply Kd.R_drewN | apply Kd.R_drew)); exact HO130.out))) (Kd.R_lt (by (with_reducible repeat (first | apply Kd.R_alloc | apply Kd.R_drewN | apply Kd.R_drew)); exact HO133.out))) (Kd.R_lt (by (with_reducible repeat (first | apply Kd.R_alloc | apply Kd.R_drewN | apply Kd.R_drew)); exact HO136.out))) (Kd.R_lt (by (with_reducible repeat (first | apply Kd.R_alloc | apply Kd.R_drewN | apply Kd.R_drew)); exact HO139.out))) (Kd.R_lt (by (with_reducible repeat (first | apply Kd.R_alloc | apply Kd.R_drewN | apply Kd.R_drew)); exact HO142.out))) (below_size (by repeat (first | (with_reducible first | exact HB.out | apply below_alloc | apply pw_below_drewN | apply below_drew1) | exact HB.out)))); have n6_ := Aside0.mk (below_step (by repeat (first | (with_reducible first | exact HB.out | apply below_alloc | apply pw_below_drewN | apply below_drew1) | exact HB.out)) hb); clear HO130; clear HO133; clear HO136; clear HO139; clear HO142; clear HB; have HO130 := n0_; have HO133 := n1_; have HO136 := n2_; have HO139 := n3_; have HO142 := n4_; have HO145 := n5_; have HB := n6_; clear n0_ n1_ n2_ n3_ n4_ n5_ n6_; (try clear hb); (try clear hb2); (try clear hk); (try clear hi); (try clear ho0); have p146 : 0 ≤ (0 : Int) := (by omega); have q146 : 0 < (t131.length : Int) := of_decide_eq_true (by first | (with_reducible assumption) | assumption); obtain ⟨ad146, e146, hx146_0⟩ := Kd.at_int (Kd.R_reads' HO133.out).2.2 0 p146 q146; cases e146; have qi146 : (0 < t131.length) = True := eq_true (by omega); (try rw [show ((0 : Int)).toNat = 0 from rfl] at hx146_0); (try rw [Addr.add_zero'] at hx146_0); replace p146 := eq_true p146; replace q146 := eq_true q146; have p147 : 0 ≤ (1 : Int) := (by omega); have q147 : 1 < (t131.length : Int) := of_decide_eq_true (by first | (with_reducible assumption) | assumption); obtain ⟨ad147, e147, hx147_0⟩ := Kd.at_int (Kd.R_reads' HO133.out).2.2 1 p147 q147; obtain rfl : ad146 = ad147 := (by injection e147); (try simp only [show (1 : Int).toNat = 1 from rfl, Nat.reduceMul, Nat.reduceEqDiff, Go.Addr.add, ↓reduceIte] at hx147_0); have qi147 : (1 < t131.length) = True := eq_true (by omega); (try rw [show ((1 : Int)).toNat = 1 from rfl] at hx147_0); replace p147 := eq_true p147; replace q147 := eq_true q147; obtain ⟨Ao31, co31, eo31⟩ := Kd.R_slice HO139.out; subst eo31; have p148 : 0 ≤ (0 : Int) := (by omega); have q148 : 0 < (t137.length : Int) := of_decide_eq_true (by first | (with_reducible assumption) | assumption); obtain ⟨ad148, e148, hx148_0⟩ := Kd.at_int (Kd.R_reads' HO139.out).2.2 0 p148 q148; cases e148; have qi148 : (0 < t137.length) = True := eq_true (by omega); (try rw [show ((0 : Int)).toNat = 0 from rfl] at hx148_0); (try rw [Addr.add_zero'] at hx148_0); replace p148 := eq_true p148; replace q148 := eq_true q148; have p149 : 0 ≤ (1 : Int) := (by omega); have q149 : 1 < (t137.length : Int) := of_decide_eq_true (by first | (with_reducible assumption) | assumption); obtain ⟨ad149, e149, hx149_0⟩ := Kd.at_int (Kd.R_reads' HO139.out).2.2 1 p149 q149; obtain rfl : ad148 = ad149 := (by injection e149); (try simp only [show (1 : Int).toNat = 1 from rfl, Nat.reduceMul, Nat.reduceEqDiff, Go.Addr.add, ↓reduceIte] at hx149_0); have qi149 : (1 < t137.length) = True := eq_true (by omega); (try rw [show ((1 : Int)).toNat = 1 from rfl] at hx149_0); replace p149 := eq_true p149; replace q149 := eq_true q149; obtain ⟨Ao32, co32, eo32⟩ := Kd.R_slice HO145.out; subst eo32; have p150 : 0 ≤ (0 : Int) := (by omega); have q150 : 0 < (t143.length : Int) := of_decide_eq_true (by first | (with_reducible assumption) | assumption); obtain ⟨ad150, e150, hx150_0⟩ := Kd.at_int (Kd.R_reads' HO145.out).2.2 0 p150 q150; cases e150; have qi150 : (0 < t143.length) = True := eq_true (by omega); (try rw [show ((0 : Int)).toNat = 0 from rfl] at hx150_0); (try rw [Addr.add_zero'] at hx150_0); replace p150 := eq_true p150; replace q150 := eq_true q150) | (go_at_call 21; (with_reducible refine (justify_Across.calls 3 3 10 t151 _ A17.out).mono ?_); rintro e w33 ⟨rfl, hb⟩; have n0_ := Aside0.mk (Kd.R_below (by (with_reducible repeat (first | apply Kd.R_alloc | apply Kd.R_drewN | apply Kd.R_drew)); exact HO130.out) hb); have n1_ := Aside0.mk (Kd.R_below (by (with_reducible repeat (first | apply Kd.R_alloc | apply Kd.R_drewN | apply Kd.R_drew)); exact HO133.out) hb); have n2_ := Aside0.mk (Kd.R_below (by (with_reducible repeat (first | apply Kd.R_alloc | apply Kd.R_drewN | apply Kd.R_drew)); exact HO136.out) hb); have n3_ := Aside0.mk (Kd.R_below (by (with_reducible repeat (first | apply Kd.R_alloc | apply Kd.R_drewN | apply Kd.R_drew)); exact HO139.out) hb); have n4_ := Aside0.mk (Kd.R_below (by (with_reducible repeat (first | apply Kd.R_alloc | apply Kd.R_drewN | apply Kd.R_drew)); exact HO142.out) hb); have n5_ := Aside0.mk (Kd.R_below (by (with_reducible repeat (first | apply Kd.R_alloc | apply Kd.R_drewN | apply Kd.R_drew)); exact HO145.out) hb); have n6_ := Aside0.mk (below_step (by repeat (first | (with_reducible first | exact HB.out | apply below_alloc | apply pw_below_drewN | apply below_drew1) | exact HB.out)) hb); clear HO130; clear HO133; clear HO136; clear HO139; clear HO142; clear HO145; clear HB; have HO130 := n0_; have HO133 := n1_; have HO136 := n2_; have HO139 := n3_; have HO142 := n4_; have HO145 := n5_; have HB := n6_; clear n0_ n1_ n2_ n3_ n4_ n5_ n6_; (try clear hb); (try clear hb2); (try clear hk); (try clear hi)))
                            go_ret
                            exact ⟨by first | rfl | (simp [errW_none, errW_some] <;> rfl) | (simp [*, errW_none, errW_some] <;> rfl), by repeat (first | (with_reducible first | exact HB.out | apply below_alloc | apply pw_below_drewN | apply below_drew1) | exact HB.out)⟩
                          · rw [if_neg c16] at H
                            exact absurd H (by simp)
                        · rw [if_neg c15] at H
                          exact absurd H (by simp)
                      · rw [if_neg c14] at H
                        exact absurd H (by simp)
                    · rw [if_neg c13] at H
                      exact absurd H (by simp)
                  · rw [if_neg c12] at H
                    exact absurd H (by simp)
                · rw [if_neg c11] at H
                  exact absurd H (by simp)
              · rw [if_neg c10] at H
                exact absurd H (by simp)
            · rw [if_neg c9] at H
              exact absurd H (by simp)
          · rw [if_neg c8] at H
            exact absurd H (by simp)
        · rw [if_neg c7] at H
          exact absurd H (by simp)
      · rw [if_neg c6] at H
        exact absurd H (by simp)
    · rw [if_neg c5] at H
      exact absurd H (by simp)
  · rw [if_neg c4] at H
    exact absurd H (by simp)

end Go.Proofs.Ytnmcefpnpfaklad.V
