/- What the functions of this seat answer, as plain Lean functions, and that the calls come to just that (written by a program of this repo, over the kit's printer; Lean checks it). -/
import Derived.Test.YtnmcefpnpfakladVx0
import Derived.Test.YtnmcefpnpfakladVx1
import Derived.Test.YtnmcefpnpfakladVx4
import Derived.Test.YtnmcefpnpfakladVx33
import Derived.Test.YtnmcefpnpfakladVx35
namespace Go.Proofs.Ytnmcefpnpfaklad.V
open Go.RowKit Go.Proofs.YtnmcefpnpfakladW.PrintWords Go.Proofs.YtnmcefpnpfakladW.PrintLast Go.Proofs.YtnmcefpnpfakladW.PrintMore
attribute [local go_sem] max2_int min2_int max_two min_two max_three min_three max_four min_four   -- for this text's walks alone
set_option linter.unusedVariables false
set_option linter.unusedSimpArgs false

attribute [local go_sem high] eqA41
/-! ### valancelaw07_works: function 24 -/
def valancelaw07_works.f (k : Nat)  : Option (Bool) := (lines_Break.f (([4, 4, 4] : List Int)) 9 1 true).bind fun t325 => ((lines_Order.f (([5, 2, 5, 1] : List Int))).bind fun t331 => (if (t325.length : Int) = 2 then (if 0 < (t325.length : Int) then (if (((rd_T41 t325 0).f0) == 0 && (((rd_T41 t325 0).f1) == 2)) = true then (if 1 < (t325.length : Int) then (if (((rd_T41 t325 1).f0) == 2 && (((rd_T41 t325 1).f1) == 3)) = true then ((lines_Long.f k (([4, 4] : List Int)) 1).bind fun t339 => (if t339 = 9 then (if (t331.length : Int) = 4 then (if 0 < (t331.length : Int) then (if (rd t331 0) = 3 then (if 3 < (t331.length : Int) then (if (rd t331 3) = 2 then (some true) else (none)) else (none)) else (none)) else (none)) else (none)) else (none))) else (none)) else (none)) else (none)) else (none)) else (none)))
theorem valancelaw07_works.mono : ∀ k, LeO (valancelaw07_works.f k ) (valancelaw07_works.f (k + 1) ) := by
  intro  k
  unfold valancelaw07_works.f
  repeat' first
      | (with_reducible exact lines_Long.mono _ _ _)
      | (with_reducible exact LeO.refl _)
      | (with_reducible exact LeO.none _)
      | (with_reducible refine LeO.ite ?_ ?_)
      | (with_reducible refine LeO.bind ?_ (fun _ => ?_))
      | exact lines_Long.mono _ _ _
      | exact LeO.none _
      | refine LeO.ite ?_ ?_
      | refine LeO.bind ?_ (fun _ => ?_)
set_option maxHeartbeats 8000000 in
set_option maxRecDepth 100000 in
theorem valancelaw07_works.calls (k : Nat)  (r : Bool) (w : World) (h : valancelaw07_works.f k  = some r) :
    Calls Try.prog 24 #[] w fun e w' => e = .returned (.bool r) ∧ Below w.heap.size w w' := by
  have hu41 := Try.underlying41
  have HB := Aside0.mk (Below.refl w.heap.size w)
  have H : ((lines_Break.f (([4, 4, 4] : List Int)) 9 1 true).bind fun t325 => ((lines_Order.f (([5, 2, 5, 1] : List Int))).bind fun t331 => (if (t325.length : Int) = 2 then (if 0 < (t325.length : Int) then (if (((rd_T41 t325 0).f0) == 0 && (((rd_T41 t325 0).f1) == 2)) = true then (if 1 < (t325.length : Int) then (if (((rd_T41 t325 1).f0) == 2 && (((rd_T41 t325 1).f1) == 3)) = true then ((lines_Long.f k (([4, 4] : List Int)) 1).bind fun t339 => (if t339 = 9 then (if (t331.length : Int) = 4 then (if 0 < (t331.length : Int) then (if (rd t331 0) = 3 then (if 3 < (t331.length : Int) then (if (rd t331 3) = 2 then (some true) else (none)) else (none)) else (none)) else (none)) else (none)) else (none))) else (none)) else (none)) else (none)) else (none)) else (none)))) = some r := h
  clear h
  obtain ⟨y322, hy322⟩ : ∃ y_ : List Int, y_ = (([4, 4, 4] : List Int)) := ⟨_, rfl⟩
  replace H : ((lines_Break.f y322 9 1 true).bind fun t325 => ((lines_Order.f (([5, 2, 5, 1] : List Int))).bind fun t331 => (if (t325.length : Int) = 2 then (if 0 < (t325.length : Int) then (if (((rd_T41 t325 0).f0) == 0 && (((rd_T41 t325 0).f1) == 2)) = true then (if 1 < (t325.length : Int) then (if (((rd_T41 t325 1).f0) == 2 && (((rd_T41 t325 1).f1) == 3)) = true then ((lines_Long.f k (([4, 4] : List Int)) 1).bind fun t339 => (if t339 = 9 then (if (t331.length : Int) = 4 then (if 0 < (t331.length : Int) then (if (rd t331 0) = 3 then (if 3 < (t331.length : Int) then (if (rd t331 3) = 2 then (some true) else (none)) else (none)) else (none)) else (none)) else (none)) else (none))) else (none)) else (none)) else (none)) else (none)) else (none)))) = some r := by first | (rw [hy322]; with_reducible exact H) | (have H2_ := (Option.bind_some _ _).symm.trans H; rw [hy322]; with_reducible exact H2_) | (have H2_ := (Option.bind_some _ _).symm.trans H; with_reducible exact H2_) | with_reducible exact H | (rw [hy322]; exact H) | exact H
  have Ny322 := Aside0.mk hy322
  clear hy322
  replace H := Option.bind_eq_some_iff.mp H
  obtain ⟨t325, A10, H⟩ := H
  replace H : ((lines_Order.f (([5, 2, 5, 1] : List Int))).bind fun t331 => (if (t325.length : Int) = 2 then (if 0 < (t325.length : Int) then (if (((rd_T41 t325 0).f0) == 0 && (((rd_T41 t325 0).f1) == 2)) = true then (if 1 < (t325.length : Int) then (if (((rd_T41 t325 1).f0) == 2 && (((rd_T41 t325 1).f1) == 3)) = true then ((lines_Long.f k (([4, 4] : List Int)) 1).bind fun t339 => (if t339 = 9 then (if (t331.length : Int) = 4 then (if 0 < (t331.length : Int) then (if (rd t331 0) = 3 then (if 3 < (t331.length : Int) then (if (rd t331 3) = 2 then (some true) else (none)) else (none)) else (none)) else (none)) else (none)) else (none))) else (none)) else (none)) else (none)) else (none)) else (none))) = some r := H
  have A1 := Aside0.mk A10
  clear A10
  obtain ⟨y328, hy328⟩ : ∃ y_ : List Int, y_ = (([5, 2, 5, 1] : List Int)) := ⟨_, rfl⟩
  replace H : ((lines_Order.f y328).bind fun t331 => (if (t325.length : Int) = 2 then (if 0 < (t325.length : Int) then (if (((rd_T41 t325 0).f0) == 0 && (((rd_T41 t325 0).f1) == 2)) = true then (if 1 < (t325.length : Int) then (if (((rd_T41 t325 1).f0) == 2 && (((rd_T41 t325 1).f1) == 3)) = true then ((lines_Long.f k (([4, 4] : List Int)) 1).bind fun t339 => (if t339 = 9 then (if (t331.length : Int) = 4 then (if 0 < (t331.length : Int) then (if (rd t331 0) = 3 then (if 3 < (t331.length : Int) then (if (rd t331 3) = 2 then (some true) else (none)) else (none)) else (none)) else (none)) else (none)) else (none))) else (none)) else (none)) else (none)) else (none)) else (none))) = some r := by first | (rw [hy328]; with_reducible exact H) | (have H2_ := (Option.bind_some _ _).symm.trans H; rw [hy328]; with_reducible exact H2_) | (have H2_ := (Option.bind_some _ _).symm.trans H; with_reducible exact H2_) | with_reducible exact H | (rw [hy328]; exact H) | exact H
  have Ny328 := Aside0.mk hy328
  clear hy328
  replace H := Option.bind_eq_some_iff.mp H
  obtain ⟨t331, A20, H⟩ := H
  replace H : (if (t325.length : Int) = 2 then (if 0 < (t325.length : Int) then (if (((rd_T41 t325 0).f0) == 0 && (((rd_T41 t325 0).f1) == 2)) = true then (if 1 < (t325.length : Int) then (if (((rd_T41 t325 1).f0) == 2 && (((rd_T41 t325 1).f1) == 3)) = true then ((lines_Long.f k (([4, 4] : List Int)) 1).bind fun t339 => (if t339 = 9 then (if (t331.length : Int) = 4 then (if 0 < (t331.length : Int) then (if (rd t331 0) = 3 then (if 3 < (t331.length : Int) then (if (rd t331 3) = 2 then (some true) else (none)) else (none)) else (none)) else (none)) else (none)) else (none))) else (none)) else (none)) else (none)) else (none)) else (none)) = some r := H
  have A2 := Aside0.mk A20
  clear A20
  by_cases c3 : (t325.length : Int) = 2
  · rw [if_pos c3] at H
    have c3b0 : ((t325.length : Int) == 2) = true := beq_iff_eq.mpr c3
    have c3b1 : ((t325.length : Int) != 2) = false := bne_eq_false_iff_eq.mpr c3
    clear c3
    by_cases c4 : 0 < (t325.length : Int)
    · rw [if_pos c4] at H
      have c4b0 : decide (0 < (t325.length : Int)) = true := decide_eq_true c4
      have c4b1 : decide (0 < t325.length) = true := decide_eq_true (by omega)
      clear c4
      by_cases c5 : (((rd_T41 t325 0).f0) == 0 && (((rd_T41 t325 0).f1) == 2)) = true
      · rw [if_pos c5] at H
        have c5b0 : (((rd_T41 t325 0).f0) == 0 && (((rd_T41 t325 0).f1) == 2)) = true := c5
        (try (have c5b1 : decide (((rd_T41 t325 0).f0) = 0 && (((rd_T41 t325 0).f1) == 2)) = true := by simpa using c5))
        (try (have c5b2 : (((rd_T41 t325 0).f0) == 0 && (((rd_T41 t325 0).f1) == 2)) = true := by simpa using c5))
        clear c5
        by_cases c6 : 1 < (t325.length : Int)
        · rw [if_pos c6] at H
          have c6b0 : decide (1 < (t325.length : Int)) = true := decide_eq_true c6
          have c6b1 : decide (1 < t325.length) = true := decide_eq_true (by omega)
          clear c6
          by_cases c7 : (((rd_T41 t325 1).f0) == 2 && (((rd_T41 t325 1).f1) == 3)) = true
          · rw [if_pos c7] at H
            have c7b0 : (((rd_T41 t325 1).f0) == 2 && (((rd_T41 t325 1).f1) == 3)) = true := c7
            (try (have c7b1 : decide (((rd_T41 t325 1).f0) = 2 && (((rd_T41 t325 1).f1) == 3)) = true := by simpa using c7))
            (try (have c7b2 : (((rd_T41 t325 1).f0) == 2 && (((rd_T41 t325 1).f1) == 3)) = true := by simpa using c7))
            clear c7
            obtain ⟨y336, hy336⟩ : ∃ y_ : List Int, y_ = (([4, 4] : List Int)) := ⟨_, rfl⟩
            replace H : ((lines_Long.f k y336 1).bind fun t339 => (if t339 = 9 then (if (t331.length : Int) = 4 then (if 0 < (t331.length : Int) then (if (rd t331 0) = 3 then (if 3 < (t331.length : Int) then (if (rd t331 3) = 2 then (some true) else (none)) else (none)) else (none)) else (none)) else (none)) else (none))) = some r := by first | (rw [hy336]; with_reducible exact H) | (have H2_ := (Option.bind_some _ _).symm.trans H; rw [hy336]; with_reducible exact H2_) | (have H2_ := (Option.bind_some _ _).symm.trans H; with_reducible exact H2_) | with_reducible exact H | (rw [hy336]; exact H) | exact H
            have Ny336 := Aside0.mk hy336
            clear hy336
            replace H := Option.bind_eq_some_iff.mp H
            obtain ⟨t339, A80, H⟩ := H
            replace H : (if t339 = 9 then (if (t331.length : Int) = 4 then (if 0 < (t331.length : Int) then (if (rd t331 0) = 3 then (if 3 < (t331.length : Int) then (if (rd t331 3) = 2 then (some true) else (none)) else (none)) else (none)) else (none)) else (none)) else (none)) = some r := H
            have A8 := Aside0.mk A80
            clear A80
            by_cases c9 : t339 = 9
            · rw [if_pos c9] at H
              have c9b0 : (t339 == 9) = true := beq_iff_eq.mpr c9
              have c9b1 : (t339 != 9) = false := bne_eq_false_iff_eq.mpr c9
              clear c9
              by_cases c10 : (t331.length : Int) = 4
              · rw [if_pos c10] at H
                have c10b0 : ((t331.length : Int) == 4) = true := beq_iff_eq.mpr c10
                have c10b1 : ((t331.length : Int) != 4) = false := bne_eq_false_iff_eq.mpr c10
                clear c10
                by_cases c11 : 0 < (t331.length : Int)
                · rw [if_pos c11] at H
                  have c11b0 : decide (0 < (t331.length : Int)) = true := decide_eq_true c11
                  have c11b1 : decide (0 < t331.length) = true := decide_eq_true (by omega)
                  clear c11
                  by_cases c12 : (rd t331 0) = 3
                  · rw [if_pos c12] at H
                    have c12b0 : ((rd t331 0) == 3) = true := beq_iff_eq.mpr c12
                    have c12b1 : ((rd t331 0) != 3) = false := bne_eq_false_iff_eq.mpr c12
                    clear c12
                    by_cases c13 : 3 < (t331.length : Int)
                    · rw [if_pos c13] at H
                      have c13b0 : decide (3 < (t331.length : Int)) = true := decide_eq_true c13
                      have c13b1 : decide (3 < t331.length) = true := decide_eq_true (by omega)
                      clear c13
                      by_cases c14 : (rd t331 3) = 2
                      · rw [if_pos c14] at H
                        have c14b0 : ((rd t331 3) == 2) = true := beq_iff_eq.mpr c14
                        have c14b1 : ((rd t331 3) != 2) = false := bne_eq_false_iff_eq.mpr c14
                        clear c14
                        obtain rfl := Option.some.inj H
                        go_enter Try.func24, Try.ntmps24
                        go_wp2_with (first | ((with_reducible refine gate_dst (N := 3) rfl ?_); (try (refine gate_guard (by rfl) ?_; dsimp only)); refine Kd.R_lit (Kd.int .i64) _ 3 ?hg (N := 3) ?hd (xs := ([4, 4, 4] : List Int)) (inner := [.int .i64 4, .int .i64 4, .int .i64 4]) (ok := fun _ => True) (okp := fun _ => True) ?hr ?hp (fun _ hk => hk) trivial (Below.refl _ _) (Nat.le_refl _) (by simp) ?_; (case hd => rfl); (case hg => rfl); (case hr => first | (go_simp; done) | (go_simp; rfl)); (case hp => exact (Reps.one (show Kd.M (Kd.int .i64) _ _ _ 4 [.int .i64 4] from rfl) (Reps.one (show Kd.M (Kd.int .i64) _ _ _ 4 [.int .i64 4] from rfl) (Reps.one (show Kd.M (Kd.int .i64) _ _ _ 4 [.int .i64 4] from rfl) (Reps.none _ _))))); intro v323 w15 ho16 hb hg_ hnew_; clear hg_ hnew_; (first | rw [← Ny322.out] at ho16 | (simp only [Int.reduceToNat] at ho16; rw [← Ny322.out] at ho16)); have n0_ := Aside0.mk (Kd.R_lower ho16 (below_size (by repeat (first | (with_reducible first | exact HB.out | apply below_alloc | apply pw_below_drewN | apply below_drew1) | exact HB.out)))); have n1_ := Aside0.mk (below_step (by repeat (first | (with_reducible first | exact HB.out | apply below_alloc | apply pw_below_drewN | apply below_drew1) | exact HB.out)) hb); clear HB; have HO324 := n0_; have HB := n1_; clear n0_ n1_; clear hb ho16; obtain ⟨Ao17, co17, eo17⟩ := Kd.R_slice HO324.out; subst eo17) | ((with_reducible refine gate_callee (f := 26) rfl ?_); refine goesL_ (some 4) rfl rfl Try.func26 (by kernel_rfl) rfl #[.slice Ao17 y322.length co17, .int .i64 9, .int .i64 1, .bool true] rfl (by (try simp only [List.map_toArray, List.map_cons, List.map_nil]); first | done | rfl | (simp only [List.length_drop, List.length_take]; rfl)) ?_; (with_reducible refine (lines_Break.calls _ _ y322 9 1 true t325 _ ?side1 ?side2 A1.out).mono ?_); (case side1 => repeat (first | exact (Kd.R_reads' HO324.out).2.2 | (with_reducible refine Kd.C_alloc ?_ _) | (with_reducible refine Kd.C_drewN ?_ _) | (with_reducible refine Kd.C_drew ?_))); (case side2 => exact (Kd.R_reads' HO324.out).2.1); rintro e w18 ⟨v326, rfl, ho0, hb⟩; refine ⟨_, rfl, ?_⟩; have n0_ := Aside0.mk (Kd.R_below (by (with_reducible repeat (first | apply Kd.R_alloc | apply Kd.R_drewN | apply Kd.R_drew)); exact HO324.out) hb); have n1_ := Aside0.mk (Kd.R_lower ho0 (below_size (by repeat (first | (with_reducible first | exact HB.out | apply below_alloc | apply pw_below_drewN | apply below_drew1) | exact HB.out)))); have n2_ := Aside0.mk (below_step (by repeat (first | (with_reducible first | exact HB.out | apply below_alloc | apply pw_below_drewN | apply below_drew1) | exact HB.out)) hb); clear HO324; clear HB; have HO324 := n0_; have HO327 := n1_; have HB := n2_; clear n0_ n1_ n2_; (try clear hb); (try clear hb2); (try clear hk); (try clear hi); (try clear ho0)) | ((with_reducible refine gate_dst (N := 5) rfl ?_); (try (refine gate_guard (by rfl) ?_; dsimp only)); refine Kd.R_lit (Kd.int .i64) _ 3 ?hg (N := 5) ?hd (xs := ([5, 2, 5, 1] : List Int)) (inner := [.int .i64 5, .int .i64 2, .int .i64 5, .int .i64 1]) (ok := fun _ => True) (okp := fun _ => True) ?hr ?hp (fun _ hk => hk) trivial (Below.refl _ _) (Nat.le_refl _) (by simp) ?_; (case hd => rfl); (case hg => rfl); (case hr => first | (go_simp; done) | (go_simp; rfl)); (case hp => exact (Reps.one (show Kd.M (Kd.int .i64) _ _ _ 5 [.int .i64 5] from rfl) (Reps.one (show Kd.M (Kd.int .i64) _ _ _ 2 [.int .i64 2] from rfl) (Reps.one (show Kd.M (Kd.int .i64) _ _ _ 5 [.int .i64 5] from rfl) (Reps.one (show Kd.M (Kd.int .i64) _ _ _ 1 [.int .i64 1] from rfl) (Reps.none _ _)))))); intro v329 w19 ho20 hb hg_ hnew_; clear hg_ hnew_; (first | rw [← Ny328.out] at ho20 | (simp only [Int.reduceToNat] at ho20; rw [← Ny328.out] at ho20)); have n0_ := Aside0.mk (Kd.R_elder' (by (with_reducible repeat (first | apply Kd.R_alloc | apply Kd.R_drewN | apply Kd.R_drew)); exact HO324.out) (Kd.R_base ho20) hb); have n1_ := Aside0.mk (Kd.R_below (by (with_reducible repeat (first | apply Kd.R_alloc | apply Kd.R_drewN | apply Kd.R_drew)); exact HO327.out) hb); have n2_ := Aside0.mk (Kd.R_lower (Kd.R_new' ho20 (Kd.R_lt (by (with_reducible repeat (first | apply Kd.R_alloc | apply Kd.R_drewN | apply Kd.R_drew)); exact HO324.out))) (below_size (by repeat (first | (with_reducible first | exact HB.out | apply below_alloc | apply pw_below_drewN | apply below_drew1) | exact HB.out)))); have n3_ := Aside0.mk (below_step (by repeat (first | (with_reducible first | exact HB.out | apply below_alloc | apply pw_below_drewN | apply below_drew1) | exact HB.out)) hb); clear HO324; clear HO327; clear HB; have HO324 := n0_; have HO327 := n1_; have HO330 := n2_; have HB := n3_; clear n0_ n1_ n2_ n3_; clear hb ho20; obtain ⟨Ao21, co21, eo21⟩ := Kd.R_slice HO330.out; subst eo21) | ((with_reducible refine gate_callee (f := 29) rfl ?_); refine goesL_ (some 6) rfl rfl Try.func29 (by kernel_rfl) rfl #[.slice Ao21 y328.length co21] rfl (by (try simp only [List.map_toArray, List.map_cons, List.map_nil]); first | done | rfl | (simp only [List.length_drop, List.length_take]; rfl)) ?_; (with_reducible refine (lines_Order.calls _ _ y328 t331 _ ?side1 ?side2 A2.out).mono ?_); (case side1 => repeat (first | exact (Kd.R_reads' HO330.out).2.2 | (with_reducible refine Kd.C_alloc ?_ _) | (with_reducible refine Kd.C_drewN ?_ _) | (with_reducible refine Kd.C_drew ?_))); (case side2 => exact (Kd.R_reads' HO330.out).2.1); rintro e w22 ⟨v332, rfl, ho0, hb⟩; refine ⟨_, rfl, ?_⟩; have n0_ := Aside0.mk (Kd.R_elder' (by (with_reducible repeat (first | apply Kd.R_alloc | apply Kd.R_drewN | apply Kd.R_drew)); exact HO324.out) (Kd.R_base ho0) hb); have n1_ := Aside0.mk (Kd.R_below (by (with_reducible repeat (first | apply Kd.R_alloc | apply Kd.R_drewN | apply Kd.R_drew)); exact HO327.out) hb); have n2_ := Aside0.mk (Kd.R_elder' (by (with_reducible repeat (first | apply Kd.R_alloc | apply Kd.R_drewN | apply Kd.R_drew)); exact HO330.out) (Kd.R_base ho0) hb); have n3_ := Aside0.mk (Kd.R_lower (Kd.R_new' (Kd.R_new' ho0 (Kd.R_lt (by (with_reducible repeat (first | apply Kd.R_alloc | apply Kd.R_drewN | apply Kd.R_drew)); exact HO324.out))) (Kd.R_lt (by (with_reducible repeat (first | apply Kd.R_alloc | apply Kd.R_drewN | apply Kd.R_drew)); exact HO330.out))) (below_size (by repeat (first | (with_reducible first | exact HB.out | apply below_alloc | apply pw_below_drewN | apply below_drew1) | exact HB.out)))); have n4_ := Aside0.mk (below_step (by repeat (first | (with_reducible first | exact HB.out | apply below_alloc | apply pw_below_drewN | apply below_drew1) | exact HB.out)) hb); clear HO324; clear HO327; clear HO330; clear HB; have HO324 := n0_; have HO327 := n1_; have HO330 := n2_; have HO333 := n3_; have HB := n4_; clear n0_ n1_ n2_ n3_ n4_; (try clear hb); (try clear hb2); (try clear hk); (try clear hi); (try clear ho0); obtain ⟨Ao23, co23, eo23⟩ := Kd.R_slice HO327.out; subst eo23; have p334 : 0 ≤ (0 : Int) := (by omega); have q334 : 0 < (t325.length : Int) := of_decide_eq_true (by first | (with_reducible assumption) | assumption); obtain ⟨ad334, e334, hx334_0, hx334_1⟩ := at_T41 (Kd.R_reads' HO327.out).2.2 0 p334 q334; cases e334; have qi334 : (0 < t325.length) = True := eq_true (by omega); (try rw [show ((0 : Int)).toNat = 0 from rfl] at hx334_0); (try rw [show 0 * 2 = 0 from rfl] at hx334_0); (try rw [Addr.add_zero'] at hx334_0); (try rw [show ((0 : Int)).toNat = 0 from rfl] at hx334_1); (try rw [show 0 * 2 = 0 from rfl] at hx334_1); (try rw [Addr.add_zero'] at hx334_1); replace p334 := eq_true p334; replace q334 := eq_true q334; have p335 : 0 ≤ (1 : Int) := (by omega); have q335 : 1 < (t325.length : Int) := of_decide_eq_true (by first | (with_reducible assumption) | assumption); obtain ⟨ad335, e335, hx335_0, hx335_1⟩ := at_T41 (Kd.R_reads' HO327.out).2.2 1 p335 q335; obtain rfl : ad334 = ad335 := (by injection e335); (try simp only [show (1 : Int).toNat = 1 from rfl, Nat.reduceMul, Nat.reduceEqDiff, Go.Addr.add, ↓reduceIte] at hx335_0); (try simp only [show (1 : Int).toNat = 1 from rfl, Nat.reduceMul, Nat.reduceEqDiff, Go.Addr.add, ↓reduceIte] at hx335_1); have qi335 : (1 < t325.length) = True := eq_true (by omega); (try rw [show ((1 : Int)).toNat = 1 from rfl] at hx335_0); (try rw [show 1 * 2 = 2 from rfl] at hx335_0); (try rw [show ((1 : Int)).toNat = 1 from rfl] at hx335_1); (try rw [show 1 * 2 = 2 from rfl] at hx335_1); replace p335 := eq_true p335; replace q335 := eq_true q335) | ((with_reducible refine gate_dst (N := 25) rfl ?_); (try (refine gate_guard (by rfl) ?_; dsimp only)); refine Kd.R_lit (Kd.int .i64) _ 3 ?hg (N := 25) ?hd (xs := ([4, 4] : List Int)) (inner := [.int .i64 4, .int .i64 4]) (ok := fun _ => True) (okp := fun _ => True) ?hr ?hp (fun _ hk => hk) trivial (Below.refl _ _) (Nat.le_refl _) (by simp) ?_; (case hd => rfl); (case hg => rfl); (case hr => first | (go_simp; done) | (go_simp; rfl)); (case hp => exact (Reps.one (show Kd.M (Kd.int .i64) _ _ _ 4 [.int .i64 4] from rfl) (Reps.one (show Kd.M (Kd.int .i64) _ _ _ 4 [.int .i64 4] from rfl) (Reps.none _ _)))); intro v337 w24 ho25 hb hg_ hnew_; clear hg_ hnew_; (first | rw [← Ny336.out] at ho25 | (simp only [Int.reduceToNat] at ho25; rw [← Ny336.out] at ho25)); have n0_ := Aside0.mk (Kd.R_elder' (by (with_reducible repeat (first | apply Kd.R_alloc | apply Kd.R_drewN | apply Kd.R_drew)); exact HO324.out) (Kd.R_base ho25) hb); have n1_ := Aside0.mk (Kd.R_below (by (with_reducible repeat (first | apply Kd.R_alloc | apply Kd.R_drewN | apply Kd.R_drew)); exact HO327.out) hb); have n2_ := Aside0.mk (Kd.R_elder' (by (with_reducible repeat (first | apply Kd.R_alloc | apply Kd.R_drewN | apply Kd.R_drew)); exact HO330.out) (Kd.R_base ho25) hb); have n3_ := Aside0.mk (Kd.R_elder' (by (with_reducible repeat (first | apply Kd.R_alloc | apply Kd.R_drewN | apply Kd.R_drew)); exact HO333.out) (Kd.R_base ho25) hb); have n4_ := Aside0.mk (Kd.R_lower (Kd.R_new' (Kd.R_new' (Kd.R_new' ho25 (Kd.R_lt (by (with_reducible repeat (first | apply Kd.R_alloc | apply Kd.R_drewN | apply Kd.R_drew)); exact HO324.out))) (Kd.R_lt (by (with_reducible repeat (first | apply Kd.R_alloc | apply Kd.R_drewN | apply Kd.R_drew)); exact HO330.out))) (Kd.R_lt (by (with_reducible repeat (first | apply Kd.R_alloc | apply Kd.R_drewN | apply Kd.R_drew)); exact HO333.out))) (below_size (by repeat (first | (with_reducible first | exact HB.out | apply below_alloc | apply pw_below_drewN | apply below_drew1) | exact HB.out)))); have n5_ := Aside0.mk (below_step (by repeat (first | (with_reducible first | exact HB.out | apply below_alloc | apply pw_below_drewN | apply below_drew1) | exact HB.out)) hb); clear HO324; clear HO327; clear HO330; clear HO333; clear HB; have HO324 := n0_; have HO327 := n1_; have HO330 := n2_; have HO333 := n3_; have HO338 := n4_; have HB := n5_; clear n0_ n1_ n2_ n3_ n4_ n5_; clear hb ho25; obtain ⟨Ao26, co26, eo26⟩ := Kd.R_slice HO338.out; subst eo26) | (go_at_call 23; (with_reducible refine (lines_Long.calls k _ _ y336 1 t339 _ ?side1 ?side2 A8.out).mono ?_); (case side1 => repeat (first | exact (Kd.R_reads' HO338.out).2.2 | (with_reducible refine Kd.C_alloc ?_ _) | (with_reducible refine Kd.C_drewN ?_ _) | (with_reducible refine Kd.C_drew ?_))); (case side2 => exact (Kd.R_reads' HO338.out).2.1); rintro e w27 ⟨rfl, hb⟩; have n0_ := Aside0.mk (Kd.R_below (by (with_reducible repeat (first | apply Kd.R_alloc | apply Kd.R_drewN | apply Kd.R_drew)); exact HO324.out) hb); have n1_ := Aside0.mk (Kd.R_below (by (with_reducible repeat (first | apply Kd.R_alloc | apply Kd.R_drewN | apply Kd.R_drew)); exact HO327.out) hb); have n2_ := Aside0.mk (Kd.R_below (by (with_reducible repeat (first | apply Kd.R_alloc | apply Kd.R_drewN | apply Kd.R_drew)); exact HO330.out) hb); have n3_ := Aside0.mk (Kd.R_below (by (with_reducible repeat (first | apply Kd.R_alloc | apply Kd.R_drewN | apply Kd.R_drew)); exact HO333.out) hb); have n4_ := Aside0.mk (Kd.R_below (by (with_reducible repeat (first | apply Kd.R_alloc | apply Kd.R_drewN | apply Kd.R_drew)); exact HO338.out) hb); have n5_ := Aside0.mk (below_step (by repeat (first | (with_reducible first | exact HB.out | apply below_alloc | apply pw_below_drewN | apply below_drew1) | exact HB.out)) hb); clear HO324; clear HO327; clear HO330; clear HO333; clear HO338; clear HB; have HO324 := n0_; have HO327 := n1_; have HO330 := n2_; have HO333 := n3_; have HO338 := n4_; have HB := n5_; clear n0_ n1_ n2_ n3_ n4_ n5_; (try clear hb); (try clear hb2); (try clear hk); (try clear hi); obtain ⟨Ao28, co28, eo28⟩ := Kd.R_slice HO333.out; subst eo28; have p340 : 0 ≤ (0 : Int) := (by omega); have q340 : 0 < (t331.length : Int) := of_decide_eq_true (by first | (with_reducible assumption) | assumption); obtain ⟨ad340, e340, hx340_0⟩ := Kd.at_int (Kd.R_reads' HO333.out).2.2 0 p340 q340; cases e340; have qi340 : (0 < t331.length) = True := eq_true (by omega); (try rw [show ((0 : Int)).toNat = 0 from rfl] at hx340_0); (try rw [Addr.add_zero'] at hx340_0); replace p340 := eq_true p340; replace q340 := eq_true q340; have p341 : 0 ≤ (3 : Int) := (by omega); have q341 : 3 < (t331.length : Int) := of_decide_eq_true (by first | (with_reducible assumption) | assumption); obtain ⟨ad341, e341, hx341_0⟩ := Kd.at_int (Kd.R_reads' HO333.out).2.2 3 p341 q341; obtain rfl : ad340 = ad341 := (by injection e341); (try simp only [show (3 : Int).toNat = 3 from rfl, Nat.reduceMul, Nat.reduceEqDiff, Go.Addr.add, ↓reduceIte] at hx341_0); have qi341 : (3 < t331.length) = True := eq_true (by omega); (try rw [show ((3 : Int)).toNat = 3 from rfl] at hx341_0); replace p341 := eq_true p341; replace q341 := eq_true q341))
                        go_ret
                        exact ⟨by first | rfl | (simp [errW_none, errW_some] <;> rfl) | (simp [*, errW_none, errW_some] <;> rfl), by repeat (first | (with_reducible first | exact HB.out | apply below_alloc | apply pw_below_drewN | apply below_drew1) | exact HB.out)⟩
                      · rw [if_neg c14] at H
                        exact absurd H (by simp)
                    · rw [if_neg c13] at H
                      exact absurd H (by simp)
                  · rw [if_neg c12] at H
                    exact absurd H (by simp)
                · rw [if_neg c11] at H
                  exact absurd H (by simp)
              · rw [if_neg c10] at H
                exact absurd H (by simp)
            · rw [if_neg c9] at H
              exact absurd H (by simp)
          · rw [if_neg c7] at H
            exact absurd H (by simp)
        · rw [if_neg c6] at H
          exact absurd H (by simp)
      · rw [if_neg c5] at H
        exact absurd H (by simp)
    · rw [if_neg c4] at H
      exact absurd H (by simp)
  · rw [if_neg c3] at H
    exact absurd H (by simp)

end Go.Proofs.Ytnmcefpnpfaklad.V
