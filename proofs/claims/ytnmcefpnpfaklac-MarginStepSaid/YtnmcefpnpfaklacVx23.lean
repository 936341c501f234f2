/- What the functions of this seat answer, as plain Lean functions, and that the calls come to just that (written by a program of this repo, over the kit's printer; Lean checks it). -/
import Derived.Test.YtnmcefpnpfaklacVx0
import Derived.Test.YtnmcefpnpfaklacVx18
import Derived.Test.YtnmcefpnpfaklacVx20
import Derived.Test.YtnmcefpnpfaklacVx21
import Derived.Test.YtnmcefpnpfaklacVx22
namespace Go.Proofs.Ytnmcefpnpfaklac.V
open Go.RowKit Go.Proofs.YtnmcefpnpfaklacW.PrintWords Go.Proofs.YtnmcefpnpfaklacW.PrintLast Go.Proofs.YtnmcefpnpfaklacW.PrintMore
attribute [local go_sem] max2_int min2_int max_two min_two max_three min_three max_four min_four   -- for this text's walks alone
set_option linter.unusedVariables false
set_option linter.unusedSimpArgs false

/-! ### valancelaw06_works: function 26 -/
def valancelaw06_works.f (k : Nat)  : Option (Bool) := (margin_Auto.f 100 41 0 0 0 0 100).bind fun bt209 => ((margin_Stack.f k (([10, 20] : List Int)) (([5, 6] : List Int)) (([4, 3] : List Int))).bind fun bt220 => ((margin_Collapse.f k (([10, (-4), 6, (-1)] : List Int))).bind fun t227 => (if t227 = 6 then ((margin_Pair.f k 3 5).bind fun t228 => (if t228 = 5 then (if bt209.1 = 29 then (if bt209.2 = 30 then (if (bt220.1.length : Int) = 2 then (if 1 < (bt220.1.length : Int) then (if (rd bt220.1 1) = 16 then (some (bt220.2 == 36)) else (none)) else (none)) else (none)) else (none)) else (none)) else (none))) else (none))))
theorem valancelaw06_works.mono : ∀ k, LeO (valancelaw06_works.f k ) (valancelaw06_works.f (k + 1) ) := by
  intro  k
  unfold valancelaw06_works.f
  repeat' first
      | (with_reducible exact margin_Collapse.mono _ _)
      | (with_reducible exact margin_Pair.mono _ _ _)
      | (with_reducible exact margin_Stack.mono _ _ _ _)
      | (with_reducible exact LeO.refl _)
      | (with_reducible exact LeO.none _)
      | (with_reducible refine LeO.ite ?_ ?_)
      | (with_reducible refine LeO.bind ?_ (fun _ => ?_))
      | exact margin_Collapse.mono _ _
      | exact margin_Pair.mono _ _ _
      | exact margin_Stack.mono _ _ _ _
      | exact LeO.none _
      | refine LeO.ite ?_ ?_
      | refine LeO.bind ?_ (fun _ => ?_)
set_option maxHeartbeats 8000000 in
set_option maxRecDepth 100000 in
theorem valancelaw06_works.calls (k : Nat)  (r : Bool) (w : World) (h : valancelaw06_works.f k  = some r) :
    Calls Try.prog 26 #[] w fun e w' => e = .returned (.bool r) ∧ Below w.heap.size w w' := by
  have hu51 := Try.underlying51
  have HB := Aside0.mk (Below.refl w.heap.size w)
  have H : ((margin_Auto.f 100 41 0 0 0 0 100).bind fun bt209 => ((margin_Stack.f k (([10, 20] : List Int)) (([5, 6] : List Int)) (([4, 3] : List Int))).bind fun bt220 => ((margin_Collapse.f k (([10, (-4), 6, (-1)] : List Int))).bind fun t227 => (if t227 = 6 then ((margin_Pair.f k 3 5).bind fun t228 => (if t228 = 5 then (if bt209.1 = 29 then (if bt209.2 = 30 then (if (bt220.1.length : Int) = 2 then (if 1 < (bt220.1.length : Int) then (if (rd bt220.1 1) = 16 then (some (bt220.2 == 36)) else (none)) else (none)) else (none)) else (none)) else (none)) else (none))) else (none))))) = some r := h
  clear h
  replace H := Option.bind_eq_some_iff.mp H
  obtain ⟨⟨t209, t210⟩, A10, H⟩ := H
  replace H : ((margin_Stack.f k (([10, 20] : List Int)) (([5, 6] : List Int)) (([4, 3] : List Int))).bind fun bt220 => ((margin_Collapse.f k (([10, (-4), 6, (-1)] : List Int))).bind fun t227 => (if t227 = 6 then ((margin_Pair.f k 3 5).bind fun t228 => (if t228 = 5 then (if t209 = 29 then (if t210 = 30 then (if (bt220.1.length : Int) = 2 then (if 1 < (bt220.1.length : Int) then (if (rd bt220.1 1) = 16 then (some (bt220.2 == 36)) else (none)) else (none)) else (none)) else (none)) else (none)) else (none))) else (none)))) = some r := H
  have A1 := Aside0.mk A10
  clear A10
  obtain ⟨y211, hy211⟩ : ∃ y_ : List Int, y_ = (([10, 20] : List Int)) := ⟨_, rfl⟩
  replace H : ((margin_Stack.f k y211 (([5, 6] : List Int)) (([4, 3] : List Int))).bind fun bt220 => ((margin_Collapse.f k (([10, (-4), 6, (-1)] : List Int))).bind fun t227 => (if t227 = 6 then ((margin_Pair.f k 3 5).bind fun t228 => (if t228 = 5 then (if t209 = 29 then (if t210 = 30 then (if (bt220.1.length : Int) = 2 then (if 1 < (bt220.1.length : Int) then (if (rd bt220.1 1) = 16 then (some (bt220.2 == 36)) else (none)) else (none)) else (none)) else (none)) else (none)) else (none))) else (none)))) = some r := by first | (rw [hy211]; with_reducible exact H) | (have H2_ := (Option.bind_some _ _).symm.trans H; rw [hy211]; with_reducible exact H2_) | (have H2_ := (Option.bind_some _ _).symm.trans H; with_reducible exact H2_) | with_reducible exact H | (rw [hy211]; exact H) | exact H
  have Ny211 := Aside0.mk hy211
  clear hy211
  obtain ⟨y214, hy214⟩ : ∃ y_ : List Int, y_ = (([5, 6] : List Int)) := ⟨_, rfl⟩
  replace H : ((margin_Stack.f k y211 y214 (([4, 3] : List Int))).bind fun bt220 => ((margin_Collapse.f k (([10, (-4), 6, (-1)] : List Int))).bind fun t227 => (if t227 = 6 then ((margin_Pair.f k 3 5).bind fun t228 => (if t228 = 5 then (if t209 = 29 then (if t210 = 30 then (if (bt220.1.length : Int) = 2 then (if 1 < (bt220.1.length : Int) then (if (rd bt220.1 1) = 16 then (some (bt220.2 == 36)) else (none)) else (none)) else (none)) else (none)) else (none)) else (none))) else (none)))) = some r := by first | (rw [hy214]; with_reducible exact H) | (have H2_ := (Option.bind_some _ _).symm.trans H; rw [hy214]; with_reducible exact H2_) | (have H2_ := (Option.bind_some _ _).symm.trans H; with_reducible exact H2_) | with_reducible exact H | (rw [hy214]; exact H) | exact H
  have Ny214 := Aside0.mk hy214
  clear hy214
  obtain ⟨y217, hy217⟩ : ∃ y_ : List Int, y_ = (([4, 3] : List Int)) := ⟨_, rfl⟩
  replace H : ((margin_Stack.f k y211 y214 y217).bind fun bt220 => ((margin_Collapse.f k (([10, (-4), 6, (-1)] : List Int))).bind fun t227 => (if t227 = 6 then ((margin_Pair.f k 3 5).bind fun t228 => (if t228 = 5 then (if t209 = 29 then (if t210 = 30 then (if (bt220.1.length : Int) = 2 then (if 1 < (bt220.1.length : Int) then (if (rd bt220.1 1) = 16 then (some (bt220.2 == 36)) else (none)) else (none)) else (none)) else (none)) else (none)) else (none))) else (none)))) = some r := by first | (rw [hy217]; with_reducible exact H) | (have H2_ := (Option.bind_some _ _).symm.trans H; rw [hy217]; with_reducible exact H2_) | (have H2_ := (Option.bind_some _ _).symm.trans H; with_reducible exact H2_) | with_reducible exact H | (rw [hy217]; exact H) | exact H
  have Ny217 := Aside0.mk hy217
  clear hy217
  replace H := Option.bind_eq_some_iff.mp H
  obtain ⟨⟨t220, t221⟩, A20, H⟩ := H
  replace H : ((margin_Collapse.f k (([10, (-4), 6, (-1)] : List Int))).bind fun t227 => (if t227 = 6 then ((margin_Pair.f k 3 5).bind fun t228 => (if t228 = 5 then (if t209 = 29 then (if t210 = 30 then (if (t220.length : Int) = 2 then (if 1 < (t220.length : Int) then (if (rd t220 1) = 16 then (some (t221 == 36)) else (none)) else (none)) else (none)) else (none)) else (none)) else (none))) else (none))) = some r := H
  have A2 := Aside0.mk A20
  clear A20
  obtain ⟨y224, hy224⟩ : ∃ y_ : List Int, y_ = (([10, (-4), 6, (-1)] : List Int)) := ⟨_, rfl⟩
  replace H : ((margin_Collapse.f k y224).bind fun t227 => (if t227 = 6 then ((margin_Pair.f k 3 5).bind fun t228 => (if t228 = 5 then (if t209 = 29 then (if t210 = 30 then (if (t220.length : Int) = 2 then (if 1 < (t220.length : Int) then (if (rd t220 1) = 16 then (some (t221 == 36)) else (none)) else (none)) else (none)) else (none)) else (none)) else (none))) else (none))) = some r := by first | (rw [hy224]; with_reducible exact H) | (have H2_ := (Option.bind_some _ _).symm.trans H; rw [hy224]; with_reducible exact H2_) | (have H2_ := (Option.bind_some _ _).symm.trans H; with_reducible exact H2_) | with_reducible exact H | (rw [hy224]; exact H) | exact H
  have Ny224 := Aside0.mk hy224
  clear hy224
  replace H := Option.bind_eq_some_iff.mp H
  obtain ⟨t227, A30, H⟩ := H
  replace H : (if t227 = 6 then ((margin_Pair.f k 3 5).bind fun t228 => (if t228 = 5 then (if t209 = 29 then (if t210 = 30 then (if (t220.length : Int) = 2 then (if 1 < (t220.length : Int) then (if (rd t220 1) = 16 then (some (t221 == 36)) else (none)) else (none)) else (none)) else (none)) else (none)) else (none))) else (none)) = some r := H
  have A3 := Aside0.mk A30
  clear A30
  by_cases c4 : t227 = 6
  · rw [if_pos c4] at H
    have c4b0 : (t227 == 6) = true := beq_iff_eq.mpr c4
    have c4b1 : (t227 != 6) = false := bne_eq_false_iff_eq.mpr c4
    clear c4
    replace H := Option.bind_eq_some_iff.mp H
    obtain ⟨t228, A50, H⟩ := H
    replace H : (if t228 = 5 then (if t209 = 29 then (if t210 = 30 then (if (t220.length : Int) = 2 then (if 1 < (t220.length : Int) then (if (rd t220 1) = 16 then (some (t221 == 36)) else (none)) else (none)) else (none)) else (none)) else (none)) else (none)) = some r := H
    have A5 := Aside0.mk A50
    clear A50
    by_cases c6 : t228 = 5
    · rw [if_pos c6] at H
      have c6b0 : (t228 == 5) = true := beq_iff_eq.mpr c6
      have c6b1 : (t228 != 5) = false := bne_eq_false_iff_eq.mpr c6
      clear c6
      by_cases c7 : t209 = 29
      · rw [if_pos c7] at H
        have c7b0 : (t209 == 29) = true := beq_iff_eq.mpr c7
        have c7b1 : (t209 != 29) = false := bne_eq_false_iff_eq.mpr c7
        clear c7
        by_cases c8 : t210 = 30
        · rw [if_pos c8] at H
          have c8b0 : (t210 == 30) = true := beq_iff_eq.mpr c8
          have c8b1 : (t210 != 30) = false := bne_eq_false_iff_eq.mpr c8
          clear c8
          by_cases c9 : (t220.length : Int) = 2
          · rw [if_pos c9] at H
            have c9b0 : ((t220.length : Int) == 2) = true := beq_iff_eq.mpr c9
            have c9b1 : ((t220.length : Int) != 2) = false := bne_eq_false_iff_eq.mpr c9
            clear c9
            by_cases c10 : 1 < (t220.length : Int)
            · rw [if_pos c10] at H
              have c10b0 : decide (1 < (t220.length : Int)) = true := decide_eq_true c10
              have c10b1 : decide (1 < t220.length) = true := decide_eq_true (by omega)
              clear c10
              by_cases c11 : (rd t220 1) = 16
              · rw [if_pos c11] at H
                have c11b0 : ((rd t220 1) == 16) = true := beq_iff_eq.mpr c11
                have c11b1 : ((rd t220 1) != 16) = false := bne_eq_false_iff_eq.mpr c11
                clear c11
                obtain rfl := Option.some.inj H
                go_enter Try.func26, Try.ntmps26
                go_wp2_with (first | ((with_reducible refine gate_callee (f := 27) rfl ?_); refine goesL_ (some 8) rfl rfl Try.func27 (by kernel_rfl) rfl #[.int .i64 100, .int .i64 41, .agg #[.int .i64 0, .int .i64 0], .agg #[.int .i64 0, .int .i64 0], .int .i64 100] rfl (by (try simp only [List.map_toArray, List.map_cons, List.map_nil]); first | done | rfl | (simp only [List.length_drop, List.length_take]; rfl)) ?_; (with_reducible refine (margin_Auto.calls 100 41 0 0 0 0 100 t209 t210 _ A1.out).mono ?_); rintro e w12 ⟨rfl, hb⟩; refine ⟨_, rfl, ?_⟩; have n0_ := Aside0.mk (below_step (by repeat (first | (with_reducible first | exact HB.out | apply below_alloc | apply pw_below_drewN | apply below_drew1) | exact HB.out)) hb); clear HB; have HB := n0_; clear n0_; (try clear hb); (try clear hb2); (try clear hk); (try clear hi)) | ((with_reducible refine gate_dst (N := 12) rfl ?_); (try (refine gate_guard (by rfl) ?_; dsimp only)); refine Kd.R_lit (Kd.int .i64) _ 3 ?hg (N := 12) ?hd (xs := ([10, 20] : List Int)) (inner := [.int .i64 10, .int .i64 20]) (ok := fun _ => True) (okp := fun _ => True) ?hr ?hp (fun _ hk => hk) trivial (Below.refl _ _) (Nat.le_refl _) (by simp) ?_; (case hd => rfl); (case hg => rfl); (case hr => first | (go_simp; done) | (go_simp; rfl)); (case hp => exact (Reps.one (show Kd.M (Kd.int .i64) _ _ _ 10 [.int .i64 10] from rfl) (Reps.one (show Kd.M (Kd.int .i64) _ _ _ 20 [.int .i64 20] from rfl) (Reps.none _ _)))); intro v212 w13 ho14 hb hg_ hnew_; clear hg_ hnew_; (first | rw [← Ny211.out] at ho14 | (simp only [Int.reduceToNat] at ho14; rw [← Ny211.out] at ho14)); have n0_ := Aside0.mk (Kd.R_lower ho14 (below_size (by repeat (first | (with_reducible first | exact HB.out | apply below_alloc | apply pw_below_drewN | apply below_drew1) | exact HB.out)))); have n1_ := Aside0.mk (below_step (by repeat (first | (with_reducible first | exact HB.out | apply below_alloc | apply pw_below_drewN | apply below_drew1) | exact HB.out)) hb); clear HB; have HO213 := n0_; have HB := n1_; clear n0_ n1_; clear hb ho14) | ((with_reducible refine gate_dst (N := 13) rfl ?_); (try (refine gate_guard (by rfl) ?_; dsimp only)); refine Kd.R_lit (Kd.int .i64) _ 3 ?hg (N := 13) ?hd (xs := ([5, 6] : List Int)) (inner := [.int .i64 5, .int .i64 6]) (ok := fun _ => True) (okp := fun _ => True) ?hr ?hp (fun _ hk => hk) trivial (Below.refl _ _) (Nat.le_refl _) (by simp) ?_; (case hd => rfl); (case hg => rfl); (case hr => first | (go_simp; done) | (go_simp; rfl)); (case hp => exact (Reps.one (show Kd.M (Kd.int .i64) _ _ _ 5 [.int .i64 5] from rfl) (Reps.one (show Kd.M (Kd.int .i64) _ _ _ 6 [.int .i64 6] from rfl) (Reps.none _ _)))); intro v215 w15 ho16 hb hg_ hnew_; clear hg_ hnew_; (first | rw [← Ny214.out] at ho16 | (simp only [Int.reduceToNat] at ho16; rw [← Ny214.out] at ho16)); have n0_ := Aside0.mk (Kd.R_elder' (by (with_reducible repeat (first | apply Kd.R_alloc | apply Kd.R_drewN | apply Kd.R_drew)); exact HO213.out) (Kd.R_base ho16) hb); have n1_ := Aside0.mk (Kd.R_lower (Kd.R_new' ho16 (Kd.R_lt (by (with_reducible repeat (first | apply Kd.R_alloc | apply Kd.R_drewN | apply Kd.R_drew)); exact HO213.out))) (below_size (by repeat (first | (with_reducible first | exact HB.out | apply below_alloc | apply pw_below_drewN | apply below_drew1) | exact HB.out)))); have n2_ := Aside0.mk (below_step (by repeat (first | (with_reducible first | exact HB.out | apply below_alloc | apply pw_below_drewN | apply below_drew1) | exact HB.out)) hb); clear HO213; clear HB; have HO213 := n0_; have HO216 := n1_; have HB := n2_; clear n0_ n1_ n2_; clear hb ho16) | ((with_reducible refine gate_dst (N := 14) rfl ?_); (try (refine gate_guard (by rfl) ?_; dsimp only)); refine Kd.R_lit (Kd.int .i64) _ 3 ?hg (N := 14) ?hd (xs := ([4, 3] : List Int)) (inner := [.int .i64 4, .int .i64 3]) (ok := fun _ => True) (okp := fun _ => True) ?hr ?hp (fun _ hk => hk) trivial (Below.refl _ _) (Nat.le_refl _) (by simp) ?_; (case hd => rfl); (case hg => rfl); (case hr => first | (go_simp; done) | (go_simp; rfl)); (case hp => exact (Reps.one (show Kd.M (Kd.int .i64) _ _ _ 4 [.int .i64 4] from rfl) (Reps.one (show Kd.M (Kd.int .i64) _ _ _ 3 [.int .i64 3] from rfl) (Reps.none _ _)))); intro v218 w17 ho18 hb hg_ hnew_; clear hg_ hnew_; (first | rw [← Ny217.out] at ho18 | (simp only [Int.reduceToNat] at ho18; rw [← Ny217.out] at ho18)); have n0_ := Aside0.mk (Kd.R_elder' (by (with_reducible repeat (first | apply Kd.R_alloc | apply Kd.R_drewN | apply Kd.R_drew)); exact HO213.out) (Kd.R_base ho18) hb); have n1_ := Aside0.mk (Kd.R_elder' (by (with_reducible repeat (first | apply Kd.R_alloc | apply Kd.R_drewN | apply Kd.R_drew)); exact HO216.out) (Kd.R_base ho18) hb); have n2_ := Aside0.mk (Kd.R_lower (Kd.R_new' (Kd.R_new' ho18 (Kd.R_lt (by (with_reducible repeat (first | apply Kd.R_alloc | apply Kd.R_drewN | apply Kd.R_drew)); exact HO213.out))) (Kd.R_lt (by (with_reducible repeat (first | apply Kd.R_alloc | apply Kd.R_drewN | apply Kd.R_drew)); exact HO216.out))) (below_size (by repeat (first | (with_reducible first | exact HB.out | apply below_alloc | apply pw_below_drewN | apply below_drew1) | exact HB.out)))); have n3_ := Aside0.mk (below_step (by repeat (first | (with_reducible first | exact HB.out | apply below_alloc | apply pw_below_drewN | apply below_drew1) | exact HB.out)) hb); clear HO213; clear HO216; clear HB; have HO213 := n0_; have HO216 := n1_; have HO219 := n2_; have HB := n3_; clear n0_ n1_ n2_ n3_; clear hb ho18; obtain ⟨Ao19, co19, eo19⟩ := Kd.R_slice HO213.out; subst eo19; obtain ⟨Ao20, co20, eo20⟩ := Kd.R_slice HO216.out; subst eo20; obtain ⟨Ao21, co21, eo21⟩ := Kd.R_slice HO219.out; subst eo21) | ((with_reducible refine gate_callee (f := 32) rfl ?_); refine goesL_ (some 15) rfl rfl Try.func32 (by kernel_rfl) rfl #[.slice Ao19 y211.length co19, .slice Ao20 y214.length co20, .slice Ao21 y217.length co21] rfl (by (try simp only [List.map_toArray, List.map_cons, List.map_nil]); first | done | rfl | (simp only [List.length_drop, List.length_take]; rfl)) ?_; (with_reducible refine (margin_Stack.calls k _ _ y211 _ _ y214 _ _ y217 t220 t221 _ ?side1 ?side2 ?side3 ?side4 ?side5 ?side6 A2.out).mono ?_); (case side1 => repeat (first | exact (Kd.R_reads' HO213.out).2.2 | (with_reducible refine Kd.C_alloc ?_ _) | (with_reducible refine Kd.C_drewN ?_ _) | (with_reducible refine Kd.C_drew ?_))); (case side2 => exact (Kd.R_reads' HO213.out).2.1); (case side3 => repeat (first | exact (Kd.R_reads' HO216.out).2.2 | (with_reducible refine Kd.C_alloc ?_ _) | (with_reducible refine Kd.C_drewN ?_ _) | (with_reducible refine Kd.C_drew ?_))); (case side4 => exact (Kd.R_reads' HO216.out).2.1); (case side5 => repeat (first | exact (Kd.R_reads' HO219.out).2.2 | (with_reducible refine Kd.C_alloc ?_ _) | (with_reducible refine Kd.C_drewN ?_ _) | (with_reducible refine Kd.C_drew ?_))); (case side6 => exact (Kd.R_reads' HO219.out).2.1); rintro e w22 ⟨v222, rfl, ho0, hb⟩; refine ⟨_, rfl, ?_⟩; have n0_ := Aside0.mk (Kd.R_elder' (by (with_reducible repeat (first | apply Kd.R_alloc | apply Kd.R_drewN | apply Kd.R_drew)); exact HO213.out) (Kd.R_base ho0) hb); have n1_ := Aside0.mk (Kd.R_elder' (by (with_reducible repeat (first | apply Kd.R_alloc | apply Kd.R_drewN | apply Kd.R_drew)); exact HO216.out) (Kd.R_base ho0) hb); have n2_ := Aside0.mk (Kd.R_elder' (by (with_reducible repeat (first | apply Kd.R_alloc | apply Kd.R_drewN | apply Kd.R_drew)); exact HO219.out) (Kd.R_base ho0) hb); have n3_ := Aside0.mk (Kd.R_lower (Kd.R_new' (Kd.R_new' (Kd.R_new' ho0 (Kd.R_lt (by (with_reducible repeat (first | apply Kd.R_alloc | apply Kd.R_drewN | apply Kd.R_drew)); exact HO213.out))) (Kd.R_lt (by (with_reducible repeat (first | apply Kd.R_alloc | apply Kd.R_drewN | apply Kd.R_drew)); exact HO216.out))) (Kd.R_lt (by (with_reducible repeat (first | apply Kd.R_alloc | apply Kd.R_drewN | apply Kd.R_drew)); exact HO219.out))) (below_size (by repeat (first | (with_reducible first | exact HB.out | apply below_alloc | apply pw_below_drewN | apply below_drew1) | exact HB.out)))); have n4_ := Aside0.mk (below_step (by repeat (first | (with_reducible first | exact HB.out | apply below_alloc | apply pw_below_drewN | apply below_drew1) | exact HB.out)) hb); clear HO213; clear HO216; clear HO219; clear HB; have HO213 := n0_; have HO216 := n1_; have HO219 := n2_; have HO223 := n3_; have HB := n4_; clear n0_ n1_ n2_ n3_ n4_; (try clear hb); (try clear hb2); (try clear hk); (try clear hi); (try clear ho0)) | ((with_reducible refine gate_dst (N := 18) rfl ?_); (try (refine gate_guard (by rfl) ?_; dsimp only)); refine Kd.R_lit (Kd.int .i64) _ 3 ?hg (N := 18) ?hd (xs := ([10, (-4), 6, (-1)] : List Int)) (inner := [.int .i64 10, .int .i64 (-4), .int .i64 6, .int .i64 (-1)]) (ok := fun _ => True) (okp := fun _ => True) ?hr ?hp (fun _ hk => hk) trivial (Below.refl _ _) (Nat.le_refl _) (by simp) ?_; (case hd => rfl); (case hg => rfl); (case hr => first | (go_simp; done) | (go_simp; rfl)); (case hp => exact (Reps.one (show Kd.M (Kd.int .i64) _ _ _ 10 [.int .i64 10] from rfl) (Reps.one (show Kd.M (Kd.int .i64) _ _ _ (-4) [.int .i64 (-4)] from rfl) (Reps.one (show Kd.M (Kd.int .i64) _ _ _ 6 [.int .i64 6] from rfl) (Reps.one (show Kd.M (Kd.int .i64) _ _ _ (-1) [.int .i64 (-1)] from rfl) (Reps.none _ _)))))); intro v225 w23 ho24 hb hg_ hnew_; clear hg_ hnew_; (first | rw [← Ny224.out] at ho24 | (simp only [Int.reduceToNat] at ho24; rw [← Ny224.out] at ho24)); have n0_ := Aside0.mk (Kd.R_elder' (by (with_reducible repeat (first | apply Kd.R_alloc | apply Kd.R_drewN | apply Kd.R_drew)); exact HO213.out) (Kd.R_base ho24) hb); have n1_ := Aside0.mk (Kd.R_elder' (by (with_reducible repeat (first | apply Kd.R_alloc | apply Kd.R_drewN | apply Kd.R_drew)); exact HO216.out) (Kd.R_base ho24) hb); have n2_ := Aside0.mk (Kd.R_elder' (by (with_reducible repeat (first | apply Kd.R_alloc | apply Kd.R_drewN | apply Kd.R_drew)); exact HO219.out) (Kd.R_base ho24) hb); have n3_ := Aside0.mk (Kd.R_elder' (by (with_reducible repeat (first | apply Kd.R_alloc | apply Kd.R_drewN | apply Kd.R_drew)); exact HO223.out) (Kd.R_base ho24) hb); have n4_ := Aside0.mk (Kd.R_lower (Kd.R_new' (Kd.R_new' (Kd.R_new' (Kd.R_new' ho24 (Kd.R_lt (by (with_reducible repeat (first | apply Kd.R_alloc | apply Kd.R_drewN | apply Kd.R_drew)); exact HO213.out))) (Kd.R_lt (by (with_reducible repeat (first | apply Kd.R_alloc | apply Kd.R_drewN | apply Kd.R_drew)); exact HO216.out))) (Kd.R_lt (by (with_reducible repeat (first | apply Kd.R_alloc | apply Kd.R_drewN | apply Kd.R_drew)); exact HO219.out))) (Kd.R_lt (by (with_reducible repeat (first | apply Kd.R_alloc | apply Kd.R_drewN | apply Kd.R_drew)); exact HO223.out))) (below_size (by repeat (first | (with_reducible first | exact HB.out | apply below_alloc | apply pw_below_drewN | apply below_drew1) | exact HB.out)))); have n5_ := Aside0.mk (below_step (by repeat (first | (with_reducible first | exact HB.out | apply below_alloc | apply pw_below_drewN | apply below_drew1) | exact HB.out)) hb); clear HO213; clear HO216; clear HO219; clear HO223; clear HB; have HO213 := n0_; have HO216 := n1_; have HO219 := n2_; have HO223 := n3_; have HO226 := n4_; have HB := n5_; clear n0_ n1_ n2_ n3_ n4_ n5_; clear hb ho24; obtain ⟨Ao25, co25, eo25⟩ := Kd.R_slice HO226.out; subst eo25) | ((with_reducible refine gate_callee (f := 29) rfl ?_); refine goesL_ (some 19) rfl rfl Try.func29 (by kernel_rfl) rfl #[.slice Ao25 y224.length co25] rfl (by (try simp only [List.map_toArray, List.map_cons, List.map_nil]); first | done | rfl | (simp only [List.length_drop, List.length_take]; rfl)) ?_; (with_reducible refine (margin_Collapse.calls k _ _ y224 t227 _ ?side1 ?side2 A3.out).mono ?_); (case side1 => repeat (first | exact (Kd.R_reads' HO226.out).2.2 | (with_reducible refine Kd.C_alloc ?_ _) | (with_reducible refine Kd.C_drewN ?_ _) | (with_reducible refine Kd.C_drew ?_))); (case side2 => exact (Kd.R_reads' HO226.out).2.1); rintro e w26 ⟨rfl, hb⟩; refine ⟨_, rfl, ?_⟩; have n0_ := Aside0.mk (Kd.R_below (by (with_reducible repeat (first | apply Kd.R_alloc | apply Kd.R_drewN | apply Kd.R_drew)); exact HO213.out) hb); have n1_ := Aside0.mk (Kd.R_below (by (with_reducible repeat (first | apply Kd.R_alloc | apply Kd.R_drewN | apply Kd.R_drew)); exact HO216.out) hb); have n2_ := Aside0.mk (Kd.R_below (by (with_reducible repeat (first | apply Kd.R_alloc | apply Kd.R_drewN | apply Kd.R_drew)); exact HO219.out) hb); have n3_ := Aside0.mk (Kd.R_below (by (with_reducible repeat (first | apply Kd.R_alloc | apply Kd.R_drewN | apply Kd.R_drew)); exact HO223.out) hb); have n4_ := Aside0.mk (Kd.R_below (by (with_reducible repeat (first | apply Kd.R_alloc | apply Kd.R_drewN | apply Kd.R_drew)); exact HO226.out) hb); have n5_ := Aside0.mk (below_step (by repeat (first | (with_reducible first | exact HB.out | apply below_alloc | apply pw_below_drewN | apply below_drew1) | exact HB.out)) hb); clear HO213; clear HO216; clear HO219; clear HO223; clear HO226; clear HB; have HO213 := n0_; have HO216 := n1_; have HO219 := n2_; have HO223 := n3_; have HO226 := n4_; have HB := n5_; clear n0_ n1_ n2_ n3_ n4_ n5_; (try clear hb); (try clear hb2); (try clear hk); (try clear hi)) | (go_at_call 31; (with_reducible refine (margin_Pair.calls k 3 5 t228 _ A5.out).mono ?_); rintro e w27 ⟨rfl, hb⟩; have n0_ := Aside0.mk (Kd.R_below (by (with_reducible repeat (first | apply Kd.R_alloc | apply Kd.R_drewN | apply Kd.R_drew)); exact HO213.out) hb); have n1_ := Aside0.mk (Kd.R_below (by (with_reducible repeat (first | apply Kd.R_alloc | apply Kd.R_drewN | apply Kd.R_drew)); exact HO216.out) hb); have n2_ := Aside0.mk (Kd.R_below (by (with_reducible repeat (first | apply Kd.R_alloc | apply Kd.R_drewN | apply Kd.R_drew)); exact HO219.out) hb); have n3_ := Aside0.mk (Kd.R_below (by (with_reducible repeat (first | apply Kd.R_alloc | apply Kd.R_drewN | apply Kd.R_drew)); exact HO223.out) hb); have n4_ := Aside0.mk (Kd.R_below (by (with_reducible repeat (first | apply Kd.R_alloc | apply Kd.R_drewN | apply Kd.R_drew)); exact HO226.out) hb); have n5_ := Aside0.mk (below_step (by repeat (first | (with_reducible first | exact HB.out | apply below_alloc | apply pw_below_drewN | apply below_drew1) | exact HB.out)) hb); clear HO213; clear HO216; clear HO219; clear HO223; clear HO226; clear HB; have HO213 := n0_; have HO216 := n1_; have HO219 := n2_; have HO223 := n3_; have HO226 := n4_; have HB := n5_; clear n0_ n1_ n2_ n3_ n4_ n5_; (try clear hb); (try clear hb2); (try clear hk); (try clear hi); obtain ⟨Ao28, co28, eo28⟩ := Kd.R_slice HO223.out; subst eo28; have p229 : 0 ≤ (1 : Int) := (by omega); have q229 : 1 < (t220.length : Int) := of_decide_eq_true (by first | (with_reducible assumption) | assumption); obtain ⟨ad229, e229, hx229_0⟩ := Kd.at_int (Kd.R_reads' HO223.out).2.2 1 p229 q229; cases e229; (try simp only [show (1 : Int).toNat = 1 from rfl, Nat.reduceMul, Nat.reduceEqDiff, Go.Addr.add, ↓reduceIte] at hx229_0); have qi229 : (1 < t220.length) = True := eq_true (by omega); (try rw [show ((1 : Int)).toNat = 1 from rfl] at hx229_0); replace p229 := eq_true p229; replace q229 := eq_true q229))
                go_ret
                exact ⟨by first | rfl | (simp [errW_none, errW_some] <;> rfl) | (simp [*, errW_none, errW_some] <;> rfl), by repeat (first | (with_reducible first | exact HB.out | apply below_alloc | apply pw_below_drewN | apply below_drew1) | exact HB.out)⟩
              · rw [if_neg c11] at H
                exact absurd H (by simp)
            · rw [if_neg c10] at H
              exact absurd H (by simp)
          · rw [if_neg c9] at H
            exact absurd H (by simp)
        · rw [if_neg c8] at H
          exact absurd H (by simp)
      · rw [if_neg c7] at H
        exact absurd H (by simp)
    · rw [if_neg c6] at H
      exact absurd H (by simp)
  · rw [if_neg c4] at H
    exact absurd H (by simp)


theorem works06_eq (k : Nat) (hk : 20 < k) : valancelaw06_works.f k = some true := by
  unfold valancelaw06_works.f
  simp only [margin_Auto_eq, margin_Stack_eq k [10, 20] [5, 6] [4, 3] (by decide) (by simp; omega), margin_Collapse_eq k [10, -4, 6, -1] (by decide) (by simp; omega), margin_Pair_eq k (by omega), Option.bind_some]
  decide

end Go.Proofs.Ytnmcefpnpfaklac.V
