/- What the functions of this seat answer, as plain Lean functions, and that the calls come to just that (written by a program of this repo, over the kit's printer; Lean checks it). -/
import Derived.Test.YtnmcefpnpfaklacVx0
import Derived.Test.YtnmcefpnpfaklacVx4
import Derived.Test.YtnmcefpnpfaklacVx5
import Derived.Test.YtnmcefpnpfaklacVx7
import Derived.Test.YtnmcefpnpfaklacVx9
namespace Go.Proofs.Ytnmcefpnpfaklac.V
open Go.RowKit Go.Proofs.YtnmcefpnpfaklacW.PrintWords Go.Proofs.YtnmcefpnpfaklacW.PrintLast Go.Proofs.YtnmcefpnpfaklacW.PrintMore
attribute [local go_sem] max2_int min2_int max_two min_two max_three min_three max_four min_four   -- for this text's walks alone
set_option linter.unusedVariables false
set_option linter.unusedSimpArgs false

/-! ### valancelaw11_works: function 15 -/
def valancelaw11_works.f  : Option (Bool) := (some (([(⟨(⟨0, 50⟩ : S30), 1⟩ : S33), (⟨(⟨100, 140⟩ : S30), 1⟩ : S33)] : List (S33)) : List (S33))).bind fun y130 => ((snap_At.f 10 30 2 10).bind fun bt133 => ((snap_Rest.f 1 y130 50 200 60).bind fun t135 => (if t135 = 100 then ((snap_Rest.f 0 y130 50 200 60).bind fun t136 => (if t136 = 60 then ((snap_Stops.f y130 50 200).bind fun t137 => (if (t137.length : Int) = 2 then ((snap_Best.f (([0, 100] : List Int)) 50).bind fun t143 => (if t143 = 0 then ((snap_Best.f ([] : List Int) 5).bind fun t144 => (if t144 = (-1) then (if bt133.1 = 15 then (some bt133.2) else (none)) else (none))) else (none))) else (none))) else (none))) else (none))))
set_option maxHeartbeats 8000000 in
set_option maxRecDepth 100000 in
theorem valancelaw11_works.calls  (r : Bool) (w : World) (h : valancelaw11_works.f  = some r) :
    Calls Try.prog 15 #[] w fun e w' => e = .returned (.bool r) ∧ Below w.heap.size w w' := by
  have hu30 := Try.underlying30
  have hu33 := Try.underlying33
  have HB := Aside0.mk (Below.refl w.heap.size w)
  have H : ((some (([(⟨(⟨0, 50⟩ : S30), 1⟩ : S33), (⟨(⟨100, 140⟩ : S30), 1⟩ : S33)] : List (S33)) : List (S33))).bind fun y130 => ((snap_At.f 10 30 2 10).bind fun bt133 => ((snap_Rest.f 1 y130 50 200 60).bind fun t135 => (if t135 = 100 then ((snap_Rest.f 0 y130 50 200 60).bind fun t136 => (if t136 = 60 then ((snap_Stops.f y130 50 200).bind fun t137 => (if (t137.length : Int) = 2 then ((snap_Best.f (([0, 100] : List Int)) 50).bind fun t143 => (if t143 = 0 then ((snap_Best.f ([] : List Int) 5).bind fun t144 => (if t144 = (-1) then (if bt133.1 = 15 then (some bt133.2) else (none)) else (none))) else (none))) else (none))) else (none))) else (none))))) = some r := h
  clear h
  obtain ⟨y130, hy130⟩ : ∃ y_ : List (S33), y_ = (([(⟨(⟨0, 50⟩ : S30), 1⟩ : S33), (⟨(⟨100, 140⟩ : S30), 1⟩ : S33)] : List (S33))) := ⟨_, rfl⟩
  replace H : ((snap_At.f 10 30 2 10).bind fun bt133 => ((snap_Rest.f 1 y130 50 200 60).bind fun t135 => (if t135 = 100 then ((snap_Rest.f 0 y130 50 200 60).bind fun t136 => (if t136 = 60 then ((snap_Stops.f y130 50 200).bind fun t137 => (if (t137.length : Int) = 2 then ((snap_Best.f (([0, 100] : List Int)) 50).bind fun t143 => (if t143 = 0 then ((snap_Best.f ([] : List Int) 5).bind fun t144 => (if t144 = (-1) then (if bt133.1 = 15 then (some bt133.2) else (none)) else (none))) else (none))) else (none))) else (none))) else (none)))) = some r := by first | (rw [hy130]; with_reducible exact H) | (have H2_ := (Option.bind_some _ _).symm.trans H; rw [hy130]; with_reducible exact H2_) | (have H2_ := (Option.bind_some _ _).symm.trans H; with_reducible exact H2_) | with_reducible exact H | (rw [hy130]; exact H) | exact H
  have Ny130 := Aside0.mk hy130
  clear hy130
  replace H := Option.bind_eq_some_iff.mp H
  obtain ⟨⟨t133, t134⟩, A10, H⟩ := H
  replace H : ((snap_Rest.f 1 y130 50 200 60).bind fun t135 => (if t135 = 100 then ((snap_Rest.f 0 y130 50 200 60).bind fun t136 => (if t136 = 60 then ((snap_Stops.f y130 50 200).bind fun t137 => (if (t137.length : Int) = 2 then ((snap_Best.f (([0, 100] : List Int)) 50).bind fun t143 => (if t143 = 0 then ((snap_Best.f ([] : List Int) 5).bind fun t144 => (if t144 = (-1) then (if t133 = 15 then (some t134) else (none)) else (none))) else (none))) else (none))) else (none))) else (none))) = some r := H
  have A1 := Aside0.mk A10
  clear A10
  replace H := Option.bind_eq_some_iff.mp H
  obtain ⟨t135, A20, H⟩ := H
  replace H : (if t135 = 100 then ((snap_Rest.f 0 y130 50 200 60).bind fun t136 => (if t136 = 60 then ((snap_Stops.f y130 50 200).bind fun t137 => (if (t137.length : Int) = 2 then ((snap_Best.f (([0, 100] : List Int)) 50).bind fun t143 => (if t143 = 0 then ((snap_Best.f ([] : List Int) 5).bind fun t144 => (if t144 = (-1) then (if t133 = 15 then (some t134) else (none)) else (none))) else (none))) else (none))) else (none))) else (none)) = some r := H
  have A2 := Aside0.mk A20
  clear A20
  by_cases c3 : t135 = 100
  · rw [if_pos c3] at H
    have c3b0 : (t135 == 100) = true := beq_iff_eq.mpr c3
    have c3b1 : (t135 != 100) = false := bne_eq_false_iff_eq.mpr c3
    clear c3
    replace H := Option.bind_eq_some_iff.mp H
    obtain ⟨t136, A40, H⟩ := H
    replace H : (if t136 = 60 then ((snap_Stops.f y130 50 200).bind fun t137 => (if (t137.length : Int) = 2 then ((snap_Best.f (([0, 100] : List Int)) 50).bind fun t143 => (if t143 = 0 then ((snap_Best.f ([] : List Int) 5).bind fun t144 => (if t144 = (-1) then (if t133 = 15 then (some t134) else (none)) else (none))) else (none))) else (none))) else (none)) = some r := H
    have A4 := Aside0.mk A40
    clear A40
    by_cases c5 : t136 = 60
    · rw [if_pos c5] at H
      have c5b0 : (t136 == 60) = true := beq_iff_eq.mpr c5
      have c5b1 : (t136 != 60) = false := bne_eq_false_iff_eq.mpr c5
      clear c5
      replace H := Option.bind_eq_some_iff.mp H
      obtain ⟨t137, A60, H⟩ := H
      replace H : (if (t137.length : Int) = 2 then ((snap_Best.f (([0, 100] : List Int)) 50).bind fun t143 => (if t143 = 0 then ((snap_Best.f ([] : List Int) 5).bind fun t144 => (if t144 = (-1) then (if t133 = 15 then (some t134) else (none)) else (none))) else (none))) else (none)) = some r := H
      have A6 := Aside0.mk A60
      clear A60
      by_cases c7 : (t137.length : Int) = 2
      · rw [if_pos c7] at H
        have c7b0 : ((t137.length : Int) == 2) = true := beq_iff_eq.mpr c7
        have c7b1 : ((t137.length : Int) != 2) = false := bne_eq_false_iff_eq.mpr c7
        clear c7
        obtain ⟨y140, hy140⟩ : ∃ y_ : List Int, y_ = (([0, 100] : List Int)) := ⟨_, rfl⟩
        replace H : ((snap_Best.f y140 50).bind fun t143 => (if t143 = 0 then ((snap_Best.f ([] : List Int) 5).bind fun t144 => (if t144 = (-1) then (if t133 = 15 then (some t134) else (none)) else (none))) else (none))) = some r := by first | (rw [hy140]; with_reducible exact H) | (have H2_ := (Option.bind_some _ _).symm.trans H; rw [hy140]; with_reducible exact H2_) | (have H2_ := (Option.bind_some _ _).symm.trans H; with_reducible exact H2_) | with_reducible exact H | (rw [hy140]; exact H) | exact H
        have Ny140 := Aside0.mk hy140
        clear hy140
        replace H := Option.bind_eq_some_iff.mp H
        obtain ⟨t143, A80, H⟩ := H
        replace H : (if t143 = 0 then ((snap_Best.f ([] : List Int) 5).bind fun t144 => (if t144 = (-1) then (if t133 = 15 then (some t134) else (none)) else (none))) else (none)) = some r := H
        have A8 := Aside0.mk A80
        clear A80
        by_cases c9 : t143 = 0
        · rw [if_pos c9] at H
          have c9b0 : (t143 == 0) = true := beq_iff_eq.mpr c9
          have c9b1 : (t143 != 0) = false := bne_eq_false_iff_eq.mpr c9
          clear c9
          replace H := Option.bind_eq_some_iff.mp H
          obtain ⟨t144, A100, H⟩ := H
          replace H : (if t144 = (-1) then (if t133 = 15 then (some t134) else (none)) else (none)) = some r := H
          have A10 := Aside0.mk A100
          clear A100
          by_cases c11 : t144 = (-1)
          · rw [if_pos c11] at H
            have c11b0 : (t144 == (-1)) = true := beq_iff_eq.mpr c11
            have c11b1 : (t144 != (-1)) = false := bne_eq_false_iff_eq.mpr c11
            clear c11
            by_cases c12 : t133 = 15
            · rw [if_pos c12] at H
              have c12b0 : (t133 == 15) = true := beq_iff_eq.mpr c12
              have c12b1 : (t133 != 15) = false := bne_eq_false_iff_eq.mpr c12
              clear c12
              obtain rfl := Option.some.inj H
              go_enter Try.func15, Try.ntmps15
              go_wp2_with (first | ((with_reducible refine gate_dst (N := 8) rfl ?_); (try (refine gate_guard (by rfl) ?_; dsimp only)); refine Kd.R_lit k33 _ 33 ?hg (N := 8) ?hd (xs := ([(⟨(⟨0, 50⟩ : S30), 1⟩ : S33), (⟨(⟨100, 140⟩ : S30), 1⟩ : S33)] : List (S33))) (inner := [.int .i64 0, .int .i64 50, .int .i64 1, .int .i64 100, .int .i64 140, .int .i64 1]) (ok := fun _ => True) (okp := fun _ => True) ?hr ?hp (fun _ hk => hk) trivial (Below.refl _ _) (Nat.le_refl _) (by simp) ?_; (case hd => rfl); (case hg => rfl); (case hr => first | (go_simp; done) | (go_simp; rfl)); (case hp => exact (Reps.c3 (show Kd.M k33 _ _ _ (⟨(⟨0, 50⟩ : S30), 1⟩ : S33) [.int .i64 0, .int .i64 50, .int .i64 1] from (k33_mkM _ _ _ (⟨(⟨0, 50⟩ : S30), 1⟩ : S33) )) (Reps.c3 (show Kd.M k33 _ _ _ (⟨(⟨100, 140⟩ : S30), 1⟩ : S33) [.int .i64 100, .int .i64 140, .int .i64 1] from (k33_mkM _ _ _ (⟨(⟨100, 140⟩ : S30), 1⟩ : S33) )) (Reps.none _ _)))); intro v131 w13 ho14 hb hg_ hnew_; clear hg_ hnew_; (first | rw [← Ny130.out] at ho14 | (simp only [Int.reduceToNat] at ho14; rw [← Ny130.out] at ho14)); have n0_ := Aside0.mk (Kd.R_lower ho14 (below_size (by repeat (first | (with_reducible first | exact HB.out | apply below_alloc | apply pw_below_drewN | apply below_drew1) | exact HB.out)))); have n1_ := Aside0.mk (below_step (by repeat (first | (with_reducible first | exact HB.out | apply below_alloc | apply pw_below_drewN | apply below_drew1) | exact HB.out)) hb); clear HB; have HO132 := n0_; have HB := n1_; clear n0_ n1_; clear hb ho14) | ((with_reducible refine gate_callee (f := 17) rfl ?_); refine goesL_ (some 12) rfl rfl Try.func17 (by kernel_rfl) rfl #[.agg #[.int .i64 10, .int .i64 30, .int .i64 2], .int .i64 10] rfl (by (try simp only [List.map_toArray, List.map_cons, List.map_nil]); first | done | rfl | (simp only [List.length_drop, List.length_take]; rfl)) ?_; (with_reducible refine (snap_At.calls 10 30 2 10 t133 t134 _ A1.out).mono ?_); rintro e w15 ⟨rfl, hb⟩; refine ⟨_, rfl, ?_⟩; have n0_ := Aside0.mk (Kd.R_below (by (with_reducible repeat (first | apply Kd.R_alloc | apply Kd.R_drewN | apply Kd.R_drew)); exact HO132.out) hb); have n1_ := Aside0.mk (below_step (by repeat (first | (with_reducible first | exact HB.out | apply below_alloc | apply pw_below_drewN | apply below_drew1) | exact HB.out)) hb); clear HO132; clear HB; have HO132 := n0_; have HB := n1_; clear n0_ n1_; (try clear hb); (try clear hb2); (try clear hk); (try clear hi); obtain ⟨Ao16, co16, eo16⟩ := Kd.R_slice HO132.out; subst eo16) | ((with_reducible refine gate_callee (f := 19) rfl ?_); refine goesL_ (some 16) rfl rfl Try.func19 (by kernel_rfl) rfl #[.int .i64 1, .slice Ao16 y130.length co16, .int .i64 50, .int .i64 200, .int .i64 60] rfl (by (try simp only [List.map_toArray, List.map_cons, List.map_nil]); first | done | rfl | (simp only [List.length_drop, List.length_take]; rfl)) ?_; (with_reducible refine (snap_Rest.calls 1 _ _ y130 50 200 60 t135 _ ?side1 ?side2 A2.out).mono ?_); (case side1 => repeat (first | exact (Kd.R_reads' HO132.out).2.2 | (with_reducible refine Kd.C_alloc ?_ _) | (with_reducible refine Kd.C_drewN ?_ _) | (with_reducible refine Kd.C_drew ?_))); (case side2 => exact (Kd.R_reads' HO132.out).2.1); rintro e w17 ⟨rfl, hb⟩; refine ⟨_, rfl, ?_⟩; have n0_ := Aside0.mk (Kd.R_below (by (with_reducible repeat (first | apply Kd.R_alloc | apply Kd.R_drewN | apply Kd.R_drew)); exact HO132.out) hb); have n1_ := Aside0.mk (below_step (by repeat (first | (with_reducible first | exact HB.out | apply below_alloc | apply pw_below_drewN | apply below_drew1) | exact HB.out)) hb); clear HO132; clear HB; have HO132 := n0_; have HB := n1_; clear n0_ n1_; (try clear hb); (try clear hb2); (try clear hk); (try clear hi)) | (go_at_call 19; (with_reducible refine (snap_Rest.calls 0 _ _ y130 50 200 60 t136 _ ?side1 ?side2 A4.out).mono ?_); (case side1 => repeat (first | exact (Kd.R_reads' HO132.out).2.2 | (with_reducible refine Kd.C_alloc ?_ _) | (with_reducible refine Kd.C_drewN ?_ _) | (with_reducible refine Kd.C_drew ?_))); (case side2 => exact (Kd.R_reads' HO132.out).2.1); rintro e w18 ⟨rfl, hb⟩; have n0_ := Aside0.mk (Kd.R_below (by (with_reducible repeat (first | apply Kd.R_alloc | apply Kd.R_drewN | apply Kd.R_drew)); exact HO132.out) hb); have n1_ := Aside0.mk (below_step (by repeat (first | (with_reducible first | exact HB.out | apply below_alloc | apply pw_below_drewN | apply below_drew1) | exact HB.out)) hb); clear HO132; clear HB; have HO132 := n0_; have HB := n1_; clear n0_ n1_; (try clear hb); (try clear hb2); (try clear hk); (try clear hi)) | (go_at_call 22; (with_reducible refine (snap_Stops.calls _ _ y130 50 200 t137 _ ?side1 ?side2 A6.out).mono ?_); (case side1 => repeat (first | exact (Kd.R_reads' HO132.out).2.2 | (with_reducible refine Kd.C_alloc ?_ _) | (with_reducible refine Kd.C_drewN ?_ _) | (with_reducible refine Kd.C_drew ?_))); (case side2 => exact (Kd.R_reads' HO132.out).2.1); rintro e w19 ⟨v138, rfl, ho0, hb⟩; have n0_ := Aside0.mk (Kd.R_below (by (with_reducible repeat (first | apply Kd.R_alloc | apply Kd.R_drewN | apply Kd.R_drew)); exact HO132.out) hb); have n1_ := Aside0.mk (Kd.R_lower ho0 (below_size (by repeat (first | (with_reducible first | exact HB.out | apply below_alloc | apply pw_below_drewN | apply below_drew1) | exact HB.out)))); have n2_ := Aside0.mk (below_step (by repeat (first | (with_reducible first | exact HB.out | apply below_alloc | apply pw_below_drewN | apply below_drew1) | exact HB.out)) hb); clear HO132; clear HB; have HO132 := n0_; have HO139 := n1_; have HB := n2_; clear n0_ n1_ n2_; (try clear hb); (try clear hb2); (try clear hk); (try clear hi); (try clear ho0); obtain ⟨Ao20, co20, eo20⟩ := Kd.R_slice HO139.out; subst eo20) | ((with_reducible refine gate_dst (N := 30) rfl ?_); (try (refine gate_guard (by rfl) ?_; dsimp only)); refine Kd.R_lit (Kd.int .i64) _ 3 ?hg (N := 30) ?hd (xs := ([0, 100] : List Int)) (inner := [.int .i64 0, .int .i64 100]) (ok := fun _ => True) (okp := fun _ => True) ?hr ?hp (fun _ hk => hk) trivial (Below.refl _ _) (Nat.le_refl _) (by simp) ?_; (case hd => rfl); (case hg => rfl); (case hr => first | (go_simp; done) | (go_simp; rfl)); (case hp => exact (Reps.one (show Kd.M (Kd.int .i64) _ _ _ 0 [.int .i64 0] from rfl) (Reps.one (show Kd.M (Kd.int .i64) _ _ _ 100 [.int .i64 100] from rfl) (Reps.none _ _)))); intro v141 w21 ho22 hb hg_ hnew_; clear hg_ hnew_; (first | rw [← Ny140.out] at ho22 | (simp only [Int.reduceToNat] at ho22; rw [← Ny140.out] at ho22)); have n0_ := Aside0.mk (Kd.R_below (by (with_reducible repeat (first | apply Kd.R_alloc | apply Kd.R_drewN | apply Kd.R_drew)); exact HO132.out) hb); have n1_ := Aside0.mk (Kd.R_elder' (by (with_reducible repeat (first | apply Kd.R_alloc | apply Kd.R_drewN | apply Kd.R_drew)); exact HO139.out) (Kd.R_base ho22) hb); have n2_ := Aside0.mk (Kd.R_lower (Kd.R_new' ho22 (Kd.R_lt (by (with_reducible repeat (first | apply Kd.R_alloc | apply Kd.R_drewN | apply Kd.R_drew)); exact HO139.out))) (below_size (by repeat (first | (with_reducible first | exact HB.out | apply below_alloc | apply pw_below_drewN | apply below_drew1) | exact HB.out)))); have n3_ := Aside0.mk (below_step (by repeat (first | (with_reducible first | exact HB.out | apply below_alloc | apply pw_below_drewN | apply below_drew1) | exact HB.out)) hb); clear HO132; clear HO139; clear HB; have HO132 := n0_; have HO139 := n1_; have HO142 := n2_; have HB := n3_; clear n0_ n1_ n2_ n3_; clear hb ho22; obtain ⟨Ao23, co23, eo23⟩ := Kd.R_slice HO142.out; subst eo23) | (go_at_call 24; (with_reducible refine (snap_Best.calls _ _ y140 50 t143 _ ?side1 ?side2 A8.out).mono ?_); (case side1 => repeat (first | exact (Kd.R_reads' HO142.out).2.2 | (with_reducible refine Kd.C_alloc ?_ _) | (with_reducible refine Kd.C_drewN ?_ _) | (with_reducible refine Kd.C_drew ?_))); (case side2 => exact (Kd.R_reads' HO142.out).2.1); rintro e w24 ⟨rfl, hb⟩; have n0_ := Aside0.mk (Kd.R_below (by (with_reducible repeat (first | apply Kd.R_alloc | apply Kd.R_drewN | apply Kd.R_drew)); exact HO132.out) hb); have n1_ := Aside0.mk (Kd.R_below (by (with_reducible repeat (first | apply Kd.R_alloc | apply Kd.R_drewN | apply Kd.R_drew)); exact HO139.out) hb); have n2_ := Aside0.mk (Kd.R_below (by (with_reducible repeat (first | apply Kd.R_alloc | apply Kd.R_drewN | apply Kd.R_drew)); exact HO142.out) hb); have n3_ := Aside0.mk (below_step (by repeat (first | (with_reducible first | exact HB.out | apply below_alloc | apply pw_below_drewN | apply below_drew1) | exact HB.out)) hb); clear HO132; clear HO139; clear HO142; clear HB; have HO132 := n0_; have HO139 := n1_; have HO142 := n2_; have HB := n3_; clear n0_ n1_ n2_ n3_; (try clear hb); (try clear hb2); (try clear hk); (try clear hi)) | (go_at_call 24; (refine (snap_Best.calls _ _ ([] : List Int) 5 t144 _ ?side1 ?side2 A10.out).mono ?_); (case side1 => exact Kd.C_nil _ _); (case side2 => exact Nat.le_refl _); rintro e w25 ⟨rfl, hb⟩; have n0_ := Aside0.mk (Kd.R_below (by (with_reducible repeat (first | apply Kd.R_alloc | apply Kd.R_drewN | apply Kd.R_drew)); exact HO132.out) hb); have n1_ := Aside0.mk (Kd.R_below (by (with_reducible repeat (first | apply Kd.R_alloc | apply Kd.R_drewN | apply Kd.R_drew)); exact HO139.out) hb); have n2_ := Aside0.mk (Kd.R_below (by (with_reducible repeat (first | apply Kd.R_alloc | apply Kd.R_drewN | apply Kd.R_drew)); exact HO142.out) hb); have n3_ := Aside0.mk (below_step (by repeat (first | (with_reducible first | exact HB.out | apply below_alloc | apply pw_below_drewN | apply below_drew1) | exact HB.out)) hb); clear HO132; clear HO139; clear HO142; clear HB; have HO132 := n0_; have HO139 := n1_; have HO142 := n2_; have HB := n3_; clear n0_ n1_ n2_ n3_; (try clear hb); (try clear hb2); (try clear hk); (try clear hi)))
              go_ret
              exact ⟨by first | rfl | (simp [errW_none, errW_some] <;> rfl) | (simp [*, errW_none, errW_some] <;> rfl), by repeat (first | (with_reducible first | exact HB.out | apply below_alloc | apply pw_below_drewN | apply below_drew1) | exact HB.out)⟩
            · rw [if_neg c12] at H
              exact absurd H (by simp)
          · rw [if_neg c11] at H
            exact absurd H (by simp)
        · rw [if_neg c9] at H
          exact absurd H (by simp)
      · rw [if_neg c7] at H
        exact absurd H (by simp)
    · rw [if_neg c5] at H
      exact absurd H (by simp)
  · rw [if_neg c3] at H
    exact absurd H (by simp)

end Go.Proofs.Ytnmcefpnpfaklac.V
