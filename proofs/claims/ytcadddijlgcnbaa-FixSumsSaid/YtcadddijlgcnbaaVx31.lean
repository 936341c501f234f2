/- What the functions of this seat answer, as plain Lean functions, and that the calls come to just that (written by a program of this repo, over the kit's printer; Lean checks it). -/
import Derived.Test.YtcadddijlgcnbaaVx0
import Derived.Test.YtcadddijlgcnbaaVx2
import Derived.Test.YtcadddijlgcnbaaVx3
import Derived.Test.YtcadddijlgcnbaaVx9
import Derived.Test.YtcadddijlgcnbaaVx28
import Derived.Test.YtcadddijlgcnbaaVx29
import Derived.Test.YtcadddijlgcnbaaVx30
namespace Go.Proofs.Ytcadddijlgcnbaa.V
open Go.RowKit Go.Proofs.YtcadddijlgcnbaaW.PrintWords Go.Proofs.YtcadddijlgcnbaaW.PrintLast Go.Proofs.YtcadddijlgcnbaaW.PrintMore
attribute [local go_sem] max2_int min2_int max_two min_two max_three min_three max_four min_four   -- for this text's walks alone
set_option linter.unusedVariables false
set_option linter.unusedSimpArgs false

/-! ### valancelaw01_works: function 34 -/
def valancelaw01_works.f (k : Nat)  : Option (Bool) := (fix_Part.f 640 2500).bind fun t321 => (if t321 = 160 then ((fix_Div.f (-1) 2).bind fun t322 => (if t322 = (-1) then ((fix_Clamp.f 5 7 3).bind fun t323 => (if t323 = 7 then ((fix_Cut.f 1125899906842624).bind fun t324 => (if t324 = 1099511627776 then ((fix_Add.f 3 4).bind fun t325 => (if t325 = 7 then ((fix_Sub.f 3 4).bind fun t326 => (if t326 = (-1) then ((fix_Mul.f k (-3) 4).bind fun t327 => (if t327 = (-12) then ((fix_Sum.f k (([1, 2, 3] : List Int))).bind fun t331 => (some (t331 == 6))) else (none))) else (none))) else (none))) else (none))) else (none))) else (none))) else (none))
theorem valancelaw01_works.mono : ∀ k, LeO (valancelaw01_works.f k ) (valancelaw01_works.f (k + 1) ) := by
  intro  k
  unfold valancelaw01_works.f
  repeat' first
      | (with_reducible exact fix_Mul.mono _ _ _)
      | (with_reducible exact fix_Sum.mono _ _)
      | (with_reducible exact LeO.refl _)
      | (with_reducible exact LeO.none _)
      | (with_reducible refine LeO.ite ?_ ?_)
      | (with_reducible refine LeO.bind ?_ (fun _ => ?_))
      | exact fix_Mul.mono _ _ _
      | exact fix_Sum.mono _ _
      | exact LeO.none _
      | refine LeO.ite ?_ ?_
      | refine LeO.bind ?_ (fun _ => ?_)
set_option maxHeartbeats 8000000 in
set_option maxRecDepth 100000 in
theorem valancelaw01_works.calls (k : Nat)  (r : Bool) (w : World) (h : valancelaw01_works.f k  = some r) :
    Calls Try.prog 34 #[] w fun e w' => e = .returned (.bool r) ∧ Below w.heap.size w w' := by
  have HB := Aside0.mk (Below.refl w.heap.size w)
  have H : ((fix_Part.f 640 2500).bind fun t321 => (if t321 = 160 then ((fix_Div.f (-1) 2).bind fun t322 => (if t322 = (-1) then ((fix_Clamp.f 5 7 3).bind fun t323 => (if t323 = 7 then ((fix_Cut.f 1125899906842624).bind fun t324 => (if t324 = 1099511627776 then ((fix_Add.f 3 4).bind fun t325 => (if t325 = 7 then ((fix_Sub.f 3 4).bind fun t326 => (if t326 = (-1) then ((fix_Mul.f k (-3) 4).bind fun t327 => (if t327 = (-12) then ((fix_Sum.f k (([1, 2, 3] : List Int))).bind fun t331 => (some (t331 == 6))) else (none))) else (none))) else (none))) else (none))) else (none))) else (none))) else (none))) = some r := h
  clear h
  replace H := Option.bind_eq_some_iff.mp H
  obtain ⟨t321, A10, H⟩ := H
  replace H : (if t321 = 160 then ((fix_Div.f (-1) 2).bind fun t322 => (if t322 = (-1) then ((fix_Clamp.f 5 7 3).bind fun t323 => (if t323 = 7 then ((fix_Cut.f 1125899906842624).bind fun t324 => (if t324 = 1099511627776 then ((fix_Add.f 3 4).bind fun t325 => (if t325 = 7 then ((fix_Sub.f 3 4).bind fun t326 => (if t326 = (-1) then ((fix_Mul.f k (-3) 4).bind fun t327 => (if t327 = (-12) then ((fix_Sum.f k (([1, 2, 3] : List Int))).bind fun t331 => (some (t331 == 6))) else (none))) else (none))) else (none))) else (none))) else (none))) else (none))) else (none)) = some r := H
  have A1 := Aside0.mk A10
  clear A10
  by_cases c2 : t321 = 160
  · rw [if_pos c2] at H
    have c2b0 : (t321 == 160) = true := beq_iff_eq.mpr c2
    have c2b1 : (t321 != 160) = false := bne_eq_false_iff_eq.mpr c2
    clear c2
    replace H := Option.bind_eq_some_iff.mp H
    obtain ⟨t322, A30, H⟩ := H
    replace H : (if t322 = (-1) then ((fix_Clamp.f 5 7 3).bind fun t323 => (if t323 = 7 then ((fix_Cut.f 1125899906842624).bind fun t324 => (if t324 = 1099511627776 then ((fix_Add.f 3 4).bind fun t325 => (if t325 = 7 then ((fix_Sub.f 3 4).bind fun t326 => (if t326 = (-1) then ((fix_Mul.f k (-3) 4).bind fun t327 => (if t327 = (-12) then ((fix_Sum.f k (([1, 2, 3] : List Int))).bind fun t331 => (some (t331 == 6))) else (none))) else (none))) else (none))) else (none))) else (none))) else (none)) = some r := H
    have A3 := Aside0.mk A30
    clear A30
    by_cases c4 : t322 = (-1)
    · rw [if_pos c4] at H
      have c4b0 : (t322 == (-1)) = true := beq_iff_eq.mpr c4
      have c4b1 : (t322 != (-1)) = false := bne_eq_false_iff_eq.mpr c4
      clear c4
      replace H := Option.bind_eq_some_iff.mp H
      obtain ⟨t323, A50, H⟩ := H
      replace H : (if t323 = 7 then ((fix_Cut.f 1125899906842624).bind fun t324 => (if t324 = 1099511627776 then ((fix_Add.f 3 4).bind fun t325 => (if t325 = 7 then ((fix_Sub.f 3 4).bind fun t326 => (if t326 = (-1) then ((fix_Mul.f k (-3) 4).bind fun t327 => (if t327 = (-12) then ((fix_Sum.f k (([1, 2, 3] : List Int))).bind fun t331 => (some (t331 == 6))) else (none))) else (none))) else (none))) else (none))) else (none)) = some r := H
      have A5 := Aside0.mk A50
      clear A50
      by_cases c6 : t323 = 7
      · rw [if_pos c6] at H
        have c6b0 : (t323 == 7) = true := beq_iff_eq.mpr c6
        have c6b1 : (t323 != 7) = false := bne_eq_false_iff_eq.mpr c6
        clear c6
        replace H := Option.bind_eq_some_iff.mp H
        obtain ⟨t324, A70, H⟩ := H
        replace H : (if t324 = 1099511627776 then ((fix_Add.f 3 4).bind fun t325 => (if t325 = 7 then ((fix_Sub.f 3 4).bind fun t326 => (if t326 = (-1) then ((fix_Mul.f k (-3) 4).bind fun t327 => (if t327 = (-12) then ((fix_Sum.f k (([1, 2, 3] : List Int))).bind fun t331 => (some (t331 == 6))) else (none))) else (none))) else (none))) else (none)) = some r := H
        have A7 := Aside0.mk A70
        clear A70
        by_cases c8 : t324 = 1099511627776
        · rw [if_pos c8] at H
          have c8b0 : (t324 == 1099511627776) = true := beq_iff_eq.mpr c8
          have c8b1 : (t324 != 1099511627776) = false := bne_eq_false_iff_eq.mpr c8
          clear c8
          replace H := Option.bind_eq_some_iff.mp H
          obtain ⟨t325, A90, H⟩ := H
          replace H : (if t325 = 7 then ((fix_Sub.f 3 4).bind fun t326 => (if t326 = (-1) then ((fix_Mul.f k (-3) 4).bind fun t327 => (if t327 = (-12) then ((fix_Sum.f k (([1, 2, 3] : List Int))).bind fun t331 => (some (t331 == 6))) else (none))) else (none))) else (none)) = some r := H
          have A9 := Aside0.mk A90
          clear A90
          by_cases c10 : t325 = 7
          · rw [if_pos c10] at H
            have c10b0 : (t325 == 7) = true := beq_iff_eq.mpr c10
            have c10b1 : (t325 != 7) = false := bne_eq_false_iff_eq.mpr c10
            clear c10
            replace H := Option.bind_eq_some_iff.mp H
            obtain ⟨t326, A110, H⟩ := H
            replace H : (if t326 = (-1) then ((fix_Mul.f k (-3) 4).bind fun t327 => (if t327 = (-12) then ((fix_Sum.f k (([1, 2, 3] : List Int))).bind fun t331 => (some (t331 == 6))) else (none))) else (none)) = some r := H
            have A11 := Aside0.mk A110
            clear A110
            by_cases c12 : t326 = (-1)
            · rw [if_pos c12] at H
              have c12b0 : (t326 == (-1)) = true := beq_iff_eq.mpr c12
              have c12b1 : (t326 != (-1)) = false := bne_eq_false_iff_eq.mpr c12
              clear c12
              replace H := Option.bind_eq_some_iff.mp H
              obtain ⟨t327, A130, H⟩ := H
              replace H : (if t327 = (-12) then ((fix_Sum.f k (([1, 2, 3] : List Int))).bind fun t331 => (some (t331 == 6))) else (none)) = some r := H
              have A13 := Aside0.mk A130
              clear A130
              by_cases c14 : t327 = (-12)
              · rw [if_pos c14] at H
                have c14b0 : (t327 == (-12)) = true := beq_iff_eq.mpr c14
                have c14b1 : (t327 != (-12)) = false := bne_eq_false_iff_eq.mpr c14
                clear c14
                obtain ⟨y328, hy328⟩ : ∃ y_ : List Int, y_ = (([1, 2, 3] : List Int)) := ⟨_, rfl⟩
                replace H : ((fix_Sum.f k y328).bind fun t331 => (some (t331 == 6))) = some r := by first | (rw [hy328]; with_reducible exact H) | (have H2_ := (Option.bind_some _ _).symm.trans H; rw [hy328]; with_reducible exact H2_) | (have H2_ := (Option.bind_some _ _).symm.trans H; with_reducible exact H2_) | with_reducible exact H | (rw [hy328]; exact H) | exact H
                have Ny328 := Aside0.mk hy328
                clear hy328
                replace H := Option.bind_eq_some_iff.mp H
                obtain ⟨t331, A150, H⟩ := H
                replace H : (some (t331 == 6)) = some r := H
                have A15 := Aside0.mk A150
                clear A150
                obtain rfl := Option.some.inj H
                go_enter Try.func34, Try.ntmps34
                go_wp2_with (first | ((with_reducible refine gate_callee (f := 45) rfl ?_); refine goesL_ (some 1) rfl rfl Try.func45 (by kernel_rfl) rfl #[.int .i64 640, .int .i64 2500] rfl (by (try simp only [List.map_toArray, List.map_cons, List.map_nil]); first | done | rfl | (simp only [List.length_drop, List.length_take]; rfl)) ?_; (with_reducible refine (fix_Part.calls 640 2500 t321 _ A1.out).mono ?_); rintro e w16 ⟨rfl, hb⟩; refine ⟨_, rfl, ?_⟩; have n0_ := Aside0.mk (below_step (by repeat (first | (with_reducible first | exact HB.out | apply below_alloc | apply pw_below_drewN | apply below_drew1) | exact HB.out)) hb); clear HB; have HB := n0_; clear n0_; (try clear hb); (try clear hb2); (try clear hk); (try clear hi)) | (go_at_call 43; (with_reducible refine (fix_Div.calls (-1) 2 t322 _ A3.out).mono ?_); rintro e w17 ⟨rfl, hb⟩; have n0_ := Aside0.mk (below_step (by repeat (first | (with_reducible first | exact HB.out | apply below_alloc | apply pw_below_drewN | apply below_drew1) | exact HB.out)) hb); clear HB; have HB := n0_; clear n0_; (try clear hb); (try clear hb2); (try clear hk); (try clear hi)) | (go_at_call 47; (with_reducible refine (fix_Clamp.calls 5 7 3 t323 _ A5.out).mono ?_); rintro e w18 ⟨rfl, hb⟩; have n0_ := Aside0.mk (below_step (by repeat (first | (with_reducible first | exact HB.out | apply below_alloc | apply pw_below_drewN | apply below_drew1) | exact HB.out)) hb); clear HB; have HB := n0_; clear n0_; (try clear hb); (try clear hb2); (try clear hk); (try clear hi)) | (go_at_call 35; (with_reducible refine (fix_Cut.calls 1125899906842624 t324 _ A7.out).mono ?_); rintro e w19 ⟨rfl, hb⟩; have n0_ := Aside0.mk (below_step (by repeat (first | (with_reducible first | exact HB.out | apply below_alloc | apply pw_below_drewN | apply below_drew1) | exact HB.out)) hb); clear HB; have HB := n0_; clear n0_; (try clear hb); (try clear hb2); (try clear hk); (try clear hi)) | (go_at_call 37; (with_reducible refine (fix_Add.calls 3 4 t325 _ A9.out).mono ?_); rintro e w20 ⟨rfl, hb⟩; have n0_ := Aside0.mk (below_step (by repeat (first | (with_reducible first | exact HB.out | apply below_alloc | apply pw_below_drewN | apply below_drew1) | exact HB.out)) hb); clear HB; have HB := n0_; clear n0_; (try clear hb); (try clear hb2); (try clear hk); (try clear hi)) | (go_at_call 39; (with_reducible refine (fix_Sub.calls 3 4 t326 _ A11.out).mono ?_); rintro e w21 ⟨rfl, hb⟩; have n0_ := Aside0.mk (below_step (by repeat (first | (with_reducible first | exact HB.out | apply below_alloc | apply pw_below_drewN | apply below_drew1) | exact HB.out)) hb); clear HB; have HB := n0_; clear n0_; (try clear hb); (try clear hb2); (try clear hk); (try clear hi)) | (go_at_call 41; (with_reducible refine (fix_Mul.calls k (-3) 4 t327 _ A13.out).mono ?_); rintro e w22 ⟨rfl, hb⟩; have n0_ := Aside0.mk (below_step (by repeat (first | (with_reducible first | exact HB.out | apply below_alloc | apply pw_below_drewN | apply below_drew1) | exact HB.out)) hb); clear HB; have HB := n0_; clear n0_; (try clear hb); (try clear hb2); (try clear hk); (try clear hi)) | ((with_reducible refine gate_dst (N := 28) rfl ?_); (try (refine gate_guard (by rfl) ?_; dsimp only)); refine Kd.R_lit (Kd.int .i64) _ 3 ?hg (N := 28) ?hd (xs := ([1, 2, 3] : List Int)) (inner := [.int .i64 1, .int .i64 2, .int .i64 3]) (ok := fun _ => True) (okp := fun _ => True) ?hr ?hp (fun _ hk => hk) trivial (Below.refl _ _) (Nat.le_refl _) (by simp) ?_; (case hd => rfl); (case hg => rfl); (case hr => first | (go_simp; done) | (go_simp; rfl)); (case hp => exact (Reps.one (show Kd.M (Kd.int .i64) _ _ _ 1 [.int .i64 1] from rfl) (Reps.one (show Kd.M (Kd.int .i64) _ _ _ 2 [.int .i64 2] from rfl) (Reps.one (show Kd.M (Kd.int .i64) _ _ _ 3 [.int .i64 3] from rfl) (Reps.none _ _))))); intro v329 w23 ho24 hb hg_ hnew_; clear hg_ hnew_; (first | rw [← Ny328.out] at ho24 | (simp only [Int.reduceToNat] at ho24; rw [← Ny328.out] at ho24)); have n0_ := Aside0.mk (Kd.R_lower ho24 (below_size (by repeat (first | (with_reducible first | exact HB.out | apply below_alloc | apply pw_below_drewN | apply below_drew1) | exact HB.out)))); have n1_ := Aside0.mk (below_step (by repeat (first | (with_reducible first | exact HB.out | apply below_alloc | apply pw_below_drewN | apply below_drew1) | exact HB.out)) hb); clear HB; have HO330 := n0_; have HB := n1_; clear n0_ n1_; clear hb ho24; obtain ⟨Ao25, co25, eo25⟩ := Kd.R_slice HO330.out; subst eo25) | (go_at_call 48; (with_reducible refine (fix_Sum.calls k _ _ y328 t331 _ ?side1 ?side2 A15.out).mono ?_); (case side1 => repeat (first | exact (Kd.R_reads' HO330.out).2.2 | (with_reducible refine Kd.C_alloc ?_ _) | (with_reducible refine Kd.C_drewN ?_ _) | (with_reducible refine Kd.C_drew ?_))); (case side2 => exact (Kd.R_reads' HO330.out).2.1); rintro e w26 ⟨rfl, hb⟩; have n0_ := Aside0.mk (Kd.R_below (by (with_reducible repeat (first | apply Kd.R_alloc | apply Kd.R_drewN | apply Kd.R_drew)); exact HO330.out) hb); have n1_ := Aside0.mk (below_step (by repeat (first | (with_reducible first | exact HB.out | apply below_alloc | apply pw_below_drewN | apply below_drew1) | exact HB.out)) hb); clear HO330; clear HB; have HO330 := n0_; have HB := n1_; clear n0_ n1_; (try clear hb); (try clear hb2); (try clear hk); (try clear hi)))
                go_ret
                exact ⟨by first | rfl | (simp [errW_none, errW_some] <;> rfl) | (simp [*, errW_none, errW_some] <;> rfl), by repeat (first | (with_reducible first | exact HB.out | apply below_alloc | apply pw_below_drewN | apply below_drew1) | exact HB.out)⟩
              · rw [if_neg c14] at H
                exact absurd H (by simp)
            · rw [if_neg c12] at H
              exact absurd H (by simp)
          · rw [if_neg c10] at H
            exact absurd H (by simp)
        · rw [if_neg c8] at H
          exact absurd H (by simp)
      · rw [if_neg c6] at H
        exact absurd H (by simp)
    · rw [if_neg c4] at H
      exact absurd H (by simp)
  · rw [if_neg c2] at H
    exact absurd H (by simp)


theorem works01_eq (k : Nat) (hk : 4 ≤ k) : valancelaw01_works.f k = some true := by
  unfold valancelaw01_works.f
  simp only [fix_Cut_eq, fix_Add_eq, fix_Sub_eq, fix_Div_eq, fix_Part_eq, fix_Clamp_eq, fix_Mul_eq k (by omega), fix_Sum_eq k [1, 2, 3] (by simp) (by simp; omega), Option.bind_some]
  decide


end Go.Proofs.Ytcadddijlgcnbaa.V
