/- What the functions of this seat answer, as plain Lean functions, and that the calls come to just that (written by a program of this repo, over the kit's printer; Lean checks it). -/
import Derived.Test.YtnmcefpnpfaklaaVx0
import Derived.Test.YtnmcefpnpfaklaaVx26
import Derived.Test.YtnmcefpnpfaklaaVx27
import Derived.Test.YtnmcefpnpfaklaaVx28
namespace Go.Proofs.Ytnmcefpnpfaklaa.V
open Go.RowKit Go.Proofs.Ytnmcefpnpfaklaa.Flt Go.Proofs.YtnmcefpnpfaklaaW.PrintWords Go.Proofs.YtnmcefpnpfaklaaW.PrintLast Go.Proofs.YtnmcefpnpfaklaaW.PrintMore
attribute [local go_sem high] run_eql_vpt2 run_neq_vpt2 eqGuard_vpt2 vpt2_zero run_add_vpt2
attribute [local go_sem] max2_int min2_int max_two min_two max_three min_three max_four min_four   -- for this text's walks alone
set_option linter.unusedVariables false
set_option linter.unusedSimpArgs false

/-! ### valancelaw02_PointAxes: function 11 -/
def valancelaw02_PointAxes.f (a0 : Int) (a1 : Int) : Option (Bool) := (valancelaw02_works.f).bind fun t208 => (if t208 = true then ((point_Of.f a0 a1).bind fun t209 => ((point_Turn.f t209).bind fun t210 => ((point_Flip.f t209).bind fun t211 => ((point_X.f t210).bind fun t212 => ((point_Y.f t209).bind fun t213 => (if t212 = t213 then ((point_Y.f t210).bind fun t214 => ((point_X.f t209).bind fun t215 => (if t214 = t215 then ((point_X.f t211).bind fun t216 => ((point_X.f t209).bind fun t217 => (if t216 = (wrap64 (-t217)) then ((point_Y.f t211).bind fun t218 => ((point_Y.f t209).bind fun t219 => (if t218 = t219 then ((point_Turn.f t209).bind fun t220 => ((point_Flip.f t220).bind fun t221 => ((point_Turn.f t221).bind fun t222 => ((point_X.f t209).bind fun t223 => ((point_Y.f t209).bind fun t224 => ((point_Of.f t223 (wrap64 (-t224))).bind fun t225 => (some (veq2 t222 t225)))))))) else (none)))) else (none)))) else (none)))) else (none))))))) else (none))
set_option maxHeartbeats 8000000 in
set_option maxRecDepth 100000 in
theorem valancelaw02_PointAxes.calls (a0 : Int) (a1 : Int) (r : Bool) (w : World) (h : valancelaw02_PointAxes.f a0 a1 = some r) :
    Calls Try.prog 11 #[.int .i64 a0, .int .i64 a1] w fun e w' => e = .returned (.bool r) ∧ Below w.heap.size w w' := by
  have HB := Aside0.mk (Below.refl w.heap.size w)
  have H : ((valancelaw02_works.f).bind fun t208 => (if t208 = true then ((point_Of.f a0 a1).bind fun t209 => ((point_Turn.f t209).bind fun t210 => ((point_Flip.f t209).bind fun t211 => ((point_X.f t210).bind fun t212 => ((point_Y.f t209).bind fun t213 => (if t212 = t213 then ((point_Y.f t210).bind fun t214 => ((point_X.f t209).bind fun t215 => (if t214 = t215 then ((point_X.f t211).bind fun t216 => ((point_X.f t209).bind fun t217 => (if t216 = (wrap64 (-t217)) then ((point_Y.f t211).bind fun t218 => ((point_Y.f t209).bind fun t219 => (if t218 = t219 then ((point_Turn.f t209).bind fun t220 => ((point_Flip.f t220).bind fun t221 => ((point_Turn.f t221).bind fun t222 => ((point_X.f t209).bind fun t223 => ((point_Y.f t209).bind fun t224 => ((point_Of.f t223 (wrap64 (-t224))).bind fun t225 => (some (veq2 t222 t225)))))))) else (none)))) else (none)))) else (none)))) else (none))))))) else (none))) = some r := h
  clear h
  replace H := Option.bind_eq_some_iff.mp H
  obtain ⟨t208, A30, H⟩ := H
  replace H : (if t208 = true then ((point_Of.f a0 a1).bind fun t209 => ((point_Turn.f t209).bind fun t210 => ((point_Flip.f t209).bind fun t211 => ((point_X.f t210).bind fun t212 => ((point_Y.f t209).bind fun t213 => (if t212 = t213 then ((point_Y.f t210).bind fun t214 => ((point_X.f t209).bind fun t215 => (if t214 = t215 then ((point_X.f t211).bind fun t216 => ((point_X.f t209).bind fun t217 => (if t216 = (wrap64 (-t217)) then ((point_Y.f t211).bind fun t218 => ((point_Y.f t209).bind fun t219 => (if t218 = t219 then ((point_Turn.f t209).bind fun t220 => ((point_Flip.f t220).bind fun t221 => ((point_Turn.f t221).bind fun t222 => ((point_X.f t209).bind fun t223 => ((point_Y.f t209).bind fun t224 => ((point_Of.f t223 (wrap64 (-t224))).bind fun t225 => (some (veq2 t222 t225)))))))) else (none)))) else (none)))) else (none)))) else (none))))))) else (none)) = some r := H
  have A3 := Aside0.mk A30
  clear A30
  by_cases c4 : t208 = true
  · subst c4
    have H1 : ((point_Of.f a0 a1).bind fun t209 => ((point_Turn.f t209).bind fun t210 => ((point_Flip.f t209).bind fun t211 => ((point_X.f t210).bind fun t212 => ((point_Y.f t209).bind fun t213 => (if t212 = t213 then ((point_Y.f t210).bind fun t214 => ((point_X.f t209).bind fun t215 => (if t214 = t215 then ((point_X.f t211).bind fun t216 => ((point_X.f t209).bind fun t217 => (if t216 = (wrap64 (-t217)) then ((point_Y.f t211).bind fun t218 => ((point_Y.f t209).bind fun t219 => (if t218 = t219 then ((point_Turn.f t209).bind fun t220 => ((point_Flip.f t220).bind fun t221 => ((point_Turn.f t221).bind fun t222 => ((point_X.f t209).bind fun t223 => ((point_Y.f t209).bind fun t224 => ((point_Of.f t223 (wrap64 (-t224))).bind fun t225 => (some (veq2 t222 t225)))))))) else (none)))) else (none)))) else (none)))) else (none))))))) = some r := by rw [if_pos rfl] at H; exact H
    clear H
    have H := H1
    clear H1
    replace H := Option.bind_eq_some_iff.mp H
    obtain ⟨t209, A50, H⟩ := H
    replace H : ((point_Turn.f t209).bind fun t210 => ((point_Flip.f t209).bind fun t211 => ((point_X.f t210).bind fun t212 => ((point_Y.f t209).bind fun t213 => (if t212 = t213 then ((point_Y.f t210).bind fun t214 => ((point_X.f t209).bind fun t215 => (if t214 = t215 then ((point_X.f t211).bind fun t216 => ((point_X.f t209).bind fun t217 => (if t216 = (wrap64 (-t217)) then ((point_Y.f t211).bind fun t218 => ((point_Y.f t209).bind fun t219 => (if t218 = t219 then ((point_Turn.f t209).bind fun t220 => ((point_Flip.f t220).bind fun t221 => ((point_Turn.f t221).bind fun t222 => ((point_X.f t209).bind fun t223 => ((point_Y.f t209).bind fun t224 => ((point_Of.f t223 (wrap64 (-t224))).bind fun t225 => (some (veq2 t222 t225)))))))) else (none)))) else (none)))) else (none)))) else (none)))))) = some r := H
    have A5 := Aside0.mk A50
    clear A50
    replace H := Option.bind_eq_some_iff.mp H
    obtain ⟨t210, A60, H⟩ := H
    replace H : ((point_Flip.f t209).bind fun t211 => ((point_X.f t210).bind fun t212 => ((point_Y.f t209).bind fun t213 => (if t212 = t213 then ((point_Y.f t210).bind fun t214 => ((point_X.f t209).bind fun t215 => (if t214 = t215 then ((point_X.f t211).bind fun t216 => ((point_X.f t209).bind fun t217 => (if t216 = (wrap64 (-t217)) then ((point_Y.f t211).bind fun t218 => ((point_Y.f t209).bind fun t219 => (if t218 = t219 then ((point_Turn.f t209).bind fun t220 => ((point_Flip.f t220).bind fun t221 => ((point_Turn.f t221).bind fun t222 => ((point_X.f t209).bind fun t223 => ((point_Y.f t209).bind fun t224 => ((point_Of.f t223 (wrap64 (-t224))).bind fun t225 => (some (veq2 t222 t225)))))))) else (none)))) else (none)))) else (none)))) else (none))))) = some r := H
    have A6 := Aside0.mk A60
    clear A60
    replace H := Option.bind_eq_some_iff.mp H
    obtain ⟨t211, A70, H⟩ := H
    replace H : ((point_X.f t210).bind fun t212 => ((point_Y.f t209).bind fun t213 => (if t212 = t213 then ((point_Y.f t210).bind fun t214 => ((point_X.f t209).bind fun t215 => (if t214 = t215 then ((point_X.f t211).bind fun t216 => ((point_X.f t209).bind fun t217 => (if t216 = (wrap64 (-t217)) then ((point_Y.f t211).bind fun t218 => ((point_Y.f t209).bind fun t219 => (if t218 = t219 then ((point_Turn.f t209).bind fun t220 => ((point_Flip.f t220).bind fun t221 => ((point_Turn.f t221).bind fun t222 => ((point_X.f t209).bind fun t223 => ((point_Y.f t209).bind fun t224 => ((point_Of.f t223 (wrap64 (-t224))).bind fun t225 => (some (veq2 t222 t225)))))))) else (none)))) else (none)))) else (none)))) else (none)))) = some r := H
    have A7 := Aside0.mk A70
    clear A70
    replace H := Option.bind_eq_some_iff.mp H
    obtain ⟨t212, A80, H⟩ := H
    replace H : ((point_Y.f t209).bind fun t213 => (if t212 = t213 then ((point_Y.f t210).bind fun t214 => ((point_X.f t209).bind fun t215 => (if t214 = t215 then ((point_X.f t211).bind fun t216 => ((point_X.f t209).bind fun t217 => (if t216 = (wrap64 (-t217)) then ((point_Y.f t211).bind fun t218 => ((point_Y.f t209).bind fun t219 => (if t218 = t219 then ((point_Turn.f t209).bind fun t220 => ((point_Flip.f t220).bind fun t221 => ((point_Turn.f t221).bind fun t222 => ((point_X.f t209).bind fun t223 => ((point_Y.f t209).bind fun t224 => ((point_Of.f t223 (wrap64 (-t224))).bind fun t225 => (some (veq2 t222 t225)))))))) else (none)))) else (none)))) else (none)))) else (none))) = some r := H
    have A8 := Aside0.mk A80
    clear A80
    replace H := Option.bind_eq_some_iff.mp H
    obtain ⟨t213, A90, H⟩ := H
    replace H : (if t212 = t213 then ((point_Y.f t210).bind fun t214 => ((point_X.f t209).bind fun t215 => (if t214 = t215 then ((point_X.f t211).bind fun t216 => ((point_X.f t209).bind fun t217 => (if t216 = (wrap64 (-t217)) then ((point_Y.f t211).bind fun t218 => ((point_Y.f t209).bind fun t219 => (if t218 = t219 then ((point_Turn.f t209).bind fun t220 => ((point_Flip.f t220).bind fun t221 => ((point_Turn.f t221).bind fun t222 => ((point_X.f t209).bind fun t223 => ((point_Y.f t209).bind fun t224 => ((point_Of.f t223 (wrap64 (-t224))).bind fun t225 => (some (veq2 t222 t225)))))))) else (none)))) else (none)))) else (none)))) else (none)) = some r := H
    have A9 := Aside0.mk A90
    clear A90
    by_cases c10 : t212 = t213
    · rw [if_pos c10] at H
      have c10b0 : (t212 == t213) = true := beq_iff_eq.mpr c10
      have c10b1 : (t212 != t213) = false := bne_eq_false_iff_eq.mpr c10
      clear c10
      replace H := Option.bind_eq_some_iff.mp H
      obtain ⟨t214, A110, H⟩ := H
      replace H : ((point_X.f t209).bind fun t215 => (if t214 = t215 then ((point_X.f t211).bind fun t216 => ((point_X.f t209).bind fun t217 => (if t216 = (wrap64 (-t217)) then ((point_Y.f t211).bind fun t218 => ((point_Y.f t209).bind fun t219 => (if t218 = t219 then ((point_Turn.f t209).bind fun t220 => ((point_Flip.f t220).bind fun t221 => ((point_Turn.f t221).bind fun t222 => ((point_X.f t209).bind fun t223 => ((point_Y.f t209).bind fun t224 => ((point_Of.f t223 (wrap64 (-t224))).bind fun t225 => (some (veq2 t222 t225)))))))) else (none)))) else (none)))) else (none))) = some r := H
      have A11 := Aside0.mk A110
      clear A110
      replace H := Option.bind_eq_some_iff.mp H
      obtain ⟨t215, A120, H⟩ := H
      replace H : (if t214 = t215 then ((point_X.f t211).bind fun t216 => ((point_X.f t209).bind fun t217 => (if t216 = (wrap64 (-t217)) then ((point_Y.f t211).bind fun t218 => ((point_Y.f t209).bind fun t219 => (if t218 = t219 then ((point_Turn.f t209).bind fun t220 => ((point_Flip.f t220).bind fun t221 => ((point_Turn.f t221).bind fun t222 => ((point_X.f t209).bind fun t223 => ((point_Y.f t209).bind fun t224 => ((point_Of.f t223 (wrap64 (-t224))).bind fun t225 => (some (veq2 t222 t225)))))))) else (none)))) else (none)))) else (none)) = some r := H
      have A12 := Aside0.mk A120
      clear A120
      by_cases c13 : t214 = t215
      · rw [if_pos c13] at H
        have c13b0 : (t214 == t215) = true := beq_iff_eq.mpr c13
        have c13b1 : (t214 != t215) = false := bne_eq_false_iff_eq.mpr c13
        clear c13
        replace H := Option.bind_eq_some_iff.mp H
        obtain ⟨t216, A140, H⟩ := H
        replace H : ((point_X.f t209).bind fun t217 => (if t216 = (wrap64 (-t217)) then ((point_Y.f t211).bind fun t218 => ((point_Y.f t209).bind fun t219 => (if t218 = t219 then ((point_Turn.f t209).bind fun t220 => ((point_Flip.f t220).bind fun t221 => ((point_Turn.f t221).bind fun t222 => ((point_X.f t209).bind fun t223 => ((point_Y.f t209).bind fun t224 => ((point_Of.f t223 (wrap64 (-t224))).bind fun t225 => (some (veq2 t222 t225)))))))) else (none)))) else (none))) = some r := H
        have A14 := Aside0.mk A140
        clear A140
        replace H := Option.bind_eq_some_iff.mp H
        obtain ⟨t217, A150, H⟩ := H
        replace H : (if t216 = (wrap64 (-t217)) then ((point_Y.f t211).bind fun t218 => ((point_Y.f t209).bind fun t219 => (if t218 = t219 then ((point_Turn.f t209).bind fun t220 => ((point_Flip.f t220).bind fun t221 => ((point_Turn.f t221).bind fun t222 => ((point_X.f t209).bind fun t223 => ((point_Y.f t209).bind fun t224 => ((point_Of.f t223 (wrap64 (-t224))).bind fun t225 => (some (veq2 t222 t225)))))))) else (none)))) else (none)) = some r := H
        have A15 := Aside0.mk A150
        clear A150
        have dq_ : t215 = t217 := Option.some.inj (A12.out.symm.trans A15.out)
        subst dq_
        by_cases c16 : t216 = (wrap64 (-t215))
        · rw [if_pos c16] at H
          have c16b0 : (t216 == (wrap64 (-t215))) = true := beq_iff_eq.mpr c16
          have c16b1 : (t216 != (wrap64 (-t215))) = false := bne_eq_false_iff_eq.mpr c16
          clear c16
          replace H := Option.bind_eq_some_iff.mp H
          obtain ⟨t218, A170, H⟩ := H
          replace H : ((point_Y.f t209).bind fun t219 => (if t218 = t219 then ((point_Turn.f t209).bind fun t220 => ((point_Flip.f t220).bind fun t221 => ((point_Turn.f t221).bind fun t222 => ((point_X.f t209).bind fun t223 => ((point_Y.f t209).bind fun t224 => ((point_Of.f t223 (wrap64 (-t224))).bind fun t225 => (some (veq2 t222 t225)))))))) else (none))) = some r := H
          have A17 := Aside0.mk A170
          clear A170
          replace H := Option.bind_eq_some_iff.mp H
          obtain ⟨t219, A180, H⟩ := H
          replace H : (if t218 = t219 then ((point_Turn.f t209).bind fun t220 => ((point_Flip.f t220).bind fun t221 => ((point_Turn.f t221).bind fun t222 => ((point_X.f t209).bind fun t223 => ((point_Y.f t209).bind fun t224 => ((point_Of.f t223 (wrap64 (-t224))).bind fun t225 => (some (veq2 t222 t225)))))))) else (none)) = some r := H
          have A18 := Aside0.mk A180
          clear A180
          have dq_ : t213 = t219 := Option.some.inj (A9.out.symm.trans A18.out)
          subst dq_
          by_cases c19 : t218 = t213
          · rw [if_pos c19] at H
            have c19b0 : (t218 == t213) = true := beq_iff_eq.mpr c19
            have c19b1 : (t218 != t213) = false := bne_eq_false_iff_eq.mpr c19
            clear c19
            replace H := Option.bind_eq_some_iff.mp H
            obtain ⟨t220, A200, H⟩ := H
            replace H : ((point_Flip.f t220).bind fun t221 => ((point_Turn.f t221).bind fun t222 => ((point_X.f t209).bind fun t223 => ((point_Y.f t209).bind fun t224 => ((point_Of.f t223 (wrap64 (-t224))).bind fun t225 => (some (veq2 t222 t225))))))) = some r := H
            have A20 := Aside0.mk A200
            clear A200
            have dq_ : t210 = t220 := Option.some.inj (A6.out.symm.trans A20.out)
            subst dq_
            replace H := Option.bind_eq_some_iff.mp H
            obtain ⟨t221, A210, H⟩ := H
            replace H : ((point_Turn.f t221).bind fun t222 => ((point_X.f t209).bind fun t223 => ((point_Y.f t209).bind fun t224 => ((point_Of.f t223 (wrap64 (-t224))).bind fun t225 => (some (veq2 t222 t225)))))) = some r := H
            have A21 := Aside0.mk A210
            clear A210
            replace H := Option.bind_eq_some_iff.mp H
            obtain ⟨t222, A220, H⟩ := H
            replace H : ((point_X.f t209).bind fun t223 => ((point_Y.f t209).bind fun t224 => ((point_Of.f t223 (wrap64 (-t224))).bind fun t225 => (some (veq2 t222 t225))))) = some r := H
            have A22 := Aside0.mk A220
            clear A220
            replace H := Option.bind_eq_some_iff.mp H
            obtain ⟨t223, A230, H⟩ := H
            replace H : ((point_Y.f t209).bind fun t224 => ((point_Of.f t223 (wrap64 (-t224))).bind fun t225 => (some (veq2 t222 t225)))) = some r := H
            have A23 := Aside0.mk A230
            clear A230
            have dq_ : t215 = t223 := Option.some.inj (A12.out.symm.trans A23.out)
            subst dq_
            replace H := Option.bind_eq_some_iff.mp H
            obtain ⟨t224, A240, H⟩ := H
            replace H : ((point_Of.f t215 (wrap64 (-t224))).bind fun t225 => (some (veq2 t222 t225))) = some r := H
            have A24 := Aside0.mk A240
            clear A240
            have dq_ : t213 = t224 := Option.some.inj (A9.out.symm.trans A24.out)
            subst dq_
            replace H := Option.bind_eq_some_iff.mp H
            obtain ⟨t225, A250, H⟩ := H
            replace H : (some (veq2 t222 t225)) = some r := H
            have A25 := Aside0.mk A250
            clear A250
            obtain rfl := Option.some.inj H
            go_enter Try.func11, Try.ntmps11
            go_wp2_with (first | ((with_reducible refine gate_callee (f := 23) rfl ?_); refine goesL_ (some 9) rfl rfl Try.func23 (by kernel_rfl) rfl #[] rfl (by (try simp only [List.map_toArray, List.map_cons, List.map_nil]); first | done | rfl | (simp only [List.length_drop, List.length_take]; rfl)) ?_; (with_reducible refine (valancelaw02_works.calls  true _ A3.out).mono ?_); rintro e w26 ⟨rfl, hb⟩; refine ⟨_, rfl, ?_⟩; have n0_ := Aside0.mk (below_step (by repeat (first | (with_reducible first | exact HB.out | apply below_alloc | apply pw_below_drewN | apply below_drew1) | exact HB.out)) hb); clear HB; have HB := n0_; clear n0_; (try clear hb); (try clear hb2); (try clear hk); (try clear hi)) | ((with_reducible refine gate_callee (f := 24) rfl ?_); refine goesL_ (some 14) rfl rfl Try.func24 (by kernel_rfl) rfl #[.int .i64 a0, .int .i64 a1] rfl (by (try simp only [List.map_toArray, List.map_cons, List.map_nil]); first | done | rfl | (simp only [List.length_drop, List.length_take]; rfl)) ?_; (with_reducible refine (point_Of.calls a0 a1 t209 _ A5.out).mono ?_); rintro e w27 ⟨rfl, hb⟩; refine ⟨_, rfl, ?_⟩; have n0_ := Aside0.mk (below_step (by repeat (first | (with_reducible first | exact HB.out | apply below_alloc | apply pw_below_drewN | apply below_drew1) | exact HB.out)) hb); clear HB; have HB := n0_; clear n0_; (try clear hb); (try clear hb2); (try clear hk); (try clear hi)) | ((with_reducible refine gate_callee (f := 27) rfl ?_); refine goesL_ (some 16) rfl rfl Try.func27 (by kernel_rfl) rfl #[vpt2 t209] rfl (by (try simp only [List.map_toArray, List.map_cons, List.map_nil]); first | done | rfl | (simp only [List.length_drop, List.length_take]; rfl)) ?_; (with_reducible refine (point_Turn.calls t209 t210 _ A6.out).mono ?_); rintro e w28 ⟨rfl, hb⟩; refine ⟨_, rfl, ?_⟩; have n0_ := Aside0.mk (below_step (by repeat (first | (with_reducible first | exact HB.out | apply below_alloc | apply pw_below_drewN | apply below_drew1) | exact HB.out)) hb); clear HB; have HB := n0_; clear n0_; (try clear hb); (try clear hb2); (try clear hk); (try clear hi)) | ((with_reducible refine gate_callee (f := 28) rfl ?_); refine goesL_ (some 18) rfl rfl Try.func28 (by kernel_rfl) rfl #[vpt2 t209] rfl (by (try simp only [List.map_toArray, List.map_cons, List.map_nil]); first | done | rfl | (simp only [List.length_drop, List.length_take]; rfl)) ?_; (with_reducible refine (point_Flip.calls t209 t211 _ A7.out).mono ?_); rintro e w29 ⟨rfl, hb⟩; refine ⟨_, rfl, ?_⟩; have n0_ := Aside0.mk (below_step (by repeat (first | (with_reducible first | exact HB.out | apply below_alloc | apply pw_below_drewN | apply below_drew1) | exact HB.out)) hb); clear HB; have HB := n0_; clear n0_; (try clear hb); (try clear hb2); (try clear hk); (try clear hi)) | (go_at_call 29; (with_reducible refine (point_X.calls t210 t212 _ A8.out).mono ?_); rintro e w30 ⟨rfl, hb⟩; have n0_ := Aside0.mk (below_step (by repeat (first | (with_reducible first | exact HB.out | apply below_alloc | apply pw_below_drewN | apply below_drew1) | exact HB.out)) hb); clear HB; have HB := n0_; clear n0_; (try clear hb); (try clear hb2); (try clear hk); (try clear hi)) | (go_at_call 30; (with_reducible refine (point_Y.calls t209 t213 _ A9.out).mono ?_); rintro e w31 ⟨rfl, hb⟩; have n0_ := Aside0.mk (below_step (by repeat (first | (with_reducible first | exact HB.out | apply below_alloc | apply pw_below_drewN | apply below_drew1) | exact HB.out)) hb); clear HB; have HB := n0_; clear n0_; (try clear hb); (try clear hb2); (try clear hk); (try clear hi)) | (go_at_call 30; (with_reducible refine (point_Y.calls t210 t214 _ A11.out).mono ?_); rintro e w32 ⟨rfl, hb⟩; have n0_ := Aside0.mk (below_step (by repeat (first | (with_reducible first | exact HB.out | apply below_alloc | apply pw_below_drewN | apply below_drew1) | exact HB.out)) hb); clear HB; have HB := n0_; clear n0_; (try clear hb); (try clear hb2); (try clear hk); (try clear hi)) | (go_at_call 29; (with_reducible refine (point_X.calls t209 t215 _ A12.out).mono ?_); rintro e w33 ⟨rfl, hb⟩; have n0_ := Aside0.mk (below_step (by repeat (first | (with_reducible first | exact HB.out | apply below_alloc | apply pw_below_drewN | apply below_drew1) | exact HB.out)) hb); clear HB; have HB := n0_; clear n0_; (try clear hb); (try clear hb2); (try clear hk); (try clear hi)) | (go_at_call 29; (with_reducible refine (point_X.calls t211 t216 _ A14.out).mono ?_); rintro e w34 ⟨rfl, hb⟩; have n0_ := Aside0.mk (below_step (by repeat (first | (with_reducible first | exact HB.out | apply below_alloc | apply pw_below_drewN | apply below_drew1) | exact HB.out)) hb); clear HB; have HB := n0_; clear n0_; (try clear hb); (try clear hb2); (try clear hk); (try clear hi)) | (go_at_call 29; (with_reducible refine (point_X.calls t209 t215 _ A15.out).mono ?_); rintro e w35 ⟨rfl, hb⟩; have n0_ := Aside0.mk (below_step (by repeat (first | (with_reducible first | exact HB.out | apply below_alloc | apply pw_below_drewN | apply below_drew1) | exact HB.out)) hb); clear HB; have HB := n0_; clear n0_; (try clear hb); (try clear hb2); (try clear hk); (try clear hi)) | (go_at_call 30; (with_reducible refine (point_Y.calls t211 t218 _ A17.out).mono ?_); rintro e w36 ⟨rfl, hb⟩; have n0_ := Aside0.mk (below_step (by repeat (first | (with_reducible first | exact HB.out | apply below_alloc | apply pw_below_drewN | apply below_drew1) | exact HB.out)) hb); clear HB; have HB := n0_; clear n0_; (try clear hb); (try clear hb2); (try clear hk); (try clear hi)) | (go_at_call 30; (with_reducible refine (point_Y.calls t209 t213 _ A18.out).mono ?_); rintro e w37 ⟨rfl, hb⟩; have n0_ := Aside0.mk (below_step (by repeat (first | (with_reducible first | exact HB.out | apply below_alloc | apply pw_below_drewN | apply below_drew1) | exact HB.out)) hb); clear HB; have HB := n0_; clear n0_; (try clear hb); (try clear hb2); (try clear hk); (try clear hi)) | (go_at_call 27; (with_reducible refine (point_Turn.calls t209 t210 _ A20.out).mono ?_); rintro e w38 ⟨rfl, hb⟩; have n0_ := Aside0.mk (below_step (by repeat (first | (with_reducible first | exact HB.out | apply below_alloc | apply pw_below_drewN | apply below_drew1) | exact HB.out)) hb); clear HB; have HB := n0_; clear n0_; (try clear hb); (try clear hb2); (try clear hk); (try clear hi)) | (go_at_call 28; (with_reducible refine (point_Flip.calls t210 t221 _ A21.out).mono ?_); rintro e w39 ⟨rfl, hb⟩; have n0_ := Aside0.mk (below_step (by repeat (first | (with_reducible first | exact HB.out | apply below_alloc | apply pw_below_drewN | apply below_drew1) | exact HB.out)) hb); clear HB; have HB := n0_; clear n0_; (try clear hb); (try clear hb2); (try clear hk); (try clear hi)) | (go_at_call 27; (with_reducible refine (point_Turn.calls t221 t222 _ A22.out).mono ?_); rintro e w40 ⟨rfl, hb⟩; have n0_ := Aside0.mk (below_step (by repeat (first | (with_reducible first | exact HB.out | apply below_alloc | apply pw_below_drewN | apply below_drew1) | exact HB.out)) hb); clear HB; have HB := n0_; clear n0_; (try clear hb); (try clear hb2); (try clear hk); (try clear hi)) | (go_at_call 29; (with_reducible refine (point_X.calls t209 t215 _ A23.out).mono ?_); rintro e w41 ⟨rfl, hb⟩; have n0_ := Aside0.mk (below_step (by repeat (first | (with_reducible first | exact HB.out | apply below_alloc | apply pw_below_drewN | apply below_drew1) | exact HB.out)) hb); clear HB; have HB := n0_; clear n0_; (try clear hb); (try clear hb2); (try clear hk); (try clear hi)) | (go_at_call 30; (with_reducible refine (point_Y.calls t209 t213 _ A24.out).mono ?_); rintro e w42 ⟨rfl, hb⟩; have n0_ := Aside0.mk (below_step (by repeat (first | (with_reducible first | exact HB.out | apply below_alloc | apply pw_below_drewN | apply below_drew1) | exact HB.out)) hb); clear HB; have HB := n0_; clear n0_; (try clear hb); (try clear hb2); (try clear hk); (try clear hi)) | (go_at_call 24; (with_reducible refine (point_Of.calls t215 (wrap64 (-t213)) t225 _ A25.out).mono ?_); rintro e w43 ⟨rfl, hb⟩; have n0_ := Aside0.mk (below_step (by repeat (first | (with_reducible first | exact HB.out | apply below_alloc | apply pw_below_drewN | apply below_drew1) | exact HB.out)) hb); clear HB; have HB := n0_; clear n0_; (try clear hb); (try clear hb2); (try clear hk); (try clear hi)))
            go_ret
            exact ⟨by first | rfl | (cases Option.some.inj (A15.out.symm.trans A12.out); rfl) | (cases Option.some.inj (A18.out.symm.trans A9.out); rfl) | (cases Option.some.inj (A20.out.symm.trans A6.out); rfl) | (cases Option.some.inj (A23.out.symm.trans A12.out); rfl) | (cases Option.some.inj (A23.out.symm.trans A15.out); rfl) | (cases Option.some.inj (A24.out.symm.trans A9.out); rfl) | (cases Option.some.inj (A24.out.symm.trans A18.out); rfl) | (cases Option.some.inj (A6.out.symm.trans A20.out); rfl) | (cases Option.some.inj (A9.out.symm.trans A18.out); rfl) | (cases Option.some.inj (A9.out.symm.trans A24.out); rfl) | (cases Option.some.inj (A12.out.symm.trans A15.out); rfl) | (cases Option.some.inj (A12.out.symm.trans A23.out); rfl) | (cases Option.some.inj (A15.out.symm.trans A23.out); rfl) | (cases Option.some.inj (A18.out.symm.trans A24.out); rfl) | (simp [errW_none, errW_some] <;> rfl) | (simp [*, errW_none, errW_some] <;> rfl), by repeat (first | (with_reducible first | exact HB.out | apply below_alloc | apply pw_below_drewN | apply below_drew1) | exact HB.out)⟩
          · rw [if_neg c19] at H
            exact absurd H (by simp)
        · rw [if_neg c16] at H
          exact absurd H (by simp)
      · rw [if_neg c13] at H
        exact absurd H (by simp)
    · rw [if_neg c10] at H
      exact absurd H (by simp)
  · replace c4 := Bool.eq_false_iff.mpr c4
    subst c4
    have H1 : (none) = some r := by rw [if_neg (show ¬ (false = true) by decide)] at H; exact H
    clear H
    have H := H1
    clear H1
    exact absurd H (by simp)

/-- THE ONE PURE STATEMENT of valancelaw02_PointAxes: yours. -/
def valancelaw02_PointAxes.Pure : Prop := ∀ (a0 : Int) (a1 : Int), (Lit.int .i64 a0).wf = true → (Lit.int .i64 a1).wf = true → valancelaw02_PointAxes.f a0 a1 = some true
theorem valancelaw02_PointAxes.walk (P : valancelaw02_PointAxes.Pure) (a0 : Int) (a1 : Int) (w : World) (w0 : (Lit.int .i64 a0).wf = true) (w1 : (Lit.int .i64 a1).wf = true) :
    Calls Try.prog 11 #[.int .i64 a0, .int .i64 a1] w fun e w' => e = .returned (.bool true) ∧ Below w.heap.size w w' := by
  have h := P a0 a1 w0 w1
  refine (valancelaw02_PointAxes.calls a0 a1 true w h).mono ?_
  rintro e w' ⟨rfl, hd⟩
  exact ⟨rfl, hd⟩

end Go.Proofs.Ytnmcefpnpfaklaa.V
