/- What the functions of this seat answer, as plain Lean functions, and that the calls come to just that (written by a program of this repo, over the kit's printer; Lean checks it). -/
import Derived.Test.YtnmcefpnpfakladVx0
import Derived.Test.YtnmcefpnpfakladVx11
import Derived.Test.YtnmcefpnpfakladVx12
import Derived.Test.YtnmcefpnpfakladVx13
import Derived.Test.YtnmcefpnpfakladVx14
import Derived.Test.YtnmcefpnpfakladVx15
import Derived.Test.YtnmcefpnpfakladVx23
import Derived.Test.YtnmcefpnpfakladVx24
import Derived.Test.YtnmcefpnpfakladVx25
namespace Go.Proofs.Ytnmcefpnpfaklad.V
open Go.RowKit Go.Proofs.YtnmcefpnpfakladW.PrintWords Go.Proofs.YtnmcefpnpfakladW.PrintLast Go.Proofs.YtnmcefpnpfakladW.PrintMore
attribute [local go_sem] max2_int min2_int max_two min_two max_three min_three max_four min_four   -- for this text's walks alone
set_option linter.unusedVariables false
set_option linter.unusedSimpArgs false

/-! ### valancelaw09_JustifyStarts: function 3 -/
def valancelaw09_JustifyStarts.f (k : Nat) (a0 : Int) (l1 : List Int) (a2 : Int) (a3 : Int) (a4 : Int) : Option (Bool) := (valancelaw09_works.f k).bind fun t205 => (if t205 = true then (if (l1.length : Int) > 200 then (some t205) else ((justify_Starts.f k a0 l1 a2 a3).bind fun t206 => ((justify_Flip.f k t206 l1 a2).bind fun t209 => ((valanceref09_Starts.f k a0 l1 a2 a3).bind fun t212 => ((valanceref06_Row.f k t206 t212).bind fun t215 => (if t215 = true then ((valanceref09_Flip.f k t206 l1 a2).bind fun t216 => ((valanceref06_Row.f k t209 t216).bind fun t219 => (if t219 = true then ((justify_Across.f a4 a3 a2).bind fun t220 => ((valanceref09_Across.f a4 a3 a2).bind fun t221 => (some (t220 == t221)))) else (none)))) else (none))))))) else (none))
theorem valancelaw09_JustifyStarts.mono : ∀ a0 a1 a2 a3 a4 k, LeO (valancelaw09_JustifyStarts.f k a0 a1 a2 a3 a4) (valancelaw09_JustifyStarts.f (k + 1) a0 a1 a2 a3 a4) := by
  intro a0 a1 a2 a3 a4 k
  unfold valancelaw09_JustifyStarts.f
  repeat' first
      | (with_reducible exact justify_Flip.mono _ _ _ _)
      | (with_reducible exact justify_Starts.mono _ _ _ _ _)
      | (with_reducible exact valancelaw09_works.mono _)
      | (with_reducible exact valanceref06_Row.mono _ _ _)
      | (with_reducible exact valanceref09_Flip.mono _ _ _ _)
      | (with_reducible exact valanceref09_Starts.mono _ _ _ _ _)
      | (with_reducible exact LeO.refl _)
      | (with_reducible exact LeO.none _)
      | (with_reducible refine LeO.ite ?_ ?_)
      | (with_reducible refine LeO.bind ?_ (fun _ => ?_))
      | exact justify_Flip.mono _ _ _ _
      | exact justify_Starts.mono _ _ _ _ _
      | exact valancelaw09_works.mono _
      | exact valanceref06_Row.mono _ _ _
      | exact valanceref09_Flip.mono _ _ _ _
      | exact valanceref09_Starts.mono _ _ _ _ _
      | exact LeO.none _
      | refine LeO.ite ?_ ?_
      | refine LeO.bind ?_ (fun _ => ?_)
set_option maxHeartbeats 8000000 in
set_option maxRecDepth 100000 in
theorem valancelaw09_JustifyStarts.calls (k : Nat) (a0 : Int) (A1 : Option Addr) (c1 : Nat) (l1 : List Int) (a2 : Int) (a3 : Int) (a4 : Int) (r : Bool) (w : World) (hr1 : Kd.C (Kd.int .i64) w A1 l1.length l1) (hc1 : l1.length ≤ c1) (h : valancelaw09_JustifyStarts.f k a0 l1 a2 a3 a4 = some r) :
    Calls Try.prog 3 #[.int .i64 a0, .slice A1 l1.length c1, .int .i64 a2, .int .i64 a3, .int .i64 a4] w fun e w' => e = .returned (.bool r) ∧ Below w.heap.size w w' := by
  have HR1 := Aside0.mk hr1
  have HC1 := Aside0.mk hc1
  clear hr1 hc1
  have HB := Aside0.mk (Below.refl w.heap.size w)
  have H : ((valancelaw09_works.f k).bind fun t205 => (if t205 = true then (if (l1.length : Int) > 200 then (some t205) else ((justify_Starts.f k a0 l1 a2 a3).bind fun t206 => ((justify_Flip.f k t206 l1 a2).bind fun t209 => ((valanceref09_Starts.f k a0 l1 a2 a3).bind fun t212 => ((valanceref06_Row.f k t206 t212).bind fun t215 => (if t215 = true then ((valanceref09_Flip.f k t206 l1 a2).bind fun t216 => ((valanceref06_Row.f k t209 t216).bind fun t219 => (if t219 = true then ((justify_Across.f a4 a3 a2).bind fun t220 => ((valanceref09_Across.f a4 a3 a2).bind fun t221 => (some (t220 == t221)))) else (none)))) else (none))))))) else (none))) = some r := h
  clear h
  replace H := Option.bind_eq_some_iff.mp H
  obtain ⟨t205, A60, H⟩ := H
  replace H : (if t205 = true then (if (l1.length : Int) > 200 then (some t205) else ((justify_Starts.f k a0 l1 a2 a3).bind fun t206 => ((justify_Flip.f k t206 l1 a2).bind fun t209 => ((valanceref09_Starts.f k a0 l1 a2 a3).bind fun t212 => ((valanceref06_Row.f k t206 t212).bind fun t215 => (if t215 = true then ((valanceref09_Flip.f k t206 l1 a2).bind fun t216 => ((valanceref06_Row.f k t209 t216).bind fun t219 => (if t219 = true then ((justify_Across.f a4 a3 a2).bind fun t220 => ((valanceref09_Across.f a4 a3 a2).bind fun t221 => (some (t220 == t221)))) else (none)))) else (none))))))) else (none)) = some r := H
  have A6 := Aside0.mk A60
  clear A60
  by_cases c7 : t205 = true
  · subst c7
    have H1 : (if (l1.length : Int) > 200 then (some true) else ((justify_Starts.f k a0 l1 a2 a3).bind fun t206 => ((justify_Flip.f k t206 l1 a2).bind fun t209 => ((valanceref09_Starts.f k a0 l1 a2 a3).bind fun t212 => ((valanceref06_Row.f k t206 t212).bind fun t215 => (if t215 = true then ((valanceref09_Flip.f k t206 l1 a2).bind fun t216 => ((valanceref06_Row.f k t209 t216).bind fun t219 => (if t219 = true then ((justify_Across.f a4 a3 a2).bind fun t220 => ((valanceref09_Across.f a4 a3 a2).bind fun t221 => (some (t220 == t221)))) else (none)))) else (none))))))) = some r := by rw [if_pos rfl] at H; exact H
    clear H
    have H := H1
    clear H1
    by_cases c8 : (l1.length : Int) > 200
    · rw [if_pos c8] at H
      have c8b0 : decide (200 < (l1.length : Int)) = true := decide_eq_true c8
      have c8b1 : decide (200 < l1.length) = true := decide_eq_true (by omega)
      clear c8
      obtain rfl := Option.some.inj H
      go_enter Try.func3, Try.ntmps3
      go_wp2_with (first | ((with_reducible refine gate_callee (f := 15) rfl ?_); refine goesL_ (some 14) rfl rfl Try.func15 (by kernel_rfl) rfl #[] rfl (by (try simp only [List.map_toArray, List.map_cons, List.map_nil]); first | done | rfl | (simp only [List.length_drop, List.length_take]; rfl)) ?_; (with_reducible refine (valancelaw09_works.calls k  true _ A6.out).mono ?_); rintro e w9 ⟨rfl, hb⟩; refine ⟨_, rfl, ?_⟩; have n0_ := Aside0.mk (below_step (by repeat (first | (with_reducible first | exact HB.out | apply below_alloc | apply pw_below_drewN | apply below_drew1) | exact HB.out)) hb); clear HB; have HB := n0_; clear n0_; (try clear hb); (try clear hb2); (try clear hk); (try clear hi)))
      go_ret
      exact ⟨by first | rfl | (simp [errW_none, errW_some] <;> rfl) | (simp [*, errW_none, errW_some] <;> rfl), by repeat (first | (with_reducible first | exact HB.out | apply below_alloc | apply pw_below_drewN | apply below_drew1) | exact HB.out)⟩
    · rw [if_neg c8] at H
      have c8b0 : decide (200 < (l1.length : Int)) = false := decide_eq_false c8
      have c8b1 : decide (200 < l1.length) = false := decide_eq_false (by omega)
      clear c8
      replace H := Option.bind_eq_some_iff.mp H
      obtain ⟨t206, A100, H⟩ := H
      replace H : ((justify_Flip.f k t206 l1 a2).bind fun t209 => ((valanceref09_Starts.f k a0 l1 a2 a3).bind fun t212 => ((valanceref06_Row.f k t206 t212).bind fun t215 => (if t215 = true then ((valanceref09_Flip.f k t206 l1 a2).bind fun t216 => ((valanceref06_Row.f k t209 t216).bind fun t219 => (if t219 = true then ((justify_Across.f a4 a3 a2).bind fun t220 => ((valanceref09_Across.f a4 a3 a2).bind fun t221 => (some (t220 == t221)))) else (none)))) else (none))))) = some r := H
      have A10 := Aside0.mk A100
      clear A100
      replace H := Option.bind_eq_some_iff.mp H
      obtain ⟨t209, A110, H⟩ := H
      replace H : ((valanceref09_Starts.f k a0 l1 a2 a3).bind fun t212 => ((valanceref06_Row.f k t206 t212).bind fun t215 => (if t215 = true then ((valanceref09_Flip.f k t206 l1 a2).bind fun t216 => ((valanceref06_Row.f k t209 t216).bind fun t219 => (if t219 = true then ((justify_Across.f a4 a3 a2).bind fun t220 => ((valanceref09_Across.f a4 a3 a2).bind fun t221 => (some (t220 == t221)))) else (none)))) else (none)))) = some r := H
      have A11 := Aside0.mk A110
      clear A110
      replace H := Option.bind_eq_some_iff.mp H
      obtain ⟨t212, A120, H⟩ := H
      replace H : ((valanceref06_Row.f k t206 t212).bind fun t215 => (if t215 = true then ((valanceref09_Flip.f k t206 l1 a2).bind fun t216 => ((valanceref06_Row.f k t209 t216).bind fun t219 => (if t219 = true then ((justify_Across.f a4 a3 a2).bind fun t220 => ((valanceref09_Across.f a4 a3 a2).bind fun t221 => (some (t220 == t221)))) else (none)))) else (none))) = some r := H
      have A12 := Aside0.mk A120
      clear A120
      replace H := Option.bind_eq_some_iff.mp H
      obtain ⟨t215, A130, H⟩ := H
      replace H : (if t215 = true then ((valanceref09_Flip.f k t206 l1 a2).bind fun t216 => ((valanceref06_Row.f k t209 t216).bind fun t219 => (if t219 = true then ((justify_Across.f a4 a3 a2).bind fun t220 => ((valanceref09_Across.f a4 a3 a2).bind fun t221 => (some (t220 == t221)))) else (none)))) else (none)) = some r := H
      have A13 := Aside0.mk A130
      clear A130
      by_cases c14 : t215 = true
      · subst c14
        have H1 : ((valanceref09_Flip.f k t206 l1 a2).bind fun t216 => ((valanceref06_Row.f k t209 t216).bind fun t219 => (if t219 = true then ((justify_Across.f a4 a3 a2).bind fun t220 => ((valanceref09_Across.f a4 a3 a2).bind fun t221 => (some (t220 == t221)))) else (none)))) = some r := by rw [if_pos rfl] at H; exact H
        clear H
        have H := H1
        clear H1
        replace H := Option.bind_eq_some_iff.mp H
        obtain ⟨t216, A150, H⟩ := H
        replace H : ((valanceref06_Row.f k t209 t216).bind fun t219 => (if t219 = true then ((justify_Across.f a4 a3 a2).bind fun t220 => ((valanceref09_Across.f a4 a3 a2).bind fun t221 => (some (t220 == t221)))) else (none))) = some r := H
        have A15 := Aside0.mk A150
        clear A150
        replace H := Option.bind_eq_some_iff.mp H
        obtain ⟨t219, A160, H⟩ := H
        replace H : (if t219 = true then ((justify_Across.f a4 a3 a2).bind fun t220 => ((valanceref09_Across.f a4 a3 a2).bind fun t221 => (some (t220 == t221)))) else (none)) = some r := H
        have A16 := Aside0.mk A160
        clear A160
        by_cases c17 : t219 = true
        · subst c17
          have H1 : ((justify_Across.f a4 a3 a2).bind fun t220 => ((valanceref09_Across.f a4 a3 a2).bind fun t221 => (some (t220 == t221)))) = some r := by rw [if_pos rfl] at H; exact H
          clear H
          have H := H1
          clear H1
          replace H := Option.bind_eq_some_iff.mp H
          obtain ⟨t220, A180, H⟩ := H
          replace H : ((valanceref09_Across.f a4 a3 a2).bind fun t221 => (some (t220 == t221))) = some r := H
          have A18 := Aside0.mk A180
          clear A180
          replace H := Option.bind_eq_some_iff.mp H
          obtain ⟨t221, A190, H⟩ := H
          replace H : (some (t220 == t221)) = some r := H
          have A19 := Aside0.mk A190
          clear A190
          obtain rfl := Option.some.inj H
          go_enter Try.func3, Try.ntmps3
          go_wp2_with (first | ((with_reducible refine gate_callee (f := 15) rfl ?_); refine goesL_ (some 14) rfl rfl Try.func15 (by kernel_rfl) rfl #[] rfl (by (try simp only [List.map_toArray, List.map_cons, List.map_nil]); first | done | rfl | (simp only [List.length_drop, List.length_take]; rfl)) ?_; (with_reducible refine (valancelaw09_works.calls k  true _ A6.out).mono ?_); rintro e w20 ⟨rfl, hb⟩; refine ⟨_, rfl, ?_⟩; have n0_ := Aside0.mk (below_step (by repeat (first | (with_reducible first | exact HB.out | apply below_alloc | apply pw_below_drewN | apply below_drew1) | exact HB.out)) hb); clear HB; have HB := n0_; clear n0_; (try clear hb); (try clear hb2); (try clear hk); (try clear hi)) | ((with_reducible refine gate_callee (f := 16) rfl ?_); refine goesL_ (some 25) rfl rfl Try.func16 (by kernel_rfl) rfl #[.int .i64 a0, .slice A1 l1.length c1, .int .i64 a2, .int .i64 a3] rfl (by (try simp only [List.map_toArray, List.map_cons, List.map_nil]); first | done | rfl | (simp only [List.length_drop, List.length_take]; rfl)) ?_; (with_reducible refine (justify_Starts.calls k a0 _ _ l1 a2 a3 t206 _ ?side1 ?side2 A10.out).mono ?_); (case side1 => repeat (first | exact (Kd.C_below HR1.out HB.out) | (with_reducible refine Kd.C_alloc ?_ _) | (with_reducible refine Kd.C_drewN ?_ _) | (with_reducible refine Kd.C_drew ?_))); (case side2 => exact HC1.out); rintro e w21 ⟨v207, rfl, ho0, hb⟩; refine ⟨_, rfl, ?_⟩; have n0_ := Aside0.mk (Kd.R_lower ho0 (below_size (by repeat (first | (with_reducible first | exact HB.out | apply below_alloc | apply pw_below_drewN | apply below_drew1) | exact HB.out)))); have n1_ := Aside0.mk (below_step (by repeat (first | (with_reducible first | exact HB.out | apply below_alloc | apply pw_below_drewN | apply below_drew1) | exact HB.out)) hb); clear HB; have HO208 := n0_; have HB := n1_; clear n0_ n1_; (try clear hb); (try clear hb2); (try clear hk); (try clear hi); (try clear ho0); obtain ⟨Ao22, co22, eo22⟩ := Kd.R_slice HO208.out; subst eo22) | ((with_reducible refine gate_callee (f := 17) rfl ?_); refine goesL_ (some 29) rfl rfl Try.func17 (by kernel_rfl) rfl #[.slice Ao22 t206.length co22, .slice A1 l1.length c1, .int .i64 a2] rfl (by (try simp only [List.map_toArray, List.map_cons, List.map_nil]); first | done | rfl | (simp only [List.length_drop, List.length_take]; rfl)) ?_; (with_reducible refine (justify_Flip.calls k _ _ t206 _ _ l1 a2 t209 _ ?side1 ?side2 ?side3 ?side4 A11.out).mono ?_); (case side1 => repeat (first | exact (Kd.R_reads' HO208.out).2.2 | (with_reducible refine Kd.C_alloc ?_ _) | (with_reducible refine Kd.C_drewN ?_ _) | (with_reducible refine Kd.C_drew ?_))); (case side2 => exact (Kd.R_reads' HO208.out).2.1); (case side3 => repeat (first | exact (Kd.C_below HR1.out HB.out) | (with_reducible refine Kd.C_alloc ?_ _) | (with_reducible refine Kd.C_drewN ?_ _) | (with_reducible refine Kd.C_drew ?_))); (case side4 => exact HC1.out); rintro e w23 ⟨v210, rfl, ho0, hb⟩; refine ⟨_, rfl, ?_⟩; have n0_ := Aside0.mk (Kd.R_elder' (by (with_reducible repeat (first | apply Kd.R_alloc | apply Kd.R_drewN | apply Kd.R_drew)); exact HO208.out) (Kd.R_base ho0) hb); have n1_ := Aside0.mk (Kd.R_lower (Kd.R_new' ho0 (Kd.R_lt (by (with_reducible repeat (first | apply Kd.R_alloc | apply Kd.R_drewN | apply Kd.R_drew)); exact HO208.out))) (below_size (by repeat (first | (with_reducible first | exact HB.out | apply below_alloc | apply pw_below_drewN | apply below_drew1) | exact HB.out)))); have n2_ := Aside0.mk (below_step (by repeat (first | (with_reducible first | exact HB.out | apply below_alloc | apply pw_below_drewN | apply below_drew1) | exact HB.out)) hb); clear HO208; clear HB; have HO208 := n0_; have HO211 := n1_; have HB := n2_; clear n0_ n1_ n2_; (try clear hb); (try clear hb2); (try clear hk); (try clear hi); (try clear ho0)) | (go_at_call 19; (with_reducible refine (valanceref09_Starts.calls k a0 _ _ l1 a2 a3 t212 _ ?side1 ?side2 A12.out).mono ?_); (case side1 => repeat (first | exact (Kd.C_below HR1.out HB.out) | (with_reducible refine Kd.C_alloc ?_ _) | (with_reducible refine Kd.C_drewN ?_ _) | (with_reducible refine Kd.C_drew ?_))); (case side2 => exact HC1.out); rintro e w24 ⟨v213, rfl, ho0, hb⟩; have n0_ := Aside0.mk (Kd.R_elder' (by (with_reducible repeat (first | apply Kd.R_alloc | apply Kd.R_drewN | apply Kd.R_drew)); exact HO208.out) (Kd.R_base ho0) hb); have n1_ := Aside0.mk (Kd.R_elder' (by (with_reducible repeat (first | apply Kd.R_alloc | apply Kd.R_drewN | apply Kd.R_drew)); exact HO211.out) (Kd.R_base ho0) hb); have n2_ := Aside0.mk (Kd.R_lower (Kd.R_new' (Kd.R_new' ho0 (Kd.R_lt (by (with_reducible repeat (first | apply Kd.R_alloc | apply Kd.R_drewN | apply Kd.R_drew)); exact HO208.out))) (Kd.R_lt (by (with_reducible repeat (first | apply Kd.R_alloc | apply Kd.R_drewN | apply Kd.R_drew)); exact HO211.out))) (below_size (by repeat (first | (with_reducible first | exact HB.out | apply below_alloc | apply pw_below_drewN | apply below_drew1) | exact HB.out)))); have n3_ := Aside0.mk (below_step (by repeat (first | (with_reducible first | exact HB.out | apply below_alloc | apply pw_below_drewN | apply below_drew1) | exact HB.out)) hb); clear HO208; clear HO211; clear HB; have HO208 := n0_; have HO211 := n1_; have HO214 := n2_; have HB := n3_; clear n0_ n1_ n2_ n3_; (try clear hb); (try clear hb2); (try clear hk); (try clear hi); (try clear ho0); obtain ⟨Ao25, co25, eo25⟩ := Kd.R_slice HO214.out; subst eo25) | (go_at_call 18; (with_reducible refine (valanceref06_Row.calls k _ _ t206 _ _ t212 true _ ?side1 ?side2 ?side3 ?side4 A13.out).mono ?_); (case side1 => repeat (first | exact (Kd.R_reads' HO208.out).2.2 | (with_reducible refine Kd.C_alloc ?_ _) | (with_reducible refine Kd.C_drewN ?_ _) | (with_reducible refine Kd.C_drew ?_))); (case side2 => exact (Kd.R_reads' HO208.out).2.1); (case side3 => repeat (first | exact (Kd.R_reads' HO214.out).2.2 | (with_reducible refine Kd.C_alloc ?_ _) | (with_reducible refine Kd.C_drewN ?_ _) | (with_reducible refine Kd.C_drew ?_))); (case side4 => exact (Kd.R_reads' HO214.out).2.1); rintro e w' ⟨rfl, ⟨nd, rfl⟩⟩) | (go_at_call 20; (with_reducible refine (valanceref09_Flip.calls k _ _ t206 _ _ l1 a2 t216 _ ?side1 ?side2 ?side3 ?side4 A15.out).mono ?_); (case side1 => repeat (first | exact (Kd.R_reads' HO208.out).2.2 | (with_reducible refine Kd.C_alloc ?_ _) | (with_reducible refine Kd.C_drewN ?_ _) | (with_reducible refine Kd.C_drew ?_))); (case side2 => exact (Kd.R_reads' HO208.out).2.1); (case side3 => repeat (first | exact (Kd.C_below HR1.out (by repeat (first | (with_reducible first | exact HB.out | apply below_alloc | apply pw_below_drewN | apply below_drew1) | exact HB.out))) | (with_reducible refine Kd.C_alloc ?_ _) | (with_reducible refine Kd.C_drewN ?_ _) | (with_reducible refine Kd.C_drew ?_))); (case side4 => exact HC1.out); rintro e w26 ⟨v217, rfl, ho0, hb⟩; have n0_ := Aside0.mk (Kd.R_elder' (by (with_reducible repeat (first | apply Kd.R_alloc | apply Kd.R_drewN | apply Kd.R_drew)); exact HO208.out) (Kd.R_base ho0) hb); have n1_ := Aside0.mk (Kd.R_elder' (by (with_reducible repeat (first | apply Kd.R_alloc | apply Kd.R_drewN | apply Kd.R_drew)); exact HO211.out) (Kd.R_base ho0) hb); have n2_ := Aside0.mk (Kd.R_elder' (by (with_reducible repeat (first | apply Kd.R_alloc | apply Kd.R_drewN | apply Kd.R_drew)); exact HO214.out) (Kd.R_base ho0) hb); have n3_ := Aside0.mk (Kd.R_lower (Kd.R_new' (Kd.R_new' (Kd.R_new' ho0 (Kd.R_lt (by (with_reducible repeat (first | apply Kd.R_alloc | apply Kd.R_drewN | apply Kd.R_drew)); exact HO208.out))) (Kd.R_lt (by (with_reducible repeat (first | apply Kd.R_alloc | apply Kd.R_drewN | apply Kd.R_drew)); exact HO211.out))) (Kd.R_lt (by (with_reducible repeat (first | apply Kd.R_alloc | apply Kd.R_drewN | apply Kd.R_drew)); exact HO214.out))) (below_size (by repeat (first | (with_reducible first | exact HB.out | apply below_alloc | apply pw_below_drewN | apply below_drew1) | exact HB.out)))); have n4_ := Aside0.mk (below_step (by repeat (first | (with_reducible first | exact HB.out | apply below_alloc | apply pw_below_drewN | apply below_drew1) | exact HB.out)) hb); clear HO208; clear HO211; clear HO214; clear HB; have HO208 := n0_; have HO211 := n1_; have HO214 := n2_; have HO218 := n3_; have HB := n4_; clear n0_ n1_ n2_ n3_ n4_; (try clear hb); (try clear hb2); (try clear hk); (try clear hi); (try clear ho0); obtain ⟨Ao27, co27, eo27⟩ := Kd.R_slice HO211.out; subst eo27; obtain ⟨Ao28, co28, eo28⟩ := Kd.R_slice HO218.out; subst eo28) | (go_at_call 18; (with_reducible refine (valanceref06_Row.calls k _ _ t209 _ _ t216 true _ ?side1 ?side2 ?side3 ?side4 A16.out).mono ?_); (case side1 => repeat (first | exact (Kd.R_reads' HO211.out).2.2 | (with_reducible refine Kd.C_alloc ?_ _) | (with_reducible refine Kd.C_drewN ?_ _) | (with_reducible refine Kd.C_drew ?_))); (case side2 => exact (Kd.R_reads' HO211.out).2.1); (case side3 => repeat (first | exact (Kd.R_reads' HO218.out).2.2 | (with_reducible refine Kd.C_alloc ?_ _) | (with_reducible refine Kd.C_drewN ?_ _) | (with_reducible refine Kd.C_drew ?_))); (case side4 => exact (Kd.R_reads' HO218.out).2.1); rintro e w' ⟨rfl, ⟨nd, rfl⟩⟩) | (go_at_call 21; (with_reducible refine (justify_Across.calls a4 a3 a2 t220 _ A18.out).mono ?_); rintro e w29 ⟨rfl, hb⟩; have n0_ := Aside0.mk (Kd.R_below (by (with_reducible repeat (first | apply Kd.R_alloc | apply Kd.R_drewN | apply Kd.R_drew)); exact HO208.out) hb); have n1_ := Aside0.mk (Kd.R_below (by (with_reducible repeat (first | apply Kd.R_alloc | apply Kd.R_drewN | apply Kd.R_drew)); exact HO211.out) hb); have n2_ := Aside0.mk (Kd.R_below (by (with_reducible repeat (first | apply Kd.R_alloc | apply Kd.R_drewN | apply Kd.R_drew)); exact HO214.out) hb); have n3_ := Aside0.mk (Kd.R_below (by (with_reducible repeat (first | apply Kd.R_alloc | apply Kd.R_drewN | apply Kd.R_drew)); exact HO218.out) hb); have n4_ := Aside0.mk (below_step (by repeat (first | (with_reducible first | exact HB.out | apply below_alloc | apply pw_below_drewN | apply below_drew1) | exact HB.out)) hb); clear HO208; clear HO211; clear HO214; clear HO218; clear HB; have HO208 := n0_; have HO211 := n1_; have HO214 := n2_; have HO218 := n3_; have HB := n4_; clear n0_ n1_ n2_ n3_ n4_; (try clear hb); (try clear hb2); (try clear hk); (try clear hi)) | (go_at_call 22; (with_reducible refine (valanceref09_Across.calls a4 a3 a2 t221 _ A19.out).mono ?_); rintro e w' ⟨rfl, ⟨nd, rfl⟩⟩))
          go_ret
          exact ⟨by first | rfl | (simp [errW_none, errW_some] <;> rfl) | (simp [*, errW_none, errW_some] <;> rfl), by repeat (first | (with_reducible first | exact HB.out | apply below_alloc | apply pw_below_drewN | apply below_drew1) | exact HB.out)⟩
        · replace c17 := Bool.eq_false_iff.mpr c17
          subst c17
          have H1 : (none) = some r := by rw [if_neg (show ¬ (false = true) by decide)] at H; exact H
          clear H
          have H := H1
          clear H1
          exact absurd H (by simp)
      · replace c14 := Bool.eq_false_iff.mpr c14
        subst c14
        have H1 : (none) = some r := by rw [if_neg (show ¬ (false = true) by decide)] at H; exact H
        clear H
        have H := H1
        clear H1
        exact absurd H (by simp)
  · replace c7 := Bool.eq_false_iff.mpr c7
    subst c7
    have H1 : (none) = some r := by rw [if_neg (show ¬ (false = true) by decide)] at H; exact H
    clear H
    have H := H1
    clear H1
    exact absurd H (by simp)

/-- THE ONE PURE STATEMENT of valancelaw09_JustifyStarts: yours. -/
def valancelaw09_JustifyStarts.Pure : Prop := ∀ (a0 : Int) (l1 : List Int) (a2 : Int) (a3 : Int) (a4 : Int), (Lit.int .i64 a0).wf = true → l1.length ≤ maxLen → l1.length * 8 ≤ 140737488351232 → (∀ x ∈ l1, (Lit.int .i64 x).wf = true) → (Lit.int .i64 a2).wf = true → (Lit.int .i64 a3).wf = true → (Lit.int .i64 a4).wf = true → ∃ k, valancelaw09_JustifyStarts.f k a0 l1 a2 a3 a4 = some true
theorem valancelaw09_JustifyStarts.walk (P : valancelaw09_JustifyStarts.Pure) (a0 : Int) (a1 : Option Addr) (len1 cap1 : Nat) (z1 : List Int) (a2 : Int) (a3 : Int) (a4 : Int) (w : World) (w0 : (Lit.int .i64 a0).wf = true) (w1 : (a1 = none ∧ len1 = 0 ∧ cap1 = 0 ∧ z1 = []) ∨ ∃ x, a1 = some x ∧ len1 ≤ cap1 ∧ cap1 ≤ maxLen ∧ z1.length = cap1 ∧ (∀ i, i < z1.length → w.cell? (x.add i) = some (.int .i64 (z1.getD i 0))) ∧ ∀ n ∈ z1, (Lit.int .i64 n).wf = true) (y1 : len1 * 8 ≤ 140737488351232) (w2 : (Lit.int .i64 a2).wf = true) (w3 : (Lit.int .i64 a3).wf = true) (w4 : (Lit.int .i64 a4).wf = true) :
    Calls Try.prog 3 #[.int .i64 a0, .slice a1 len1 cap1, .int .i64 a2, .int .i64 a3, .int .i64 a4] w fun e w' => e = .returned (.bool true) ∧ Below w.heap.size w w' := by
  obtain ⟨l1, rfl, hr1, hm1, hw1, hc1⟩ := ReadsInt.ofRowC w1
  obtain ⟨k, h⟩ := P a0 l1 a2 a3 a4 w0 hm1 y1 hw1 w2 w3 w4
  refine (valancelaw09_JustifyStarts.calls k a0 _ _ l1 a2 a3 a4 true w (Kd.C_of_reads (d := (0 : Int)) (h1 := fun _ => rfl) hr1) hc1 h).mono ?_
  rintro e w' ⟨rfl, hd⟩
  exact ⟨rfl, hd⟩

end Go.Proofs.Ytnmcefpnpfaklad.V
