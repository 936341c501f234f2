/- What the functions of this seat answer, as plain Lean functions, and that the calls come to just that (written by a program of this repo, over the kit's printer; Lean checks it). -/
import Derived.Test.YtnmcefpnpfaklaaVx0
import Derived.Test.YtnmcefpnpfaklaaVx4
import Derived.Test.YtnmcefpnpfaklaaVx9
namespace Go.Proofs.Ytnmcefpnpfaklaa.V
open Go.RowKit Go.Proofs.YtnmcefpnpfaklaaW.PrintWords Go.Proofs.YtnmcefpnpfaklaaW.PrintLast Go.Proofs.YtnmcefpnpfaklaaW.PrintMore
attribute [local go_sem] max2_int min2_int max_two min_two max_three min_three max_four min_four   -- for this text's walks alone
set_option linter.unusedVariables false
set_option linter.unusedSimpArgs false

/-! ### valancelaw05_LengthParts: function 6 -/
def valancelaw05_LengthParts.j0 : Nat → Int → Int → Int → Int → Bool → Bool → Option (Bool)
  | 0, _, _, _, _, _, _ => none
  | k + 1, x0, x1, x2, x3, x9, x26 => if x26 = true then (some x9) else ((length_Of.f 2 x0 x2 x3).bind fun t185 => ((length_Of.f 2 x1 x2 x3).bind fun t186 => ((length_Of.f 2 x0 (-1) x3).bind fun t187 => (if x9 = true then (if t185 ≤ t186 then ((length_Of.f 2 10000 x2 x3).bind fun t188 => (if t188 = x2 then ((length_Of.f 2 0 x2 x3).bind fun t189 => (if t189 = 0 then ((length_Of.f 0 0 x2 x3).bind fun t190 => (some (t187 == t190))) else (none))) else (none))) else (none)) else (none)))))
def valancelaw05_LengthParts.f (k : Nat) (a0 : Int) (a1 : Int) (a2 : Int) (a3 : Int) : Option (Bool) := (valancelaw05_works.f).bind fun t184 => (if t184 = true then (if a2 < 0 then (valancelaw05_LengthParts.j0 k a0 a1 a2 a3 t184 true) else (if a2 > 1099511627776 then (valancelaw05_LengthParts.j0 k a0 a1 a2 a3 t184 true) else (valancelaw05_LengthParts.j0 k a0 a1 a2 a3 t184 (decide (a0 > a1))))) else (none))
theorem valancelaw05_LengthParts.mono_l : ∀ k, (∀ y0 y1 y2 y3 y4 y5, LeO (valancelaw05_LengthParts.j0 k y0 y1 y2 y3 y4 y5) (valancelaw05_LengthParts.j0 (k + 1) y0 y1 y2 y3 y4 y5))
  | 0 => fun _ _ _ _ _ _ r h => by simp [valancelaw05_LengthParts.j0] at h
  | k + 1 => by
    have ih0 := valancelaw05_LengthParts.mono_l k
    · intro y0 y1 y2 y3 y4 y5
      unfold valancelaw05_LengthParts.j0
      repeat' first
      | (with_reducible exact ih0 _ _ _ _ _ _)
      | (with_reducible exact LeO.refl _)
      | (with_reducible exact LeO.none _)
      | (with_reducible refine LeO.ite ?_ ?_)
      | (with_reducible refine LeO.bind ?_ (fun _ => ?_))
      | exact ih0 _ _ _ _ _ _
      | exact LeO.none _
      | refine LeO.ite ?_ ?_
      | refine LeO.bind ?_ (fun _ => ?_)
theorem valancelaw05_LengthParts.mono : ∀ a0 a1 a2 a3 k, LeO (valancelaw05_LengthParts.f k a0 a1 a2 a3) (valancelaw05_LengthParts.f (k + 1) a0 a1 a2 a3) := by
  intro a0 a1 a2 a3 k
  have ih0 := valancelaw05_LengthParts.mono_l k
  unfold valancelaw05_LengthParts.f
  repeat' first
      | (with_reducible exact ih0 _ _ _ _ _ _)
      | (with_reducible exact LeO.refl _)
      | (with_reducible exact LeO.none _)
      | (with_reducible refine LeO.ite ?_ ?_)
      | (with_reducible refine LeO.bind ?_ (fun _ => ?_))
      | exact ih0 _ _ _ _ _ _
      | exact LeO.none _
      | refine LeO.ite ?_ ?_
      | refine LeO.bind ?_ (fun _ => ?_)
set_option maxHeartbeats 8000000 in
set_option maxRecDepth 100000 in
theorem valancelaw05_LengthParts.calls (k : Nat) (a0 : Int) (a1 : Int) (a2 : Int) (a3 : Int) (r : Bool) (w : World) (h : valancelaw05_LengthParts.f k a0 a1 a2 a3 = some r) :
    Calls Try.prog 6 #[.int .i64 a0, .int .i64 a1, .int .i64 a2, .int .i64 a3] w fun e w' => e = .returned (.bool r) ∧ Below w.heap.size w w' := by
  have hu24 := Try.underlying24
  have HB := Aside0.mk (Below.refl w.heap.size w)
  have H : ((valancelaw05_works.f).bind fun t184 => (if t184 = true then (if a2 < 0 then (valancelaw05_LengthParts.j0 k a0 a1 a2 a3 t184 true) else (if a2 > 1099511627776 then (valancelaw05_LengthParts.j0 k a0 a1 a2 a3 t184 true) else (valancelaw05_LengthParts.j0 k a0 a1 a2 a3 t184 (decide (a0 > a1))))) else (none))) = some r := h
  clear h
  replace H := Option.bind_eq_some_iff.mp H
  obtain ⟨t184, A50, H⟩ := H
  replace H : (if t184 = true then (if a2 < 0 then (valancelaw05_LengthParts.j0 k a0 a1 a2 a3 t184 true) else (if a2 > 1099511627776 then (valancelaw05_LengthParts.j0 k a0 a1 a2 a3 t184 true) else (valancelaw05_LengthParts.j0 k a0 a1 a2 a3 t184 (decide (a0 > a1))))) else (none)) = some r := H
  have A5 := Aside0.mk A50
  clear A50
  by_cases c6 : t184 = true
  · subst c6
    have H1 : (if a2 < 0 then (valancelaw05_LengthParts.j0 k a0 a1 a2 a3 true true) else (if a2 > 1099511627776 then (valancelaw05_LengthParts.j0 k a0 a1 a2 a3 true true) else (valancelaw05_LengthParts.j0 k a0 a1 a2 a3 true (decide (a0 > a1))))) = some r := by rw [if_pos rfl] at H; exact H
    clear H
    have H := H1
    clear H1
    have HC7 := Aside0.mk H
    clear H
    go_enter Try.func6, Try.ntmps6
    go_upto_region 4 with (first | ((with_reducible refine gate_callee (f := 12) rfl ?_); refine goesL_ (some 13) rfl rfl Try.func12 (by kernel_rfl) rfl #[] rfl (by (try simp only [List.map_toArray, List.map_cons, List.map_nil]); first | done | rfl | (simp only [List.length_drop, List.length_take]; rfl)) ?_; (with_reducible refine (valancelaw05_works.calls  true _ A5.out).mono ?_); rintro e w8 ⟨rfl, hb⟩; refine ⟨_, rfl, ?_⟩; have n0_ := Aside0.mk (below_step (by repeat (first | (with_reducible first | exact HB.out | apply below_alloc | apply pw_below_drewN | apply below_drew1) | exact HB.out)) hb); clear HB; have HB := n0_; clear n0_; (try clear hb); (try clear hb2); (try clear hk); (try clear hi)))
    (try simp only [Act.put, List.setIfInBounds_toArray, List.set_cons_zero, List.set_cons_succ])
    go_cut [26] (fun v26 wc => ∃ (kq : Nat) (x26_6 : Bool), v26 = .bool x26_6 ∧ Aside0 (valancelaw05_LengthParts.j0 kq a0 a1 a2 a3 true x26_6 = some r) ∧ Aside0 (kq ≤ k) ∧ Aside0 (Below w.heap.size w wc))
    case first =>
      have H := HC7.out
      clear HC7
      by_cases c9 : a2 < 0
      · rw [if_pos c9] at H
        have c9b0 : decide (a2 < 0) = true := decide_eq_true c9
        clear c9
        (first | rw [c9b0] | (simp only [i64_w, i32_w]; rw [c9b0]) | skip)
        have H' := Aside0.mk H
        clear H
        go_wp2
        go_meet
        case rel => exact ⟨_, (true), (by first | rfl | (simp; done) | (simp [*]; done)), H', ⟨by first | omega | exact Nat.le_refl _⟩, ⟨by repeat (first | (with_reducible first | exact HB.out | apply below_alloc | apply pw_below_drewN | apply below_drew1) | exact HB.out)⟩⟩
      · rw [if_neg c9] at H
        have c9b0 : decide (a2 < 0) = false := decide_eq_false c9
        clear c9
        (first | rw [c9b0] | (simp only [i64_w, i32_w]; rw [c9b0]) | skip)
        by_cases c10 : a2 > 1099511627776
        · rw [if_pos c10] at H
          have c10b0 : decide (1099511627776 < a2) = true := decide_eq_true c10
          clear c10
          have H' := Aside0.mk H
          clear H
          go_wp2
          go_meet
          case rel => exact ⟨_, (true), (by first | rfl | (simp; done) | (simp [*]; done)), H', ⟨by first | omega | exact Nat.le_refl _⟩, ⟨by repeat (first | (with_reducible first | exact HB.out | apply below_alloc | apply pw_below_drewN | apply below_drew1) | exact HB.out)⟩⟩
        · rw [if_neg c10] at H
          have c10b0 : decide (1099511627776 < a2) = false := decide_eq_false c10
          clear c10
          have H' := Aside0.mk H
          clear H
          go_wp2
          go_meet
          case rel => exact ⟨_, (decide (a0 > a1)), (by first | rfl | (simp; done) | (simp [*]; done)), H', ⟨by first | omega | exact Nat.le_refl _⟩, ⟨by repeat (first | (with_reducible first | exact HB.out | apply below_alloc | apply pw_below_drewN | apply below_drew1) | exact HB.out)⟩⟩
    case rest =>
      clear HC7
      try clear c1
      try clear p2
      try clear c6
      try clear c9
      try clear c9b0
      try clear c10
      try clear c10b0
      obtain ⟨kq, x26_6, rfl, HA, HJ6, HB⟩ := hcut
      cases kq with
      | zero => exact absurd HA.out (by simp [valancelaw05_LengthParts.j0])
      | succ kj6 =>
        have H := HA.out
        clear HA
        simp only [valancelaw05_LengthParts.j0] at H
        by_cases c11 : x26_6 = true
        · subst c11
          have H1 : (some true) = some r := by rw [if_pos rfl] at H; exact H
          clear H
          have H := H1
          clear H1
          obtain rfl := Option.some.inj H
          go_wp2
          go_ret
          exact ⟨by first | rfl | (simp [errW_none, errW_some] <;> rfl) | (simp [*, errW_none, errW_some] <;> rfl), by repeat (first | (with_reducible first | exact HB.out | apply below_alloc | apply pw_below_drewN | apply below_drew1) | exact HB.out)⟩
        · replace c11 := Bool.eq_false_iff.mpr c11
          subst c11
          have H1 : ((length_Of.f 2 a0 a2 a3).bind fun t185 => ((length_Of.f 2 a1 a2 a3).bind fun t186 => ((length_Of.f 2 a0 (-1) a3).bind fun t187 => (if true = true then (if t185 ≤ t186 then ((length_Of.f 2 10000 a2 a3).bind fun t188 => (if t188 = a2 then ((length_Of.f 2 0 a2 a3).bind fun t189 => (if t189 = 0 then ((length_Of.f 0 0 a2 a3).bind fun t190 => (some (t187 == t190))) else (none))) else (none))) else (none)) else (none))))) = some r := by rw [if_neg (show ¬ (false = true) by decide)] at H; exact H
          clear H
          have H := H1
          clear H1
          replace H := Option.bind_eq_some_iff.mp H
          obtain ⟨t185, A120, H⟩ := H
          replace H : ((length_Of.f 2 a1 a2 a3).bind fun t186 => ((length_Of.f 2 a0 (-1) a3).bind fun t187 => (if true = true then (if t185 ≤ t186 then ((length_Of.f 2 10000 a2 a3).bind fun t188 => (if t188 = a2 then ((length_Of.f 2 0 a2 a3).bind fun t189 => (if t189 = 0 then ((length_Of.f 0 0 a2 a3).bind fun t190 => (some (t187 == t190))) else (none))) else (none))) else (none)) else (none)))) = some r := H
          have A12 := Aside0.mk A120
          clear A120
          replace H := Option.bind_eq_some_iff.mp H
          obtain ⟨t186, A130, H⟩ := H
          replace H : ((length_Of.f 2 a0 (-1) a3).bind fun t187 => (if true = true then (if t185 ≤ t186 then ((length_Of.f 2 10000 a2 a3).bind fun t188 => (if t188 = a2 then ((length_Of.f 2 0 a2 a3).bind fun t189 => (if t189 = 0 then ((length_Of.f 0 0 a2 a3).bind fun t190 => (some (t187 == t190))) else (none))) else (none))) else (none)) else (none))) = some r := H
          have A13 := Aside0.mk A130
          clear A130
          replace H := Option.bind_eq_some_iff.mp H
          obtain ⟨t187, A140, H⟩ := H
          replace H : (if true = true then (if t185 ≤ t186 then ((length_Of.f 2 10000 a2 a3).bind fun t188 => (if t188 = a2 then ((length_Of.f 2 0 a2 a3).bind fun t189 => (if t189 = 0 then ((length_Of.f 0 0 a2 a3).bind fun t190 => (some (t187 == t190))) else (none))) else (none))) else (none)) else (none)) = some r := H
          have A14 := Aside0.mk A140
          clear A140
          by_cases c15 : true = true
          · clear c15
            have H1 : (if t185 ≤ t186 then ((length_Of.f 2 10000 a2 a3).bind fun t188 => (if t188 = a2 then ((length_Of.f 2 0 a2 a3).bind fun t189 => (if t189 = 0 then ((length_Of.f 0 0 a2 a3).bind fun t190 => (some (t187 == t190))) else (none))) else (none))) else (none)) = some r := by first | (rw [if_pos rfl] at H; exact H) | (rw [if_pos True.intro] at H; exact H)
            clear H
            have H := H1
            clear H1
            by_cases c16 : t185 ≤ t186
            · rw [if_pos c16] at H
              have c16b0 : decide (t185 ≤ t186) = true := decide_eq_true c16
              clear c16
              replace H := Option.bind_eq_some_iff.mp H
              obtain ⟨t188, A170, H⟩ := H
              replace H : (if t188 = a2 then ((length_Of.f 2 0 a2 a3).bind fun t189 => (if t189 = 0 then ((length_Of.f 0 0 a2 a3).bind fun t190 => (some (t187 == t190))) else (none))) else (none)) = some r := H
              have A17 := Aside0.mk A170
              clear A170
              by_cases c18 : t188 = a2
              · rw [if_pos c18] at H
                have c18b0 : (t188 == a2) = true := beq_iff_eq.mpr c18
                have c18b1 : (t188 != a2) = false := bne_eq_false_iff_eq.mpr c18
                clear c18
                replace H := Option.bind_eq_some_iff.mp H
                obtain ⟨t189, A190, H⟩ := H
                replace H : (if t189 = 0 then ((length_Of.f 0 0 a2 a3).bind fun t190 => (some (t187 == t190))) else (none)) = some r := H
                have A19 := Aside0.mk A190
                clear A190
                by_cases c20 : t189 = 0
                · rw [if_pos c20] at H
                  have c20b0 : (t189 == 0) = true := beq_iff_eq.mpr c20
                  have c20b1 : (t189 != 0) = false := bne_eq_false_iff_eq.mpr c20
                  clear c20
                  replace H := Option.bind_eq_some_iff.mp H
                  obtain ⟨t190, A210, H⟩ := H
                  replace H : (some (t187 == t190)) = some r := H
                  have A21 := Aside0.mk A210
                  clear A210
                  obtain rfl := Option.some.inj H
                  go_wp2_with (first | ((with_reducible refine gate_callee (f := 13) rfl ?_); refine goesL_ (some 32) rfl rfl Try.func13 (by kernel_rfl) rfl #[.agg #[.int .i64 2, .int .i64 a0], .int .i64 a2, .int .i64 a3] rfl (by (try simp only [List.map_toArray, List.map_cons, List.map_nil]); first | done | rfl | (simp only [List.length_drop, List.length_take]; rfl)) ?_; (with_reducible refine (length_Of.calls 2 a0 a2 a3 t185 _ A12.out).mono ?_); rintro e w22 ⟨rfl, hb⟩; refine ⟨_, rfl, ?_⟩; have n0_ := Aside0.mk (below_step (by repeat (first | (with_reducible first | exact HB.out | apply below_alloc | apply pw_below_drewN | apply below_drew1) | exact HB.out)) hb); clear HB; have HB := n0_; clear n0_; (try clear hb); (try clear hb2); (try clear hk); (try clear hi)) | ((with_reducible refine gate_callee (f := 13) rfl ?_); refine goesL_ (some 37) rfl rfl Try.func13 (by kernel_rfl) rfl #[.agg #[.int .i64 2, .int .i64 a1], .int .i64 a2, .int .i64 a3] rfl (by (try simp only [List.map_toArray, List.map_cons, List.map_nil]); first | done | rfl | (simp only [List.length_drop, List.length_take]; rfl)) ?_; (with_reducible refine (length_Of.calls 2 a1 a2 a3 t186 _ A13.out).mono ?_); rintro e w23 ⟨rfl, hb⟩; refine ⟨_, rfl, ?_⟩; have n0_ := Aside0.mk (below_step (by repeat (first | (with_reducible first | exact HB.out | apply below_alloc | apply pw_below_drewN | apply below_drew1) | exact HB.out)) hb); clear HB; have HB := n0_; clear n0_; (try clear hb); (try clear hb2); (try clear hk); (try clear hi)) | ((with_reducible refine gate_callee (f := 13) rfl ?_); refine goesL_ (some 41) rfl rfl Try.func13 (by kernel_rfl) rfl #[.agg #[.int .i64 2, .int .i64 a0], .int .i64 (-1), .int .i64 a3] rfl (by (try simp only [List.map_toArray, List.map_cons, List.map_nil]); first | done | rfl | (simp only [List.length_drop, List.length_take]; rfl)) ?_; (with_reducible refine (length_Of.calls 2 a0 (-1) a3 t187 _ A14.out).mono ?_); rintro e w24 ⟨rfl, hb⟩; refine ⟨_, rfl, ?_⟩; have n0_ := Aside0.mk (below_step (by repeat (first | (with_reducible first | exact HB.out | apply below_alloc | apply pw_below_drewN | apply below_drew1) | exact HB.out)) hb); clear HB; have HB := n0_; clear n0_; (try clear hb); (try clear hb2); (try clear hk); (try clear hi)) | (go_at_call 13; (with_reducible refine (length_Of.calls 2 10000 a2 a3 t188 _ A17.out).mono ?_); rintro e w25 ⟨rfl, hb⟩; have n0_ := Aside0.mk (below_step (by repeat (first | (with_reducible first | exact HB.out | apply below_alloc | apply pw_below_drewN | apply below_drew1) | exact HB.out)) hb); clear HB; have HB := n0_; clear n0_; (try clear hb); (try clear hb2); (try clear hk); (try clear hi)) | (go_at_call 13; (with_reducible refine (length_Of.calls 2 0 a2 a3 t189 _ A19.out).mono ?_); rintro e w26 ⟨rfl, hb⟩; have n0_ := Aside0.mk (below_step (by repeat (first | (with_reducible first | exact HB.out | apply below_alloc | apply pw_below_drewN | apply below_drew1) | exact HB.out)) hb); clear HB; have HB := n0_; clear n0_; (try clear hb); (try clear hb2); (try clear hk); (try clear hi)) | (go_at_call 13; (with_reducible refine (length_Of.calls 0 0 a2 a3 t190 _ A21.out).mono ?_); rintro e w27 ⟨rfl, hb⟩; have n0_ := Aside0.mk (below_step (by repeat (first | (with_reducible first | exact HB.out | apply below_alloc | apply pw_below_drewN | apply below_drew1) | exact HB.out)) hb); clear HB; have HB := n0_; clear n0_; (try clear hb); (try clear hb2); (try clear hk); (try clear hi)))
                  go_ret
                  exact ⟨by first | rfl | (simp [errW_none, errW_some] <;> rfl) | (simp [*, errW_none, errW_some] <;> rfl), by repeat (first | (with_reducible first | exact HB.out | apply below_alloc | apply pw_below_drewN | apply below_drew1) | exact HB.out)⟩
                · rw [if_neg c20] at H
                  exact absurd H (by simp)
              · rw [if_neg c18] at H
                exact absurd H (by simp)
            · rw [if_neg c16] at H
              exact absurd H (by simp)
          · exact absurd rfl c15
  · replace c6 := Bool.eq_false_iff.mpr c6
    subst c6
    have H1 : (none) = some r := by rw [if_neg (show ¬ (false = true) by decide)] at H; exact H
    clear H
    have H := H1
    clear H1
    exact absurd H (by simp)

/-- THE ONE PURE STATEMENT of valancelaw05_LengthParts: yours. -/
def valancelaw05_LengthParts.Pure : Prop := ∀ (a0 : Int) (a1 : Int) (a2 : Int) (a3 : Int), (Lit.int .i64 a0).wf = true → (Lit.int .i64 a1).wf = true → (Lit.int .i64 a2).wf = true → (Lit.int .i64 a3).wf = true → ∃ k, valancelaw05_LengthParts.f k a0 a1 a2 a3 = some true
theorem valancelaw05_LengthParts.walk (P : valancelaw05_LengthParts.Pure) (a0 : Int) (a1 : Int) (a2 : Int) (a3 : Int) (w : World) (w0 : (Lit.int .i64 a0).wf = true) (w1 : (Lit.int .i64 a1).wf = true) (w2 : (Lit.int .i64 a2).wf = true) (w3 : (Lit.int .i64 a3).wf = true) :
    Calls Try.prog 6 #[.int .i64 a0, .int .i64 a1, .int .i64 a2, .int .i64 a3] w fun e w' => e = .returned (.bool true) ∧ Below w.heap.size w w' := by
  obtain ⟨k, h⟩ := P a0 a1 a2 a3 w0 w1 w2 w3
  refine (valancelaw05_LengthParts.calls k a0 a1 a2 a3 true w h).mono ?_
  rintro e w' ⟨rfl, hd⟩
  exact ⟨rfl, hd⟩

end Go.Proofs.Ytnmcefpnpfaklaa.V
