/- What the functions of this seat answer, as plain Lean functions, and that the calls come to just that (written by a program of this repo, over the kit's printer; Lean checks it). -/
import Derived.Test.YtnmcefpnpfakladVx0
import Derived.Test.YtnmcefpnpfakladVx2
namespace Go.Proofs.Ytnmcefpnpfaklad.V
open Go.RowKit Go.Proofs.YtnmcefpnpfakladW.PrintWords Go.Proofs.YtnmcefpnpfakladW.PrintLast Go.Proofs.YtnmcefpnpfakladW.PrintMore
attribute [local go_sem] max2_int min2_int max_two min_two max_three min_three max_four min_four   -- for this text's walks alone
set_option linter.unusedVariables false
set_option linter.unusedSimpArgs false

/-! ### valanceref01_Mul: function 62 -/
def vsat (x : Int) : Int := if x > 1099511627776 then 1099511627776 else x
theorem vsat_cut {x : Int} (h : 0 ≤ x) : vcut x = vsat x := by unfold vcut vsat; (repeat' split) <;> omega
theorem vsat_step (n a b : Int) (ha : 0 ≤ a) (hb : 0 ≤ b) (hn : 0 ≤ n) (c : Int) (hc : 0 ≤ c) :
    vsat (vsat (n + c) + vsat (2 * a) * b) = vsat (n + c + 2 * (a * b)) := by
  have h0 := Int.mul_nonneg ha hb
  by_cases h : 2 * a > 1099511627776
  · have e : vsat (2 * a) = 1099511627776 := by unfold vsat; rw [if_pos h]
    rw [e]
    by_cases hz : b = 0
    · subst hz; simp only [Int.mul_zero, Int.add_zero]; unfold vsat; (repeat' split) <;> omega
    · have h1 : 549755813888 * b ≤ a * b := Int.mul_le_mul_of_nonneg_right (by omega) hb
      have h2 : (2 * a - 1099511627777) * b ≥ 0 := Int.mul_nonneg (by omega) hb
      rw [Int.sub_mul, Int.mul_assoc] at h2
      unfold vsat; (repeat' split) <;> omega
  · have e : vsat (2 * a) = 2 * a := by unfold vsat; rw [if_neg h]
    rw [e, Int.mul_assoc]
    generalize a * b = P at *
    unfold vsat; (repeat' split) <;> omega
def MulRel (S : Int) (a b n : Value) : Prop := ∃ A B N : Int, a = .int .i64 A ∧ b = .int .i64 B ∧ n = .int .i64 N ∧ 0 ≤ A ∧ A ≤ 1099511627776 ∧ 0 ≤ B ∧ B ≤ 1099511627776 ∧ 0 ≤ N ∧ N ≤ 1099511627776 ∧ vsat (N + A * B) = S
theorem mulrel_odd {S A B N : Int} (hA : 0 ≤ A) (hA2 : A ≤ 1099511627776) (hB : 0 ≤ B) (hB2 : B ≤ 1099511627776) (hN : 0 ≤ N) (hN2 : N ≤ 1099511627776) (ho : B % 2 = 1) (hS : vsat (N + A * B) = S) :
    MulRel S (.int .i64 (vcut (2 * A))) (.int .i64 (B / 2)) (.int .i64 (vcut (N + A))) := by
  have s2 : 0 ≤ vsat (2 * A) ∧ vsat (2 * A) ≤ 1099511627776 := by unfold vsat; (repeat' split) <;> omega
  have s1 : 0 ≤ vsat (N + A) ∧ vsat (N + A) ≤ 1099511627776 := by unfold vsat; (repeat' split) <;> omega
  rw [vsat_cut (x := N + A) (by omega), vsat_cut (x := 2 * A) (by omega)]
  refine ⟨_, _, _, rfl, rfl, rfl, s2.1, s2.2, by omega, by omega, s1.1, s1.2, ?_⟩
  rw [vsat_step N A (B / 2) hA (by omega) hN A hA, ← hS]
  have : B = 2 * (B / 2) + 1 := by omega
  generalize B / 2 = q at *
  subst this
  rw [Int.mul_add, Int.mul_one, show A * (2 * q) = 2 * (A * q) by ac_rfl]
  congr 1; omega
theorem mulrel_even {S A B N : Int} (hA : 0 ≤ A) (hA2 : A ≤ 1099511627776) (hB : 0 ≤ B) (hB2 : B ≤ 1099511627776) (hN : 0 ≤ N) (hN2 : N ≤ 1099511627776) (ho : B % 2 = 0) (hS : vsat (N + A * B) = S) :
    MulRel S (.int .i64 (vcut (2 * A))) (.int .i64 (B / 2)) (.int .i64 N) := by
  have s2 : 0 ≤ vsat (2 * A) ∧ vsat (2 * A) ≤ 1099511627776 := by unfold vsat; (repeat' split) <;> omega
  rw [vsat_cut (x := 2 * A) (by omega)]
  refine ⟨_, _, _, rfl, rfl, rfl, s2.1, s2.2, by omega, by omega, hN, hN2, ?_⟩
  have sn : vsat N = N := by unfold vsat; rw [if_neg (by omega)]
  have hst := vsat_step N A (B / 2) hA (by omega) hN 0 (by omega)
  rw [Int.add_zero, sn] at hst
  rw [hst, ← hS]
  have : B = 2 * (B / 2) := by omega
  generalize B / 2 = q at *
  subst this
  rw [show A * (2 * q) = 2 * (A * q) by ac_rfl]
theorem gm_cut (x : Int) (w : World) : Calls Try.prog 53 #[.int .i64 x] w fun e w' => e = .returned (.int .i64 (vcut x)) ∧ w = w' := by
  by_cases h1 : x > 1099511627776
  · have e : vcut x = 1099511627776 := by unfold vcut; rw [if_pos h1]
    rw [e]
    go_enter Try.func53, Try.ntmps53
    go_wp2
    go_ret
    exact ⟨rfl, rfl⟩
  · by_cases h2 : x < -1099511627776
    · have e : vcut x = -1099511627776 := by unfold vcut; rw [if_neg h1, if_pos h2]
      rw [e]
      go_enter Try.func53, Try.ntmps53
      go_wp2
      go_ret
      exact ⟨rfl, rfl⟩
    · have e : vcut x = x := by unfold vcut; rw [if_neg h1, if_neg h2]
      rw [e]; clear e
      go_enter Try.func53, Try.ntmps53
      go_wp2
      go_ret
      exact ⟨rfl, rfl⟩
theorem gm_mul_case (a0 a1 : Int) (S : Int) (A0 B0 : Int) (na nb : Bool) (h1 : decide (vcut a0 < 0) = na) (h2 : decide (vcut a1 < 0) = nb) (hA : A0 = if na = true then -vcut a0 else vcut a0) (hB : B0 = if nb = true then -vcut a1 else vcut a1) (hS : vsat (A0 * B0) = S) :
    vmul a0 a1 = if (na != nb) = true then -S else S := by
  have hs := vmul_signs (vcut a0) (vcut a1) (vcut_bd a0) (vcut_bd a1)
  unfold vmul
  rw [← hs, h1, h2, ← hS, hA, hB, ← h1, ← h2]
  simp only [decide_eq_true_eq]
  unfold vsat
  rfl
theorem gm_mul (a0 a1 : Int) (w : World) : Calls Try.prog 62 #[.int .i64 a0, .int .i64 a1] w fun e w' => e = .returned (.int .i64 (vmul a0 a1)) ∧ w = w' := by
  obtain ⟨ba1, ba2⟩ := vcut_bd a0
  obtain ⟨bb1, bb2⟩ := vcut_bd a1
  by_cases h1 : vcut a0 < 0 <;> by_cases h2 : vcut a1 < 0
  all_goals
    obtain ⟨S, HS⟩ : ∃ S, Aside0 (vsat ((if decide (vcut a0 < 0) = true then -vcut a0 else vcut a0) * (if decide (vcut a1 < 0) = true then -vcut a1 else vcut a1)) = S) := ⟨_, ⟨rfl⟩⟩
    have HM := Aside0.mk (gm_mul_case a0 a1 S _ _ _ _ rfl rfl rfl rfl HS.out)
    rw [HM.out]
    first | (have d1 : decide (vcut a0 < 0) = true := decide_eq_true h1) | (have d1 : decide (vcut a0 < 0) = false := decide_eq_false h1)
    first | (have d2 : decide (vcut a1 < 0) = true := decide_eq_true h2) | (have d2 : decide (vcut a1 < 0) = false := decide_eq_false h2)
    simp only [d1, d2, if_true, Bool.false_eq_true, if_false, bne_self_eq_false, Bool.bne_true, Bool.bne_false, Bool.not_true, Bool.not_false] at HS ⊢
    have H1 := Aside0.mk h1
    have H2 := Aside0.mk h2
    clear HM h1 h2
    go_enter Try.func62, Try.ntmps62
    go_wp2_with (go_at_call 53; refine (gm_cut _ _).mono ?_; rintro e w' ⟨rfl, rfl⟩)
    go_loop [0, 1, 6] (MulRel S) (fun _ b _ => (intOf b).toNat)
    case atStart =>
      have q1 := H1.out
      have q2 := H2.out
      exact ⟨_, _, _, rfl, rfl, rfl, by omega, by omega, by omega, by omega, by omega, by omega, by rw [Int.zero_add]; exact HS.out⟩
    case round =>
      obtain ⟨A, B, N, rfl, rfl, rfl, hA, hA2, hB, hB2, hN, hN2, hS⟩ := hrel
      have HS' := Aside0.mk hS
      clear hS
      by_cases hz : 0 < B
      · by_cases ho : B % 2 = 1
        · have hd : (B % 2 == 1) = true := by simpa using ho
          go_wp2_with (go_at_call 53; refine (gm_cut _ _).mono ?_; rintro e w' ⟨rfl, rfl⟩)
          go_round
          case rel => exact mulrel_odd hA hA2 hB hB2 hN hN2 ho HS'.out
          case measure => simp [intOf]; omega
        · have hd : (B % 2 == 1) = false := by simpa using ho
          go_wp2_with (go_at_call 53; refine (gm_cut _ _).mono ?_; rintro e w' ⟨rfl, rfl⟩)
          go_round
          case rel => exact mulrel_even hA hA2 hB hB2 hN hN2 (by omega) HS'.out
          case measure => simp [intOf]; omega
      · have hB0 : B = 0 := by omega
        subst hB0
        have e : vsat (N + A * 0) = N := by unfold vsat; simp; omega
        have hS := HS'.out
        rw [e] at hS
        subst hS
        clear e
        go_wp2
        go_ret
        exact ⟨rfl, rfl⟩
def valanceref01_Mul.f (a0 a1 : Int) : Option Int := some (vmul a0 a1)
theorem valanceref01_Mul.calls (a0 a1 : Int) (r : Int) (w : World) (h : valanceref01_Mul.f a0 a1 = some r) :
    Calls Try.prog 62 #[.int .i64 a0, .int .i64 a1] w fun e w' => e = .returned (.int .i64 r) ∧ Below w.heap.size w w' := by
  obtain rfl := Option.some.inj h
  exact (gm_mul a0 a1 w).mono fun e w' ⟨he, hw⟩ => ⟨he, hw ▸ Below.refl _ _⟩

end Go.Proofs.Ytnmcefpnpfaklad.V
