/- The law LengthParts of layer 5 holds of the printed functions, for all lengths and whole numbers of 64 bits. -/
import Derived.Test.YtnmcefpnpfaklaaVx2
import Derived.Test.YtnmcefpnpfaklaaVx5
import Derived.Test.YtnmcefpnpfaklaaVx10
import Derived.Test.YtnmcefpnpfaklaaVx22
set_option linter.unusedVariables false
set_option linter.unusedSimpArgs false
namespace Go.Proofs.Ytnmcefpnpfaklaa.Pure
open Go.RowKit Go.Proofs.Ytnmcefpnpfaklaa.V Go.Proofs.YtnmcefpnpfaklaaW.PrintWords Go.Proofs.YtnmcefpnpfaklaaW.PrintLast Go.Proofs.YtnmcefpnpfaklaaW.PrintMore

theorem vof_two (n b no : Int) (hb : 0 ≤ b) : vof 2 n b no = vpart b n := by unfold vof; rw [if_neg (by omega), if_pos ⟨rfl, hb⟩]
theorem vof_neg (n no : Int) : vof 2 n (-1) no = vcut no := by unfold vof; rw [if_neg (by omega), if_neg (by omega)]
theorem vof_zero (n b no : Int) : vof 0 n b no = vcut no := by unfold vof; rw [if_neg (by omega), if_neg (by omega)]
theorem parts_j0 (k : Nat) (hk : 1 ≤ k) (p q b no : Int) (hb : 0 ≤ b) (hb2 : b ≤ 1099511627776) (hq : p ≤ q) : valancelaw05_LengthParts.j0 k p q b no true false = some true := by
  obtain ⟨k, rfl⟩ : ∃ m, k = m + 1 := ⟨k - 1, by omega⟩
  simp only [valancelaw05_LengthParts.j0, length_Of_eq, Option.bind_some, if_true, Bool.false_eq_true, if_false]
  simp only [vof_two _ _ _ hb, vof_neg, vof_zero]
  have m1 : vpart b p ≤ vpart b q := by
    unfold vpart
    apply vcut_mono
    rw [vcut_id (by omega) hb2]
    apply Int.ediv_le_ediv (by omega)
    exact Int.mul_le_mul_of_nonneg_left (by unfold mn mx; (repeat' split) <;> omega) hb
  have m2 : vpart b 10000 = b := by
    unfold vpart
    rw [vcut_id (n := b) (by omega) hb2, show mn (mx 10000 0) 1000000 = (10000 : Int) by decide, Int.mul_ediv_cancel _ (by omega), vcut_id (by omega) hb2]
  have m3 : vpart b 0 = 0 := by
    unfold vpart
    rw [show mn (mx 0 0) 1000000 = (0 : Int) by decide, Int.mul_zero]; decide
  rw [if_pos m1, m2, if_pos rfl, m3, if_pos rfl, beq_self_eq_true]
theorem LengthParts : valancelaw05_LengthParts.Pure := by
  intro p q b no _ _ _ _
  refine ⟨9, ?_⟩
  unfold valancelaw05_LengthParts.f
  simp only [works05_eq, Option.bind_some, if_true]
  by_cases h1 : b < 0
  · rw [if_pos h1]; rfl
  rw [if_neg h1]
  by_cases h2 : b > 1099511627776
  · rw [if_pos h2]; rfl
  rw [if_neg h2]
  by_cases h3 : p > q
  · rw [decide_eq_true h3]; rfl
  rw [decide_eq_false h3]
  exact parts_j0 9 (by omega) p q b no (by omega) (by omega) (by omega)

end Go.Proofs.Ytnmcefpnpfaklaa.Pure
