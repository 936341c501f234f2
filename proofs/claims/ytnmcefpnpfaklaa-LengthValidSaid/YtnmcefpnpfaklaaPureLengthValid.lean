/- The law LengthValid of layer 5 holds of the printed functions, for all lengths and whole numbers of 64 bits. -/
import Derived.Test.YtnmcefpnpfaklaaVx2
import Derived.Test.YtnmcefpnpfaklaaVx5
import Derived.Test.YtnmcefpnpfaklaaVx7
import Derived.Test.YtnmcefpnpfaklaaVx10
import Derived.Test.YtnmcefpnpfaklaaVx24
set_option linter.unusedVariables false
set_option linter.unusedSimpArgs false
namespace Go.Proofs.Ytnmcefpnpfaklaa.Pure
open Go.RowKit Go.Proofs.Ytnmcefpnpfaklaa.V Go.Proofs.YtnmcefpnpfaklaaW.PrintWords Go.Proofs.YtnmcefpnpfaklaaW.PrintLast Go.Proofs.YtnmcefpnpfaklaaW.PrintMore

theorem LengthValid : valancelaw05_LengthValid.Pure := by
  intro k n b _ _ _
  unfold valancelaw05_LengthValid.f
  simp only [works05_eq, length_Valid_eq, length_Of_eq, Option.bind_some, if_true]
  have hb := vof_bd k n b 0
  by_cases hv : vvalid k n = true
  · rw [if_pos hv, if_pos hb.2, if_pos hb.1]
    unfold vvalid at hv
    by_cases h0 : k = 0
    · subst h0
      rw [if_neg (by omega), if_neg (by omega), if_pos rfl]
      unfold vof
      rw [if_neg (by omega), if_neg (by omega)]
      decide
    rw [if_neg h0] at hv
    by_cases h1 : k = 1
    · subst h1
      rw [if_pos rfl] at hv
      simp at hv
      have : vof 1 n b 0 = n := by unfold vof; rw [if_pos rfl, vcut_id hv.1 hv.2]
      rw [if_pos rfl, if_pos this, if_neg (by omega), if_neg (by omega)]
    rw [if_neg h1] at hv
    by_cases h2 : k = 2
    · subst h2
      have : 0 ≤ vof 2 n b 0 := by
        unfold vof
        rw [if_neg (by omega)]
        by_cases hh : 0 ≤ b
        · rw [if_pos ⟨rfl, hh⟩]
          unfold vpart
          have q := parts_bd n
          have c : 0 ≤ vcut b := by unfold vcut; (repeat' split) <;> omega
          have := Int.ediv_nonneg (Int.mul_nonneg c q.1) (show (0 : Int) ≤ 10000 by omega)
          generalize vcut b * mn (mx n 0) 1000000 / 10000 = z at *
          unfold vcut; (repeat' split) <;> omega
        · rw [if_neg (by omega)]; decide
      rw [if_neg (by omega), if_pos rfl, if_pos this, if_neg (by omega)]
    rw [if_neg h2] at hv; cases hv
  · rw [if_neg hv]
    by_cases h : k < 0
    · rw [if_pos h]
    by_cases h' : k > 2
    · rw [if_neg h, if_pos h']
    rw [if_neg h, if_neg h']
    have : n ≠ 0 := by
      rintro rfl
      apply hv
      obtain rfl | rfl | rfl : k = 0 ∨ k = 1 ∨ k = 2 := by omega
      · rfl
      · rfl
      · rfl
    simp [this]

end Go.Proofs.Ytnmcefpnpfaklaa.Pure
