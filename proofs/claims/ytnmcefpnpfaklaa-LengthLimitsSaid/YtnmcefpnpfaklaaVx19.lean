/- What the functions of this seat answer, as plain Lean functions, and that the calls come to just that (written by a program of this repo, over the kit's printer; Lean checks it). -/
import Derived.Test.YtnmcefpnpfaklaaVx0
import Derived.Test.YtnmcefpnpfaklaaVx2
import Derived.Test.YtnmcefpnpfaklaaVx5
import Derived.Test.YtnmcefpnpfaklaaVx8
import Derived.Test.YtnmcefpnpfaklaaVx10
import Derived.Test.YtnmcefpnpfaklaaVx13
import Derived.Test.YtnmcefpnpfaklaaVx18
namespace Go.Proofs.Ytnmcefpnpfaklaa.V
open Go.RowKit Go.Proofs.YtnmcefpnpfaklaaW.PrintWords Go.Proofs.YtnmcefpnpfaklaaW.PrintLast Go.Proofs.YtnmcefpnpfaklaaW.PrintMore
attribute [local go_sem] max2_int min2_int max_two min_two max_three min_three max_four min_four   -- for this text's walks alone
set_option linter.unusedVariables false
set_option linter.unusedSimpArgs false


theorem ref_Limit_eq (q : Nat) (hq : 2 ≤ q) (n k1 n1 k2 n2 b : Int) : valanceref05_Limit.f q n k1 n1 k2 n2 b = some (vlimit n k1 n1 k2 n2 b) := by
  obtain ⟨q, rfl⟩ : ∃ m, q = m + 1 := ⟨q - 1, by omega⟩
  have c1 := vof_bd k1 n1 b (-1099511627776)
  have c2 := vof_bd k2 n2 b 1099511627776
  have c3 := vcut_bd n
  unfold valanceref05_Limit.f vlimit vclamp
  rw [vcut_id c1.1 c1.2, vcut_id c2.1 c2.2, ref_Cut_eq, ref_Fixed_eq]
  simp only [Option.bind_some]
  generalize vcut n = x at *
  by_cases h2 : vfixed k2 b = true
  · rw [if_pos h2, ref_LOf_eq (q + 1) (by omega)]
    simp only [Option.bind_some, valanceref05_Limit.j0, ref_Fixed_eq, vof_yes h2 n2 0 1099511627776]
    by_cases h1 : vfixed k1 b = true
    · rw [if_pos h1, ref_LOf_eq q (by omega)]
      simp only [Option.bind_some, vof_yes h1 n1 0 (-1099511627776)]
      congr 2; unfold mx mn; (repeat' split) <;> omega
    · rw [if_neg h1]
      rw [Bool.not_eq_true] at h1
      rw [vof_no h1, vcut_id (by omega) (by omega)]
      congr 2; unfold mx mn; (repeat' split) <;> omega
  · rw [if_neg h2]
    rw [Bool.not_eq_true] at h2
    simp only [Option.bind_some, valanceref05_Limit.j0, ref_Fixed_eq, vof_no h2 n2 1099511627776]
    rw [vcut_id (n := 1099511627776) (by omega) (by omega)]
    by_cases h1 : vfixed k1 b = true
    · rw [if_pos h1, ref_LOf_eq q (by omega)]
      simp only [Option.bind_some, vof_yes h1 n1 0 (-1099511627776)]
      congr 2; unfold mx mn; (repeat' split) <;> omega
    · rw [if_neg h1]
      rw [Bool.not_eq_true] at h1
      rw [vof_no h1, vcut_id (by omega) (by omega)]
      congr 2; unfold mx mn; (repeat' split) <;> omega

end Go.Proofs.Ytnmcefpnpfaklaa.V
