/- What the functions of this seat answer, as plain Lean functions, and that the calls come to just that (written by a program of this repo, over the kit's printer; Lean checks it). -/
import Derived.Test.YtcadddijlgcnbaaVx0
import Derived.Test.YtcadddijlgcnbaaVx2
import Derived.Test.YtcadddijlgcnbaaVx12
import Derived.Test.YtcadddijlgcnbaaVx17
namespace Go.Proofs.Ytcadddijlgcnbaa.V
open Go.RowKit Go.Proofs.YtcadddijlgcnbaaW.PrintWords Go.Proofs.YtcadddijlgcnbaaW.PrintLast Go.Proofs.YtcadddijlgcnbaaW.PrintMore
attribute [local go_sem] max2_int min2_int max_two min_two max_three min_three max_four min_four   -- for this text's walks alone
set_option linter.unusedVariables false
set_option linter.unusedSimpArgs false


theorem ref_Fit_eq (k : Nat) (hk : 2 ≤ k) (a b c d : Int) : valanceref03_Fit.f k a b c d = some (vfit a b c d) := by
  obtain ⟨k, rfl⟩ : ∃ m, k = m + 2 := ⟨k - 2, by omega⟩
  unfold valanceref03_Fit.f vfit
  simp only [valanceref03_Fit.j0, valanceref03_Fit.j1, ref_Size_eq, ref_Sub_eq, Option.bind_some, decide_eq_true_eq, Bool.false_eq_true, if_false, if_true]
  by_cases h1 : a < c
  · rw [if_neg (by omega), if_pos h1, if_pos h1]
  · rw [if_pos (by omega), if_neg h1, if_neg h1]
    by_cases h2 : b ≤ d
    · rw [if_pos h2, if_pos h2]
    · rw [if_neg h2, if_neg h2]
      by_cases h3 : vsize a b > vsize c d
      · rw [if_pos h3, if_pos h3]
      · rw [if_neg h3, if_neg h3]

end Go.Proofs.Ytcadddijlgcnbaa.V
