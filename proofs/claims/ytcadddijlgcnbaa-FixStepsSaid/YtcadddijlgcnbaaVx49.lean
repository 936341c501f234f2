-- Written by wip/tool/vprint.py (this repo's), over the kit's printer. Not trusted: Lean checks it.
import Derived.Test.YtcadddijlgcnbaaVx0
import Derived.Test.YtcadddijlgcnbaaVx1
import Derived.Test.YtcadddijlgcnbaaVx3
import Derived.Test.YtcadddijlgcnbaaVx45
import Derived.Test.YtcadddijlgcnbaaVx47
import Derived.Test.YtcadddijlgcnbaaVx48
namespace Go.Proofs.Ytcadddijlgcnbaa.V
open Go.RowKit Go.Proofs.YtcadddijlgcnbaaW.PrintWords Go.Proofs.YtcadddijlgcnbaaW.PrintLast Go.Proofs.YtcadddijlgcnbaaW.PrintMore
attribute [local go_sem] max2_int min2_int max_two min_two max_three min_three max_four min_four   -- for this text's walks alone
set_option linter.unusedVariables false
set_option linter.unusedSimpArgs false


theorem fix_Mul_eq (k : Nat) (hk : 1 ≤ k) (a b : Int) : fix_Mul.f k a b = some (vmul a b) := by
  unfold fix_Mul.f vmul
  have h1 := vcut_bd a
  have h2 := vcut_bd b
  have h := vmul_signs (vcut a) (vcut b) h1 h2
  simp only [fix_Cut_eq, Option.bind_some]
  rw [fix_size_eq _ h1.1 h1.2, fix_size_eq _ h2.1 h2.2]
  simp only [Option.bind_some]
  rw [fix_times_eq k hk _ _ (by split <;> omega) (by split <;> omega) (by split <;> omega) (by split <;> omega)]
  simp only [Option.bind_some]
  have hn : 0 ≤ (if vcut a < 0 then -vcut a else vcut a) * (if vcut b < 0 then -vcut b else vcut b) := Int.mul_nonneg (by split <;> omega) (by split <;> omega)
  rw [← h]
  generalize (if vcut a < 0 then -vcut a else vcut a) * (if vcut b < 0 then -vcut b else vcut b) = n at hn
  have hN : 0 ≤ (if n > 1099511627776 then 1099511627776 else n) ∧ (if n > 1099511627776 then 1099511627776 else n) ≤ 1099511627776 := by split <;> omega
  generalize (if n > 1099511627776 then 1099511627776 else n) = N at hN
  rw [w64 (x := -N) (by omega) (by omega)]
  generalize ((decide (vcut a < 0)) != (decide (vcut b < 0))) = t
  cases t <;> rfl


end Go.Proofs.Ytcadddijlgcnbaa.V
