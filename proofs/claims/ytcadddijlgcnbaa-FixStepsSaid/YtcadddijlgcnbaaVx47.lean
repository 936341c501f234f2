-- Written by wip/tool/vprint.py (this repo's), over the kit's printer. Not trusted: Lean checks it.
import Derived.Test.YtcadddijlgcnbaaVx0
import Derived.Test.YtcadddijlgcnbaaVx1
import Derived.Test.YtcadddijlgcnbaaVx46
namespace Go.Proofs.Ytcadddijlgcnbaa.V
open Go.RowKit Go.Proofs.YtcadddijlgcnbaaW.PrintWords Go.Proofs.YtcadddijlgcnbaaW.PrintLast Go.Proofs.YtcadddijlgcnbaaW.PrintMore
attribute [local go_sem] max2_int min2_int max_two min_two max_three min_three max_four min_four   -- for this text's walks alone
set_option linter.unusedVariables false
set_option linter.unusedSimpArgs false


theorem fix_size_eq (a : Int) (h1 : -1099511627776 ≤ a) (h2 : a ≤ 1099511627776) : fix_size.f a = some (if a < 0 then -a else a) := by
  unfold fix_size.f
  split
  · rw [w64 (by omega) (by omega), u64_ (by omega) (by omega)]
  · rw [u64_ (by omega) (by omega)]


end Go.Proofs.Ytcadddijlgcnbaa.V
