-- Written by wip/tool/vprint.py (this repo's), over the kit's printer. Not trusted: Lean checks it.
import Derived.Test.YtcadddijlgcnbaaVx0
import Derived.Test.YtcadddijlgcnbaaVx3
import Derived.Test.YtcadddijlgcnbaaVx5
import Derived.Test.YtcadddijlgcnbaaVx8
import Derived.Test.YtcadddijlgcnbaaVx19
import Derived.Test.YtcadddijlgcnbaaVx49
import Derived.Test.YtcadddijlgcnbaaVx53
import Derived.Test.YtcadddijlgcnbaaVx55
import Derived.Test.YtcadddijlgcnbaaVx57
import Derived.Test.YtcadddijlgcnbaaVx58
namespace Go.Proofs.Ytcadddijlgcnbaa.V
open Go.RowKit Go.Proofs.YtcadddijlgcnbaaW.PrintWords Go.Proofs.YtcadddijlgcnbaaW.PrintLast Go.Proofs.YtcadddijlgcnbaaW.PrintMore
attribute [local go_sem] max2_int min2_int max_two min_two max_three min_three max_four min_four   -- for this text's walks alone
set_option linter.unusedVariables false
set_option linter.unusedSimpArgs false


theorem works01_eq (k : Nat) (hk : 4 ≤ k) : valancelaw01_works.f k = some true := by
  unfold valancelaw01_works.f
  simp only [fix_Cut_eq, fix_Add_eq, fix_Sub_eq, fix_Div_eq, fix_Part_eq, fix_Clamp_eq, fix_Mul_eq k (by omega), fix_Sum_eq k [1, 2, 3] (by simp) (by simp; omega), Option.bind_some]
  decide


end Go.Proofs.Ytcadddijlgcnbaa.V
