/- What the functions of this seat answer, as plain Lean functions, and that the calls come to just that (written by a program of this repo, over the kit's printer; Lean checks it). -/
import Derived.Test.YtcadddijlgcnbaaVx0
import Derived.Test.YtcadddijlgcnbaaVx2
import Derived.Test.YtcadddijlgcnbaaVx11
import Derived.Test.YtcadddijlgcnbaaVx15
namespace Go.Proofs.Ytcadddijlgcnbaa.V
open Go.RowKit Go.Proofs.YtcadddijlgcnbaaW.PrintWords Go.Proofs.YtcadddijlgcnbaaW.PrintLast Go.Proofs.YtcadddijlgcnbaaW.PrintMore
attribute [local go_sem] max2_int min2_int max_two min_two max_three min_three max_four min_four   -- for this text's walks alone
set_option linter.unusedVariables false
set_option linter.unusedSimpArgs false


theorem ref_Move_eq (a b n : Int) : valanceref03_Move.f a b n = some (vadd a n, vadd b n) := by
  unfold valanceref03_Move.f; simp only [ref_Add_eq, Option.bind_some]

end Go.Proofs.Ytcadddijlgcnbaa.V
