-- Written by wip/tool/vprint.py (this repo's), over the kit's printer. Not trusted: Lean checks it.
import Derived.Test.YtcadddijlgcnbaaVx0
import Derived.Test.YtcadddijlgcnbaaVx1
import Derived.Test.YtcadddijlgcnbaaVx3
import Derived.Test.YtcadddijlgcnbaaVx51
import Derived.Test.YtcadddijlgcnbaaVx54
namespace Go.Proofs.Ytcadddijlgcnbaa.V
open Go.RowKit Go.Proofs.YtcadddijlgcnbaaW.PrintWords Go.Proofs.YtcadddijlgcnbaaW.PrintLast Go.Proofs.YtcadddijlgcnbaaW.PrintMore
attribute [local go_sem] max2_int min2_int max_two min_two max_three min_three max_four min_four   -- for this text's walks alone
set_option linter.unusedVariables false
set_option linter.unusedSimpArgs false


theorem fix_Part_eq (a n : Int) : fix_Part.f a n = some (vpart a n) := by
  unfold fix_Part.f vpart
  have h1 := vcut_bd a
  have h2 := parts_bd n
  have h3 := vmul_bd (x := vcut a) (p := mn (mx n 0) 1000000) (A := 1099511627776) (B := 1000000) h1.1 h1.2 h2.1 h2.2 (by omega)
  simp only [fix_Cut_eq, Option.bind_some]
  rw [w64 (by omega) (by omega), fix_down_eq _ _ (by omega) (by omega) (by omega) (by omega)]
  simp only [Option.bind_some]


end Go.Proofs.Ytcadddijlgcnbaa.V
