-- Written by wip/tool/vprint.py (this repo's), over the kit's printer. Not trusted: Lean checks it.
import Derived.Test.YtcadddijlgcnbaaVx0
import Derived.Test.YtcadddijlgcnbaaVx1
import Derived.Test.YtcadddijlgcnbaaVx3
import Derived.Test.YtcadddijlgcnbaaVx51
import Derived.Test.YtcadddijlgcnbaaVx52
namespace Go.Proofs.Ytcadddijlgcnbaa.V
open Go.RowKit Go.Proofs.YtcadddijlgcnbaaW.PrintWords Go.Proofs.YtcadddijlgcnbaaW.PrintLast Go.Proofs.YtcadddijlgcnbaaW.PrintMore
attribute [local go_sem] max2_int min2_int max_two min_two max_three min_three max_four min_four   -- for this text's walks alone
set_option linter.unusedVariables false
set_option linter.unusedSimpArgs false


theorem fix_Div_eq (a b : Int) : fix_Div.f a b = some (vdivd a b) := by
  unfold fix_Div.f vdivd
  have h1 := vcut_bd a
  have h2 := vcut_bd b
  by_cases h : b ≤ 0
  · rw [if_pos h, if_pos h]
  · have : 0 < vcut b := by unfold vcut; (repeat' split) <;> omega
    rw [if_neg h, if_neg h]
    simp only [fix_Cut_eq, Option.bind_some]
    rw [fix_down_eq _ _ (by omega) (by omega) this (by omega)]
    simp only [Option.bind_some]


end Go.Proofs.Ytcadddijlgcnbaa.V
