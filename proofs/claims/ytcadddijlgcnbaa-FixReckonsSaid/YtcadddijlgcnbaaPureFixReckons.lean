/- The law FixReckons of layer 1 holds of the printed functions, for all whole numbers of 64 bits, and lists of them. -/
import Derived.Test.YtcadddijlgcnbaaVx2
import Derived.Test.YtcadddijlgcnbaaVx3
import Derived.Test.YtcadddijlgcnbaaVx9
import Derived.Test.YtcadddijlgcnbaaVx11
import Derived.Test.YtcadddijlgcnbaaVx12
import Derived.Test.YtcadddijlgcnbaaVx20
import Derived.Test.YtcadddijlgcnbaaVx28
import Derived.Test.YtcadddijlgcnbaaVx29
import Derived.Test.YtcadddijlgcnbaaVx31
import Derived.Test.YtcadddijlgcnbaaVx32
import Derived.Test.YtcadddijlgcnbaaVx33
import Derived.Test.YtcadddijlgcnbaaVx34
import Derived.Test.YtcadddijlgcnbaaVx35
set_option linter.unusedVariables false
set_option linter.unusedSimpArgs false
namespace Go.Proofs.Ytcadddijlgcnbaa.Pure
open Go.RowKit Go.Proofs.Ytcadddijlgcnbaa.V Go.Proofs.YtcadddijlgcnbaaW.PrintWords Go.Proofs.YtcadddijlgcnbaaW.PrintLast Go.Proofs.YtcadddijlgcnbaaW.PrintMore

theorem FixReckons : valancelaw01_FixReckons.Pure := by
  intro a b c ha hb hc
  refine ⟨80, ?_⟩
  unfold valancelaw01_FixReckons.f
  rw [works01_eq 80 (by omega)]
  simp only [fix_Div_eq, fix_Part_eq, fix_Clamp_eq, fix_Add_eq, fix_Sub_eq, fix_Cut_eq, fix_Mul_eq 80 (by omega), ref_Cut_eq, ref_Add_eq, ref_Sub_eq, valanceref01_Mul.f, Option.bind_some, if_true, beq_self_eq_true]
  simp only [valancelaw01_FixReckons.j0, if_true, fix_Div_eq, ref_Div_eq, fix_Part_eq, ref_Part_eq, fix_Clamp_eq, ref_Clamp_eq 79 (by omega), Option.bind_some, beq_self_eq_true]

end Go.Proofs.Ytcadddijlgcnbaa.Pure
