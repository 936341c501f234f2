/- The law FixOrder of layer 1 holds of the printed functions, for all whole numbers of 64 bits, and lists of them. -/
import Derived.Test.YtcadddijlgcnbaaVx72
set_option linter.unusedVariables false
set_option linter.unusedSimpArgs false
namespace Go.Proofs.Ytcadddijlgcnbaa.Pure
open Go.RowKit Go.Proofs.Ytcadddijlgcnbaa.V Go.Proofs.YtcadddijlgcnbaaW.PrintWords Go.Proofs.YtcadddijlgcnbaaW.PrintLast Go.Proofs.YtcadddijlgcnbaaW.PrintMore

theorem FixOrder : valancelaw01_FixOrder.Pure := True.intro

end Go.Proofs.Ytcadddijlgcnbaa.Pure
