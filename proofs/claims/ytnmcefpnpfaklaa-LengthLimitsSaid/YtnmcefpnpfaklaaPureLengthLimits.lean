/- The law LengthLimits of layer 5 holds of the printed functions, for all lengths and whole numbers of 64 bits. -/
import Derived.Test.YtnmcefpnpfaklaaVx8
import Derived.Test.YtnmcefpnpfaklaaVx10
import Derived.Test.YtnmcefpnpfaklaaVx19
import Derived.Test.YtnmcefpnpfaklaaVx20
set_option linter.unusedVariables false
set_option linter.unusedSimpArgs false
namespace Go.Proofs.Ytnmcefpnpfaklaa.Pure
open Go.RowKit Go.Proofs.Ytnmcefpnpfaklaa.V Go.Proofs.YtnmcefpnpfaklaaW.PrintWords Go.Proofs.YtnmcefpnpfaklaaW.PrintLast Go.Proofs.YtnmcefpnpfaklaaW.PrintMore

theorem LengthLimits : valancelaw05_LengthLimits.Pure := by
  intro n k1 n1 k2 n2 b _ _ _ _ _ _
  refine ⟨9, ?_⟩
  unfold valancelaw05_LengthLimits.f
  simp only [works05_eq, length_Limit_eq, ref_Limit_eq 9 (by omega), Option.bind_some, if_true, beq_self_eq_true]

end Go.Proofs.Ytnmcefpnpfaklaa.Pure
