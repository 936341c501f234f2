/- The law LengthTells of layer 5 holds of the printed functions, for all lengths and whole numbers of 64 bits. -/
import Derived.Test.YtnmcefpnpfaklaaVx3
import Derived.Test.YtnmcefpnpfaklaaVx5
import Derived.Test.YtnmcefpnpfaklaaVx7
import Derived.Test.YtnmcefpnpfaklaaVx10
import Derived.Test.YtnmcefpnpfaklaaVx13
import Derived.Test.YtnmcefpnpfaklaaVx14
import Derived.Test.YtnmcefpnpfaklaaVx16
import Derived.Test.YtnmcefpnpfaklaaVx17
set_option linter.unusedVariables false
set_option linter.unusedSimpArgs false
namespace Go.Proofs.Ytnmcefpnpfaklaa.Pure
open Go.RowKit Go.Proofs.Ytnmcefpnpfaklaa.V Go.Proofs.YtnmcefpnpfaklaaW.PrintWords Go.Proofs.YtnmcefpnpfaklaaW.PrintLast Go.Proofs.YtnmcefpnpfaklaaW.PrintMore

theorem LengthTells : valancelaw05_LengthTells.Pure := by
  intro k n b no k0 n0 k1 n1 k2 n2 k3 n3 _ _ _ _ _ _ _ _ _ _ _ _
  refine ⟨9, ?_⟩
  unfold valancelaw05_LengthTells.f
  simp only [works05_eq, length_Of_eq, ref_LOf_eq 9 (by omega), length_Fixed_eq, ref_Fixed_eq, length_Valid_eq, ref_Valid_eq, length_Sides_eq, ref_Sides_eq 9 (by omega), Option.bind_some, if_true, beq_self_eq_true, Bool.and_self]

end Go.Proofs.Ytnmcefpnpfaklaa.Pure
