/- What the functions of this seat answer, as plain Lean functions, and that the calls come to just that (written by a program of this repo, over the kit's printer; Lean checks it). -/
import Derived.Test.YtnmcefpnpfaklaaVx0
import Derived.Test.YtnmcefpnpfaklaaVx2
import Derived.Test.YtnmcefpnpfaklaaVx13
import Derived.Test.YtnmcefpnpfaklaaVx15
namespace Go.Proofs.Ytnmcefpnpfaklaa.V
open Go.RowKit Go.Proofs.YtnmcefpnpfaklaaW.PrintWords Go.Proofs.YtnmcefpnpfaklaaW.PrintLast Go.Proofs.YtnmcefpnpfaklaaW.PrintMore
attribute [local go_sem] max2_int min2_int max_two min_two max_three min_three max_four min_four   -- for this text's walks alone
set_option linter.unusedVariables false
set_option linter.unusedSimpArgs false


theorem ref_Sides_eq (q : Nat) (hq : 1 ≤ q) (k0 n0 k1 n1 k2 n2 k3 n3 b : Int) : valanceref05_Sides.f q k0 n0 k1 n1 k2 n2 k3 n3 b = some (vof k0 n0 b 0, vof k1 n1 b 0, vof k2 n2 b 0, vof k3 n3 b 0) := by
  unfold valanceref05_Sides.f
  simp only [ref_LOf_eq q hq, Option.bind_some]

end Go.Proofs.Ytnmcefpnpfaklaa.V
