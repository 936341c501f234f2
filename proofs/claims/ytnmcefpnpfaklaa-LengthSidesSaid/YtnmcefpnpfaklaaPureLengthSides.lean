/- The law LengthSides holds: its walk (behind this text) shows it outright. -/
import Derived.Test.YtnmcefpnpfaklaaVx0
import Derived.Test.YtnmcefpnpfaklaaVx23
namespace Go.Proofs.Ytnmcefpnpfaklaa.Pure
open Go.RowKit Go.Proofs.Ytnmcefpnpfaklaa.V
theorem LengthSides : valancelaw05_LengthSides.Pure := trivial
end Go.Proofs.Ytnmcefpnpfaklaa.Pure
