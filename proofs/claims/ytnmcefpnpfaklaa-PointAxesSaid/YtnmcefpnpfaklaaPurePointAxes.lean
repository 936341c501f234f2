/- The law PointAxes holds of the printed functions. -/
import Derived.Test.YtnmcefpnpfaklaaVx0
import Derived.Test.YtnmcefpnpfaklaaVx2
import Derived.Test.YtnmcefpnpfaklaaVx26
import Derived.Test.YtnmcefpnpfaklaaVx27
import Derived.Test.YtnmcefpnpfaklaaVx28
import Derived.Test.YtnmcefpnpfaklaaVx30
namespace Go.Proofs.Ytnmcefpnpfaklaa.Pure
open Go.RowKit Go.Proofs.Ytnmcefpnpfaklaa.V Go.Proofs.Ytnmcefpnpfaklaa.Flt Go.Proofs.YtnmcefpnpfaklaaW.PrintWords Go.Proofs.YtnmcefpnpfaklaaW.PrintLast Go.Proofs.YtnmcefpnpfaklaaW.PrintMore
theorem fcvPointAxes (n : Int) : fcut n = vcut n := rfl
theorem PointAxes : valancelaw02_PointAxes.Pure := by
  intro a b _ _
  unfold valancelaw02_PointAxes.f
  have ha := vcut_bd a
  have hb := vcut_bd b
  have w1 : wrap64 (-vcut a) = -vcut a := w64 (by omega) (by omega)
  have w2 : wrap64 (-vcut b) = -vcut b := w64 (by omega) (by omega)
  simp only [show valancelaw02_works.f = some true from rfl, point_Of.f, point_Turn.f, point_Flip.f, point_X.f, point_Y.f, Option.bind_some, vcut_cut, vcut_neg, w1, w2, if_true, veq2, fcvPointAxes, beq_self_eq_true, Bool.and_self]
end Go.Proofs.Ytnmcefpnpfaklaa.Pure
