/- The law StickShifts holds of the printed functions. -/
import Derived.Test.YtnmcefpnpfaklabPlainStick
import Derived.Test.YtnmcefpnpfaklabVx0
import Derived.Test.YtnmcefpnpfaklabVx7
import Derived.Test.YtnmcefpnpfaklabVx11
import Derived.Test.YtnmcefpnpfaklabVx12
namespace Go.Proofs.Ytnmcefpnpfaklab.Pure
open Go.RowKit Go.Proofs.Ytnmcefpnpfaklab.V Go.Proofs.Ytnmcefpnpfaklab.Plain Go.Proofs.YtnmcefpnpfaklabW.PrintWords Go.Proofs.YtnmcefpnpfaklabW.PrintLast Go.Proofs.YtnmcefpnpfaklabW.PrintMore
theorem StickShifts : valancelaw10_StickShifts.Pure := by
  intro bl bh il ih pl ph bo bn eo en _ _ _ _ _ _ _ _
  refine ⟨3, ?_⟩
  unfold valancelaw10_StickShifts.f
  simp only [show valancelaw10_works.f = some true from rfl, Option.bind_some, if_true, valancelaw10_of.f, shift_eq 3 (by omega), ref_shift_eq 3 (by omega)]
  simp
end Go.Proofs.Ytnmcefpnpfaklab.Pure
