/- The law MarginTells of layer 6 holds of the printed functions, for all whole numbers of 64 bits, lengths and lists of them. -/
import Derived.Test.YtnmcefpnpfaklacVx18
import Derived.Test.YtnmcefpnpfaklacVx20
import Derived.Test.YtnmcefpnpfaklacVx23
import Derived.Test.YtnmcefpnpfaklacVx28
import Derived.Test.YtnmcefpnpfaklacVx29
import Derived.Test.YtnmcefpnpfaklacVx30
set_option linter.unusedVariables false
set_option linter.unusedSimpArgs false
namespace Go.Proofs.Ytnmcefpnpfaklac.Pure
open Go.RowKit Go.Proofs.Ytnmcefpnpfaklac.V Go.Proofs.YtnmcefpnpfaklacW.PrintWords Go.Proofs.YtnmcefpnpfaklacW.PrintLast Go.Proofs.YtnmcefpnpfaklacW.PrintMore

theorem MarginTells : valancelaw06_MarginTells.Pure := by
  intro l room size k1 n1 k2 n2 base _ _ _ _ _ _ _ _ _ _
  refine ⟨1100, ?_⟩
  unfold valancelaw06_MarginTells.f
  rw [works06_eq 1100 (by omega)]
  simp only [Option.bind_some, if_true]
  split
  · rfl
  · simp only [margin_Auto_eq, ref_Auto_eq 1100 (by omega), margin_Collapse_eq 1100 l (by omega) (by omega), ref_Collapse_eq 1100 l (by omega) (by omega), margin_Pair_eq 1100 (by omega), ref_Collapse_eq 1100 [room, size] (by simp) (by simp), Option.bind_some, if_true, beq_self_eq_true]

end Go.Proofs.Ytnmcefpnpfaklac.Pure
