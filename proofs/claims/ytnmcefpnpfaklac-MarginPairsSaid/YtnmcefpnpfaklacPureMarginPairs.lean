/- The law MarginPairs of layer 6 holds of the printed functions, for all whole numbers of 64 bits, lengths and lists of them. -/
import Derived.Test.YtnmcefpnpfaklacVx1
import Derived.Test.YtnmcefpnpfaklacVx20
import Derived.Test.YtnmcefpnpfaklacVx23
import Derived.Test.YtnmcefpnpfaklacVx35
set_option linter.unusedVariables false
set_option linter.unusedSimpArgs false
namespace Go.Proofs.Ytnmcefpnpfaklac.Pure
open Go.RowKit Go.Proofs.Ytnmcefpnpfaklac.V Go.Proofs.YtnmcefpnpfaklacW.PrintWords Go.Proofs.YtnmcefpnpfaklacW.PrintLast Go.Proofs.YtnmcefpnpfaklacW.PrintMore

theorem coll_pair (a b : Int) : vcoll [a, b] = mx (mx 0 (vcut a)) (vcut b) + mn (mn 0 (vcut a)) (vcut b) := rfl
theorem coll_comm (a b : Int) : vcoll [b, a] = vcoll [a, b] := by
  rw [coll_pair, coll_pair]; unfold mx mn; (repeat' split) <;> omega
theorem MarginPairs : valancelaw06_MarginPairs.Pure := by
  intro a b _ _
  refine ⟨50, ?_⟩
  unfold valancelaw06_MarginPairs.f
  rw [works06_eq 50 (by omega)]
  simp only [Option.bind_some, if_true, margin_Pair_eq 50 (by omega), margin_Collapse_eq 50 [a, b] (by simp) (by simp), coll_comm a b]
  have far : valancelaw06_MarginPairs.j0 50 a b true (vcoll [a, b]) true = some true := by
    simp only [valancelaw06_MarginPairs.j0, if_true, margin_Pair_eq 49 (by omega), coll_comm a b, margin_Collapse_eq 49 [a, b] (by simp) (by simp), Option.bind_some, beq_self_eq_true]
  by_cases c1 : a < -1073741824
  · simp only [c1, if_true]; exact far
  by_cases c2 : a > 1073741824
  · simp only [c1, c2, if_true, if_false]; exact far
  by_cases c3 : b < -1073741824
  · simp only [c1, c2, c3, if_true, if_false]; exact far
  by_cases c4 : b > 1073741824
  · simp only [c1, c2, c3, c4, if_true, if_false, decide_true]; exact far
  simp only [c1, c2, c3, c4, if_false, decide_false, valancelaw06_MarginPairs.j0, Bool.false_eq_true]
  rw [w64 (x := a + b) (by omega) (by omega)]
  rw [coll_pair, vcut_id (n := a) (by omega) (by omega), vcut_id (n := b) (by omega) (by omega)]
  by_cases p : a ≥ 0 <;> by_cases q : b ≥ 0 <;> by_cases r : a ≤ 0 <;> by_cases s : b ≤ 0 <;> simp only [p, q, r, s, if_true, if_false, decide_true, decide_false, valancelaw06_MarginPairs.j1, Bool.false_eq_true, Option.some.injEq, beq_iff_eq]
  all_goals (unfold mx mn; (repeat' split) <;> omega)

end Go.Proofs.Ytnmcefpnpfaklac.Pure
