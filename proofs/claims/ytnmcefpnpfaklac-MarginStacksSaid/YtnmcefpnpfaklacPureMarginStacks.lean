/- The law MarginStacks of layer 6 holds of the printed functions, for all whole numbers of 64 bits, lengths and lists of them. -/
import Derived.Test.YtnmcefpnpfaklacVx1
import Derived.Test.YtnmcefpnpfaklacVx17
import Derived.Test.YtnmcefpnpfaklacVx22
import Derived.Test.YtnmcefpnpfaklacVx23
import Derived.Test.YtnmcefpnpfaklacVx32
import Derived.Test.YtnmcefpnpfaklacVx33
set_option linter.unusedVariables false
set_option linter.unusedSimpArgs false
namespace Go.Proofs.Ytnmcefpnpfaklac.Pure
open Go.RowKit Go.Proofs.Ytnmcefpnpfaklac.V Go.Proofs.YtnmcefpnpfaklacW.PrintWords Go.Proofs.YtnmcefpnpfaklacW.PrintLast Go.Proofs.YtnmcefpnpfaklacW.PrintMore

theorem vstk_len (s t b : List Int) (d : Nat) : ∀ i out at_, (vstk s t b d i out at_).1.length = out.length + d := by
  induction d with
  | zero => intro i out at_; simp [vstk]
  | succ d ih => intro i out at_; simp only [vstk, ih]; simp; omega
theorem vstack_len (s t b : List Int) : (vstack s t b).1.length ≤ s.length := by
  unfold vstack; split
  · rw [vstk_len]; simp
  · simp
theorem MarginStacks : valancelaw06_MarginStacks.Pure := by
  intro s t b _ _ _ _ _ _ _ _ _
  refine ⟨1100, ?_⟩
  unfold valancelaw06_MarginStacks.f
  rw [works06_eq 1100 (by omega)]
  simp only [Option.bind_some, if_true]
  by_cases h1 : (s.length : Int) > 1000
  · simp only [h1, if_true, valancelaw06_MarginStacks.j0]
  by_cases h2 : (t.length : Int) > 1000
  · simp only [h1, h2, if_true, if_false, valancelaw06_MarginStacks.j0]
  by_cases h3 : (b.length : Int) > 1000
  · simp only [h1, h2, h3, if_true, if_false, decide_true, valancelaw06_MarginStacks.j0]
  have hl := vstack_len s t b
  simp only [h1, h2, h3, if_false, decide_false, Bool.false_eq_true, if_true, valancelaw06_MarginStacks.j0, margin_Stack_eq 1099 s t b (by omega) (by omega), ref_Stack_eq 1099 s t b (by omega) (by omega), Option.bind_some, ref_Row_eq 1099 (vstack s t b).1 (by omega) (by omega), beq_self_eq_true]

end Go.Proofs.Ytnmcefpnpfaklac.Pure
