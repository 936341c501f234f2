/- What the functions of this seat answer, as plain Lean functions, and that the calls come to just that (written by a program of this repo, over the kit's printer; Lean checks it). -/
import Derived.Test.YtnmcefpnpfaklacVx0
import Derived.Test.YtnmcefpnpfaklacVx1
import Derived.Test.YtnmcefpnpfaklacVx12
import Derived.Test.YtnmcefpnpfaklacVx18
namespace Go.Proofs.Ytnmcefpnpfaklac.V
open Go.RowKit Go.Proofs.YtnmcefpnpfaklacW.PrintWords Go.Proofs.YtnmcefpnpfaklacW.PrintLast Go.Proofs.YtnmcefpnpfaklacW.PrintMore
attribute [local go_sem] max2_int min2_int max_two min_two max_three min_three max_four min_four   -- for this text's walks alone
set_option linter.unusedVariables false
set_option linter.unusedSimpArgs false


theorem ref_Clamp_eq (k : Nat) (hk : 1 ≤ k) (n lo hi : Int) : valanceref01_Clamp.f k n lo hi = some (vclamp n lo hi) := by
  obtain ⟨k, rfl⟩ : ∃ m, k = m + 1 := ⟨k - 1, by omega⟩
  unfold valanceref01_Clamp.f vclamp mx mn
  simp only [ref_Cut_eq, Option.bind_some, valanceref01_Clamp.j0]
  generalize vcut n = a
  generalize vcut lo = b
  generalize vcut hi = c
  by_cases h1 : a > c <;> by_cases h2 : a < b <;> by_cases h3 : c < b <;> simp only [h1, h2, h3, if_true, if_false, Option.some.injEq] <;> (repeat' split) <;> omega


end Go.Proofs.Ytnmcefpnpfaklac.V
