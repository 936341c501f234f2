/- What the functions of this seat answer, as plain Lean functions, and that the calls come to just that (written by a program of this repo, over the kit's printer; Lean checks it). -/
import Derived.Test.YtnmcefpnpfaklabVx0
import Derived.Test.YtnmcefpnpfaklabVx2
import Derived.Test.YtnmcefpnpfaklabVx12
import Derived.Test.YtnmcefpnpfaklabVx17
import Derived.Test.YtnmcefpnpfaklabVx18
namespace Go.Proofs.Ytnmcefpnpfaklab.V
open Go.RowKit Go.Proofs.Ytnmcefpnpfaklab.Flt Go.Proofs.YtnmcefpnpfaklabW.PrintWords Go.Proofs.YtnmcefpnpfaklabW.PrintLast Go.Proofs.YtnmcefpnpfaklabW.PrintMore
attribute [local go_sem high] run_eql_vpt2 run_neq_vpt2 eqGuard_vpt2 vpt2_zero run_add_vpt2
attribute [local go_sem] max2_int min2_int max_two min_two max_three min_three max_four min_four   -- for this text's walks alone
set_option linter.unusedVariables false
set_option linter.unusedSimpArgs false


theorem ref_LOf_eq (q : Nat) (hq : 1 ≤ q) (k n b no : Int) : valanceref05_Of.f q k n b no = some (vof k n b no) := by
  obtain ⟨q, rfl⟩ : ∃ m, q = m + 1 := ⟨q - 1, by omega⟩
  unfold valanceref05_Of.f vof
  by_cases h1 : k = 1
  · simp [h1, ref_Cut_eq]
  · by_cases h2 : k = 2
    · by_cases h3 : 0 ≤ b
      · simp [h2, h3, ref_Part_eq, valanceref05_Of.j0]
      · simp [h2, h3, ref_Cut_eq, valanceref05_Of.j0]
    · simp [h1, h2, ref_Cut_eq, valanceref05_Of.j0]

end Go.Proofs.Ytnmcefpnpfaklab.V
