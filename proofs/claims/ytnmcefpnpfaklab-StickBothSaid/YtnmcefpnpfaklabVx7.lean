/- What the functions of this seat answer, as plain Lean functions, and that the calls come to just that (written by a program of this repo, over the kit's printer; Lean checks it). -/
import Derived.Test.YtnmcefpnpfaklabVx0
import Derived.Test.YtnmcefpnpfaklabVx2
import Derived.Test.YtnmcefpnpfaklabVx3
import Derived.Test.YtnmcefpnpfaklabVx5
import Derived.Test.YtnmcefpnpfaklabVx6
namespace Go.Proofs.Ytnmcefpnpfaklab.V
open Go.RowKit Go.Proofs.Ytnmcefpnpfaklab.Flt Go.Proofs.YtnmcefpnpfaklabW.PrintWords Go.Proofs.YtnmcefpnpfaklabW.PrintLast Go.Proofs.YtnmcefpnpfaklabW.PrintMore
attribute [local go_sem high] run_eql_vpt2 run_neq_vpt2 eqGuard_vpt2 vpt2_zero run_add_vpt2
attribute [local go_sem] max2_int min2_int max_two min_two max_three min_three max_four min_four   -- for this text's walks alone
set_option linter.unusedVariables false
set_option linter.unusedSimpArgs false


theorem length_Of_eq (k n b no : Int) : length_Of.f k n b no = some (vof k n b no) := by
  unfold length_Of.f vof
  rw [length_Fixed_eq]
  unfold vfixed
  by_cases h1 : k = 1
  · simp [h1, fix_Cut_eq]
  · by_cases h2 : k = 2
    · by_cases h3 : 0 ≤ b
      · simp [h2, h3, fix_Part_eq]
      · simp [h2, h3, fix_Cut_eq]
    · simp [h1, h2, fix_Cut_eq]
theorem vof_bd (k n b no : Int) : -1099511627776 ≤ vof k n b no ∧ vof k n b no ≤ 1099511627776 := by
  unfold vof; (repeat' split) <;> first | exact vcut_bd _ | (unfold vpart; exact vcut_bd _)
theorem vof_no {k b : Int} (h : vfixed k b = false) (n no : Int) : vof k n b no = vcut no := by
  unfold vfixed at h; simp at h; unfold vof; rw [if_neg h.1, if_neg (by omega)]
theorem vof_yes {k b : Int} (h : vfixed k b = true) (n no no2 : Int) : vof k n b no = vof k n b no2 := by
  unfold vfixed at h; simp at h; unfold vof
  by_cases h1 : k = 1
  · rw [if_pos h1, if_pos h1]
  · rw [if_neg h1, if_neg h1, if_pos (by omega), if_pos (by omega)]

end Go.Proofs.Ytnmcefpnpfaklab.V
