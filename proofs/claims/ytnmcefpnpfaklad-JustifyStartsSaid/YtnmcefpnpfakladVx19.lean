/- What the functions of this seat answer, as plain Lean functions, and that the calls come to just that (written by a program of this repo, over the kit's printer; Lean checks it). -/
import Derived.Test.YtnmcefpnpfakladVx0
import Derived.Test.YtnmcefpnpfakladVx2
import Derived.Test.YtnmcefpnpfakladVx16
import Derived.Test.YtnmcefpnpfakladVx18
namespace Go.Proofs.Ytnmcefpnpfaklad.V
open Go.RowKit Go.Proofs.YtnmcefpnpfakladW.PrintWords Go.Proofs.YtnmcefpnpfakladW.PrintLast Go.Proofs.YtnmcefpnpfakladW.PrintMore
attribute [local go_sem] max2_int min2_int max_two min_two max_three min_three max_four min_four   -- for this text's walks alone
set_option linter.unusedVariables false
set_option linter.unusedSimpArgs false


theorem ref_Div_eq (a b : Int) : valanceref01_Div.f a b = some (vdivd a b) := by
  unfold valanceref01_Div.f vdivd
  have h1 := vcut_bd a
  have h2 := vcut_bd b
  by_cases h : b ≤ 0
  · rw [if_pos h, if_pos h]
  · have : 0 < vcut b := by unfold vcut; (repeat' split) <;> omega
    rw [if_neg h, if_neg h]
    simp only [ref_Cut_eq, Option.bind_some]
    rw [ref_Down_eq _ _ (by omega) (by omega) this (by omega)]
    simp only [Option.bind_some]


end Go.Proofs.Ytnmcefpnpfaklad.V
