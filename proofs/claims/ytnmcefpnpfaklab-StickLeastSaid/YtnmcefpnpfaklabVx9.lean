/- What the functions of this seat answer, as plain Lean functions, and that the calls come to just that (written by a program of this repo, over the kit's printer; Lean checks it). -/
import Derived.Test.YtnmcefpnpfaklabVx0
import Derived.Test.YtnmcefpnpfaklabVx1
import Derived.Test.YtnmcefpnpfaklabVx8
namespace Go.Proofs.Ytnmcefpnpfaklab.V
open Go.RowKit Go.Proofs.YtnmcefpnpfaklabW.PrintWords Go.Proofs.YtnmcefpnpfaklabW.PrintLast Go.Proofs.YtnmcefpnpfaklabW.PrintMore
attribute [local go_sem] max2_int min2_int max_two min_two max_three min_three max_four min_four   -- for this text's walks alone
set_option linter.unusedVariables false
set_option linter.unusedSimpArgs false


theorem ref_Add_eq (a b : Int) : valanceref01_Add.f a b = some (vadd a b) := by
  unfold valanceref01_Add.f vadd
  have h1 := vcut_bd a
  have h2 := vcut_bd b
  simp only [ref_Cut_eq, Option.bind_some]
  rw [w64 (by omega) (by omega)]


end Go.Proofs.Ytnmcefpnpfaklab.V
