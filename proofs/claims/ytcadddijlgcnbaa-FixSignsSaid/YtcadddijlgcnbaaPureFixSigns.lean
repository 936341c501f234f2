/- The law FixSigns of layer 1 holds of the printed functions, for all whole numbers of 64 bits, and lists of them. -/
import Derived.Test.YtcadddijlgcnbaaVx1
import Derived.Test.YtcadddijlgcnbaaVx3
import Derived.Test.YtcadddijlgcnbaaVx5
import Derived.Test.YtcadddijlgcnbaaVx8
import Derived.Test.YtcadddijlgcnbaaVx49
import Derived.Test.YtcadddijlgcnbaaVx59
import Derived.Test.YtcadddijlgcnbaaVx74
set_option linter.unusedVariables false
set_option linter.unusedSimpArgs false
namespace Go.Proofs.Ytcadddijlgcnbaa.Pure
open Go.RowKit Go.Proofs.Ytcadddijlgcnbaa.V Go.Proofs.YtcadddijlgcnbaaW.PrintWords Go.Proofs.YtcadddijlgcnbaaW.PrintLast Go.Proofs.YtcadddijlgcnbaaW.PrintMore

theorem FixSigns : valancelaw01_FixSigns.Pure := by
  intro a b ha hb
  have ha' := wf64 ha
  have hb' := wf64 hb
  refine ⟨6, ?_⟩
  unfold valancelaw01_FixSigns.f
  rw [works01_eq 6 (by omega)]
  simp only [Option.bind_some, if_true]
  split
  · simp only [valancelaw01_FixSigns.j0, if_true]
  · rename_i h1
    by_cases h2 : b < -1099511627776
    · simp only [valancelaw01_FixSigns.j0, h2, decide_true, if_true]
    · simp only [valancelaw01_FixSigns.j0, h2, decide_false, Bool.false_eq_true, if_false, if_true]
      rw [w64 (x := -a) (by omega) (by omega), w64 (x := -b) (by omega) (by omega)]
      simp only [fix_Mul_eq 5 (by omega), fix_Sub_eq, fix_Add_eq, fix_Cut_eq, Option.bind_some]
      have c1 := vcut_bd (vcut a * vcut b)
      have c2 := vcut_bd (vcut b - vcut a)
      have c3 := vcut_bd (vcut a + vcut b)
      have e1 : vmul (-a) b = wrap64 (-vmul a b) := by
        unfold vmul; rw [w64 (by omega) (by omega), vcut_neg, Int.neg_mul, vcut_neg]
      have e2 : vsub a b = wrap64 (-vsub b a) := by
        unfold vsub; rw [w64 (by omega) (by omega), ← vcut_neg]; congr 1; omega
      have e3 : vadd (-a) (-b) = wrap64 (-vadd a b) := by
        unfold vadd; rw [w64 (by omega) (by omega), ← vcut_neg, vcut_neg a, vcut_neg b]; congr 1; omega
      have e4 : vmul a 0 = 0 := by
        unfold vmul; rw [show vcut 0 = 0 by decide, Int.mul_zero]; decide
      have e5 : vmul a 1 = vcut a := by
        unfold vmul; rw [show vcut 1 = 1 by decide, Int.mul_one, vcut_cut]
      rw [if_pos e1, if_pos e2, if_pos e3, if_pos e4, e5]
      simp

end Go.Proofs.Ytcadddijlgcnbaa.Pure
