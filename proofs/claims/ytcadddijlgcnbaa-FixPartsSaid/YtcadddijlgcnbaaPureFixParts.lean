/- The law FixParts of layer 1 holds of the printed functions, for all whole numbers of 64 bits, and lists of them. -/
import Derived.Test.YtcadddijlgcnbaaVx1
import Derived.Test.YtcadddijlgcnbaaVx53
import Derived.Test.YtcadddijlgcnbaaVx55
import Derived.Test.YtcadddijlgcnbaaVx59
import Derived.Test.YtcadddijlgcnbaaVx73
set_option linter.unusedVariables false
set_option linter.unusedSimpArgs false
namespace Go.Proofs.Ytcadddijlgcnbaa.Pure
open Go.RowKit Go.Proofs.Ytcadddijlgcnbaa.V Go.Proofs.YtcadddijlgcnbaaW.PrintWords Go.Proofs.YtcadddijlgcnbaaW.PrintLast Go.Proofs.YtcadddijlgcnbaaW.PrintMore

theorem FixParts : valancelaw01_FixParts.Pure := by
  intro a b ha hb
  have ha' := wf64 ha
  have hb' := wf64 hb
  refine ⟨6, ?_⟩
  unfold valancelaw01_FixParts.f
  rw [works01_eq 6 (by omega)]
  simp only [Option.bind_some, if_true]
  by_cases h1 : a < 0
  · rw [if_pos h1]; simp only [valancelaw01_FixParts.j0, if_true]
  rw [if_neg h1]
  by_cases h2 : a > 549755813888
  · rw [if_pos h2]; simp only [valancelaw01_FixParts.j0, if_true]
  rw [if_neg h2]
  by_cases h3 : b < 1
  · rw [if_pos h3]; simp only [valancelaw01_FixParts.j0, if_true]
  rw [if_neg h3]
  by_cases h4 : b > 1073741824
  · simp only [valancelaw01_FixParts.j0, h4, decide_true, if_true]
  simp only [valancelaw01_FixParts.j0, h4, decide_false, Bool.false_eq_true, if_false, if_true, fix_Div_eq, fix_Part_eq, Option.bind_some]
  have ca : vcut a = a := vcut_id (by omega) (by omega)
  have cb : vcut b = b := vcut_id (by omega) (by omega)
  have e1 : vdivd a b = a / b := by unfold vdivd; rw [if_neg (by omega), ca, cb]
  have e2 : vdivd a 1 = a := by unfold vdivd; rw [if_neg (by omega), ca, show vcut 1 = 1 by decide, Int.ediv_one]
  have p1 : vpart a 5000 = a * 5000 / 10000 := by
    unfold vpart; rw [ca, show mn (mx 5000 0) 1000000 = 5000 by decide]; exact vcut_id (by omega) (by omega)
  have p2 : vpart a 10000 = a := by
    unfold vpart; rw [ca, show mn (mx 10000 0) 1000000 = 10000 by decide]; rw [vcut_id (by omega) (by omega)]; omega
  have p3 : vpart a 0 = 0 := by
    unfold vpart; rw [ca, show mn (mx 0 0) 1000000 = 0 by decide]; rw [vcut_id (by omega) (by omega)]; omega
  rw [e1, e2, p1, p2, p3]
  have l1 := Int.ediv_mul_le a (b := b) (by omega)
  have l2 := Int.lt_ediv_add_one_mul_self a (b := b) (by omega)
  have l3 : 0 ≤ a / b * b := Int.mul_nonneg (Int.ediv_nonneg (by omega) (by omega)) (by omega)
  rw [Int.add_mul] at l2
  rw [w64 (x := a / b * b) (by omega) (by omega), w64 (x := a - a / b * b) (by omega) (by omega), w64 (x := 2 * (a * 5000 / 10000)) (by omega) (by omega), w64 (x := a - 2 * (a * 5000 / 10000)) (by omega) (by omega)]
  rw [if_pos (by omega), if_pos (by omega), if_pos (by omega), if_pos (by omega), if_pos rfl, if_pos rfl]
  simp

end Go.Proofs.Ytcadddijlgcnbaa.Pure
