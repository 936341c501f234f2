-- Written by wip/tool/vprint.py (this repo's), over the kit's printer. Not trusted: Lean checks it.
import Derived.Test.YtcadddijlgcnbaaVx0
import Derived.Test.YtcadddijlgcnbaaVx1
import Derived.Test.YtcadddijlgcnbaaVx50
namespace Go.Proofs.Ytcadddijlgcnbaa.V
open Go.RowKit Go.Proofs.YtcadddijlgcnbaaW.PrintWords Go.Proofs.YtcadddijlgcnbaaW.PrintLast Go.Proofs.YtcadddijlgcnbaaW.PrintMore
attribute [local go_sem] max2_int min2_int max_two min_two max_three min_three max_four min_four   -- for this text's walks alone
set_option linter.unusedVariables false
set_option linter.unusedSimpArgs false


theorem fix_down_eq (a b : Int) (ha : -4611686018427387904 ≤ a) (ha2 : a ≤ 4611686018427387904) (hb : 0 < b) (hb2 : b ≤ 4611686018427387904) : fix_down.f a b = some (a / b) := by
  unfold fix_down.f
  obtain ⟨t1, t2⟩ := tdiv_floor (a := a) hb
  obtain ⟨d1, d2⟩ := ediv_bd (a := a) hb
  have l1 := Int.ediv_mul_le a (b := b) (by omega)
  have l2 := Int.lt_ediv_add_one_mul_self a hb
  rw [Int.add_mul] at l2 t2
  rw [if_neg (by omega)]
  by_cases hc : 0 ≤ a ∨ b ∣ a
  · obtain ⟨e, _⟩ := t1 hc
    have hq : -4611686018427387904 ≤ a / b ∧ a / b ≤ 4611686018427387904 := by omega
    rw [e, w64 (x := a / b) (by omega) (by omega), w64 (x := a / b * b) (by omega) (by omega), if_neg (by omega)]
  · obtain ⟨e, g⟩ := t2 hc
    have ha0 : a < 0 := by omega
    have hm : (a / b + 1) * b ≤ 0 := by
      have : (a / b + 1) * b ≤ 0 * b := Int.mul_le_mul_of_nonneg_right (by omega) (by omega)
      omega
    rw [Int.add_mul] at hm
    have hq : -4611686018427387904 ≤ a / b ∧ a / b ≤ 4611686018427387904 := by omega
    rw [e, w64 (x := a / b + 1) (by omega) (by omega), Int.add_mul, w64 (x := a / b * b + 1 * b) (by omega) (by omega), if_pos (by omega), w64 (x := a / b + 1 - 1) (by omega) (by omega)]
    simp only [Option.some.injEq]; omega


end Go.Proofs.Ytcadddijlgcnbaa.V
