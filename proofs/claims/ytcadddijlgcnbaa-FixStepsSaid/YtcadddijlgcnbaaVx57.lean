-- Written by wip/tool/vprint.py (this repo's), over the kit's printer. Not trusted: Lean checks it.
import Derived.Test.YtcadddijlgcnbaaVx0
import Derived.Test.YtcadddijlgcnbaaVx1
import Derived.Test.YtcadddijlgcnbaaVx5
import Derived.Test.YtcadddijlgcnbaaVx56
namespace Go.Proofs.Ytcadddijlgcnbaa.V
open Go.RowKit Go.Proofs.YtcadddijlgcnbaaW.PrintWords Go.Proofs.YtcadddijlgcnbaaW.PrintLast Go.Proofs.YtcadddijlgcnbaaW.PrintMore
attribute [local go_sem] max2_int min2_int max_two min_two max_three min_three max_four min_four   -- for this text's walks alone
set_option linter.unusedVariables false
set_option linter.unusedSimpArgs false


theorem fix_Sum_l0_eq (l : List Int) (hl : l.length ≤ 17592186044416) (d : Nat) : ∀ (k : Nat) (i : Nat) (n : Int), i + d = l.length → d < k → fix_Sum.l0 k n l (l.length : Int) (i : Int) = some (vsums (l.drop i) n) := by
  induction d with
  | zero =>
    intro k i n h hk
    obtain ⟨k, rfl⟩ : ∃ m, k = m + 1 := ⟨k - 1, by omega⟩
    simp only [fix_Sum.l0]
    rw [if_neg (by omega), List.drop_of_length_le (by omega)]; rfl
  | succ d ih =>
    intro k i n h hk
    obtain ⟨k, rfl⟩ : ∃ m, k = m + 1 := ⟨k - 1, by omega⟩
    simp only [fix_Sum.l0]
    rw [if_pos (by omega), if_pos (by omega), if_pos (by omega), fix_Add_eq]
    simp only [Option.bind_some]
    rw [w64 (by omega) (by omega)]
    have := ih k (i + 1) (vadd n (rd l (i : Int))) (by omega) (by omega)
    rw [show ((i : Int) + 1) = ((i + 1 : Nat) : Int) by omega, this]
    rw [List.drop_eq_getElem_cons (show i < l.length by omega), vsums]
    congr 3
    simp [rd, List.getD_eq_getElem?_getD, List.getElem?_eq_getElem (show i < l.length by omega)]
theorem fix_Sum_eq (k : Nat) (l : List Int) (hl : l.length ≤ 17592186044416) (hk : l.length < k) : fix_Sum.f k l = some (vsums l 0) := by
  unfold fix_Sum.f
  have := fix_Sum_l0_eq l hl l.length k 0 0 (by omega) hk
  simpa using this


end Go.Proofs.Ytcadddijlgcnbaa.V
