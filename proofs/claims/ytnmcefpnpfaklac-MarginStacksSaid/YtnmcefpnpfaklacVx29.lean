/- What the functions of this seat answer, as plain Lean functions, and that the calls come to just that (written by a program of this repo, over the kit's printer; Lean checks it). -/
import Derived.Test.YtnmcefpnpfaklacVx0
import Derived.Test.YtnmcefpnpfaklacVx1
import Derived.Test.YtnmcefpnpfaklacVx7
import Derived.Test.YtnmcefpnpfaklacVx8
import Derived.Test.YtnmcefpnpfaklacVx28
namespace Go.Proofs.Ytnmcefpnpfaklac.V
open Go.RowKit Go.Proofs.YtnmcefpnpfaklacW.PrintWords Go.Proofs.YtnmcefpnpfaklacW.PrintLast Go.Proofs.YtnmcefpnpfaklacW.PrintMore
attribute [local go_sem] max2_int min2_int max_two min_two max_three min_three max_four min_four   -- for this text's walks alone
set_option linter.unusedVariables false
set_option linter.unusedSimpArgs false


theorem ref_Collapse_l0_eq (l : List Int) (hl : l.length ≤ 17592186044416) (d : Nat) : ∀ (k i : Nat) (h lo : Int), i + d = l.length → d < k → valanceref06_Collapse.l0 k l h lo (i : Int) = some (vadd (vends (l.drop i) h lo).1 (vends (l.drop i) h lo).2) := by
  induction d with
  | zero =>
    intro k i h lo hi hk
    obtain ⟨k, rfl⟩ : ∃ m, k = m + 1 := ⟨k - 1, by omega⟩
    simp only [valanceref06_Collapse.l0]
    rw [if_neg (by omega), List.drop_of_length_le (by omega), ref_Add_eq]; rfl
  | succ d ih =>
    intro k i h lo hi hk
    obtain ⟨k, rfl⟩ : ∃ m, k = m + 1 := ⟨k - 1, by omega⟩
    simp only [valanceref06_Collapse.l0]
    rw [if_pos (by omega), if_pos (by omega), ref_Cut_eq, rd_at l i (by omega)]
    simp only [Option.bind_some]
    rw [w64 (by omega) (by omega), show ((i : Int) + 1) = ((i + 1 : Nat) : Int) by omega, ih k (i + 1) _ _ (by omega) (by omega), List.drop_eq_getElem_cons (show i < l.length by omega), vends]
theorem ref_Collapse_eq (k : Nat) (l : List Int) (hl : l.length ≤ 17592186044416) (hk : l.length < k) : valanceref06_Collapse.f k l = some (vcoll l) := by
  unfold valanceref06_Collapse.f vcoll
  have h := ref_Collapse_l0_eq l hl l.length k 0 0 0 (by omega) hk
  have b := vends_bd l 0 0 (by omega) (by omega) (by omega) (by omega)
  have e : vadd (vends l 0 0).1 (vends l 0 0).2 = (vends l 0 0).1 + (vends l 0 0).2 := by
    unfold vadd; rw [vcut_id (n := (vends l 0 0).1) (by omega) (by omega), vcut_id (n := (vends l 0 0).2) (by omega) (by omega), vcut_id (by omega) (by omega)]
  rw [← e]
  simpa using h

end Go.Proofs.Ytnmcefpnpfaklac.V
