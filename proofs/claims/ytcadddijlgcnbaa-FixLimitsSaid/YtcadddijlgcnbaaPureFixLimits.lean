/- The law FixLimits of layer 1 holds of the printed functions, for all whole numbers of 64 bits, and lists of them. -/
import Derived.Test.YtcadddijlgcnbaaVx1
import Derived.Test.YtcadddijlgcnbaaVx3
import Derived.Test.YtcadddijlgcnbaaVx5
import Derived.Test.YtcadddijlgcnbaaVx8
import Derived.Test.YtcadddijlgcnbaaVx19
import Derived.Test.YtcadddijlgcnbaaVx49
import Derived.Test.YtcadddijlgcnbaaVx53
import Derived.Test.YtcadddijlgcnbaaVx55
import Derived.Test.YtcadddijlgcnbaaVx57
import Derived.Test.YtcadddijlgcnbaaVx59
import Derived.Test.YtcadddijlgcnbaaVx71
set_option linter.unusedVariables false
set_option linter.unusedSimpArgs false
namespace Go.Proofs.Ytcadddijlgcnbaa.Pure
open Go.RowKit Go.Proofs.Ytcadddijlgcnbaa.V Go.Proofs.YtcadddijlgcnbaaW.PrintWords Go.Proofs.YtcadddijlgcnbaaW.PrintLast Go.Proofs.YtcadddijlgcnbaaW.PrintMore

theorem vsums_bd (l : List Int) : ∀ n, -1099511627776 ≤ n ∧ n ≤ 1099511627776 → -1099511627776 ≤ vsums l n ∧ vsums l n ≤ 1099511627776 := by
  induction l with
  | nil => intro n h; exact h
  | cons x l ih => intro n h; exact ih _ (vcut_bd _)
theorem limits_loop (l : List Int) (hl : l.length ≤ 1000) (hb : ∀ x ∈ l, -1099511627776 ≤ x ∧ x ≤ 1099511627776) (d : Nat) : ∀ (k i : Nat), i + d = l.length → d < k → valancelaw01_FixLimits.l0 k true l (i : Int) = some true := by
  induction d with
  | zero =>
    intro k i h hk
    obtain ⟨k, rfl⟩ : ∃ m, k = m + 1 := ⟨k - 1, by omega⟩
    simp only [valancelaw01_FixLimits.l0]
    rw [if_neg (by omega)]
  | succ d ih =>
    intro k i h hk
    obtain ⟨k, rfl⟩ : ∃ m, k = m + 1 := ⟨k - 1, by omega⟩
    have hi : i < l.length := by omega
    have hr : rd l (i : Int) = l[i] := by simp [rd, List.getD_eq_getElem?_getD, List.getElem?_eq_getElem hi]
    have hx := hb l[i] (List.getElem_mem hi)
    simp only [valancelaw01_FixLimits.l0]
    rw [if_pos (by omega), if_pos (by omega), hr, if_neg (by omega), if_neg (by omega), fix_Cut_eq, vcut_id hx.1 hx.2]
    simp only [Option.bind_some, if_true]
    rw [w64 (by omega) (by omega)]
    exact ih k (i + 1) (by omega) (by omega)
theorem FixLimits : valancelaw01_FixLimits.Pure := by
  intro a b c ha hb hc
  refine ⟨20, ?_⟩
  unfold valancelaw01_FixLimits.f
  rw [works01_eq 20 (by omega)]
  simp only [Option.bind_some, if_true]
  simp only [fix_Div_eq, fix_Part_eq, fix_Clamp_eq, fix_Add_eq, fix_Sub_eq, fix_Cut_eq, fix_Mul_eq 20 (by omega), fix_Sum_eq 20 [a, b, c] (by simp) (by simp), Option.bind_some]
  refine limits_loop _ (by simp) ?_ 8 20 0 (by simp) (by omega)
  have h0 := vcut_bd a
  have h1 := vcut_bd (vcut a + vcut b)
  have h2 := vcut_bd (vcut a - vcut b)
  have h3 := vcut_bd (vcut a * vcut b)
  have h4 : -1099511627776 ≤ vdivd a b ∧ vdivd a b ≤ 1099511627776 := by
    unfold vdivd
    split
    · omega
    · rename_i hh
      have hp : 0 < vcut b := by unfold vcut; (repeat' split) <;> omega
      obtain ⟨d1, d2⟩ := ediv_bd (a := vcut a) hp
      omega
  have h5 := vcut_bd (vcut a * (mn (mx b 0) 1000000) / 10000)
  have h6 : -1099511627776 ≤ vclamp a b c ∧ vclamp a b c ≤ 1099511627776 := by
    have q1 := vcut_bd a
    have q2 := vcut_bd b
    have q3 := vcut_bd c
    unfold vclamp mx mn; (repeat' split) <;> omega
  have h7 := vsums_bd [a, b, c] 0 (by omega)
  intro x hx
  simp only [List.mem_cons, List.not_mem_nil, or_false] at hx
  rcases hx with rfl | rfl | rfl | rfl | rfl | rfl | rfl | rfl
  · exact h0
  · exact h1
  · exact h2
  · exact h3
  · exact h4
  · exact h5
  · exact h6
  · exact h7

end Go.Proofs.Ytcadddijlgcnbaa.Pure
