/- The law LengthMore of layer 5 holds of the printed functions, for all lengths and whole numbers of 64 bits. -/
import Derived.Test.YtnmcefpnpfaklaaVx2
import Derived.Test.YtnmcefpnpfaklaaVx8
import Derived.Test.YtnmcefpnpfaklaaVx10
import Derived.Test.YtnmcefpnpfaklaaVx25
set_option linter.unusedVariables false
set_option linter.unusedSimpArgs false
namespace Go.Proofs.Ytnmcefpnpfaklaa.Pure
open Go.RowKit Go.Proofs.Ytnmcefpnpfaklaa.V Go.Proofs.YtnmcefpnpfaklaaW.PrintWords Go.Proofs.YtnmcefpnpfaklaaW.PrintLast Go.Proofs.YtnmcefpnpfaklaaW.PrintMore

theorem more_j0 (k : Nat) (hk : 1 ≤ k) (n a c d b : Int) (h1 : -1073741824 ≤ n ∧ n ≤ 1073741824) (h2 : -1073741824 ≤ a ∧ a ≤ 1073741824) (h3 : -1073741824 ≤ c ∧ c ≤ 1073741824) (h4 : 0 ≤ d ∧ d ≤ 1073741824) : valancelaw05_LengthMore.j0 k n a c d b true false = some true := by
  obtain ⟨k, rfl⟩ : ∃ m, k = m + 1 := ⟨k - 1, by omega⟩
  simp only [valancelaw05_LengthMore.j0, length_Limit_eq, Option.bind_some, if_true, Bool.false_eq_true, if_false]
  rw [w64 (x := a + d) (by omega) (by omega), w64 (x := c + d) (by omega) (by omega)]
  have hv : ∀ x y, -1099511627776 ≤ x → x ≤ 1099511627776 → -1099511627776 ≤ y → y ≤ 1099511627776 → vlimit n 1 x 1 y b = mx (mx x (mn n y)) 0 := by
    intro x y p1 p2 p3 p4
    unfold vlimit vclamp vof
    simp only [if_true]
    rw [vcut_id p1 p2, vcut_id p3 p4, vcut_id p1 p2, vcut_id p3 p4, vcut_id (by omega) (by omega)]
  have h0 : vlimit n 0 0 0 0 b = mx n 0 := by
    unfold vlimit vclamp vof
    rw [if_neg (by omega), if_neg (by omega), if_neg (by omega), if_neg (by omega)]
    simp only [vcut_cut]
    rw [vcut_id (n := n) (by omega) (by omega), vcut_id (n := -1099511627776) (by omega) (by omega), vcut_id (n := 1099511627776) (by omega) (by omega)]
    unfold mx mn; (repeat' split) <;> omega
  rw [hv a c (by omega) (by omega) (by omega) (by omega), hv (a + d) c (by omega) (by omega) (by omega) (by omega), hv a (c + d) (by omega) (by omega) (by omega) (by omega), h0]
  rw [if_pos (by unfold mx mn; (repeat' split) <;> omega), if_pos (by unfold mx mn; (repeat' split) <;> omega), beq_self_eq_true]
theorem LengthMore : valancelaw05_LengthMore.Pure := by
  intro n a c d b _ _ _ _ _
  refine ⟨9, ?_⟩
  unfold valancelaw05_LengthMore.f
  simp only [works05_eq, Option.bind_some, if_true]
  by_cases c1 : n < -1073741824
  · rw [if_pos c1]; rfl
  by_cases c2 : n > 1073741824
  · rw [if_neg c1, if_pos c2]; rfl
  by_cases c3 : a < -1073741824
  · rw [if_neg c1, if_neg c2, if_pos c3]; rfl
  by_cases c4 : a > 1073741824
  · rw [if_neg c1, if_neg c2, if_neg c3, if_pos c4]; rfl
  by_cases c5 : c < -1073741824
  · rw [if_neg c1, if_neg c2, if_neg c3, if_neg c4, if_pos c5]; rfl
  by_cases c6 : c > 1073741824
  · rw [if_neg c1, if_neg c2, if_neg c3, if_neg c4, if_neg c5, if_pos c6]; rfl
  by_cases c7 : d < 0
  · rw [if_neg c1, if_neg c2, if_neg c3, if_neg c4, if_neg c5, if_neg c6, if_pos c7]; rfl
  rw [if_neg c1, if_neg c2, if_neg c3, if_neg c4, if_neg c5, if_neg c6, if_neg c7]
  by_cases c8 : d > 1073741824
  · rw [decide_eq_true c8]; rfl
  rw [decide_eq_false c8]
  exact more_j0 9 (by omega) n a c d b (by omega) (by omega) (by omega) (by omega)

end Go.Proofs.Ytnmcefpnpfaklaa.Pure
