/- The law AnchorSights holds of the printed functions, for all spans of whole numbers of 64 bits. -/
import Derived.Test.YtnmcefpnpfaklabPlainWorks
import Derived.Test.YtnmcefpnpfaklabVx35
namespace Go.Proofs.Ytnmcefpnpfaklab.Pure
open Go.RowKit Go.Proofs.Ytnmcefpnpfaklab.V Go.Proofs.Ytnmcefpnpfaklab.Plain Go.Proofs.YtnmcefpnpfaklabW.PrintWords Go.Proofs.YtnmcefpnpfaklabW.PrintLast Go.Proofs.YtnmcefpnpfaklabW.PrintMore

theorem AnchorSights : valancelaw12_AnchorSights.Pure := by
  intro a b p q _ _ _ _
  refine ⟨60, ?_⟩
  unfold valancelaw12_AnchorSights.f
  rw [works_eq 60 (by omega), sight_eq]
  simp only [Option.bind_some, if_true]
  have h1 : vsight a b p q = 0 ∨ vsight a b p q = 1 ∨ vsight a b p q = 2 := by unfold vsight; (repeat' split) <;> simp
  have h2 : vsight a b p q = 0 ↔ mx a p ≥ mn b q := by unfold vsight; (repeat' split) <;> simp <;> omega
  have h3 : vsight a b p q = 2 ↔ (mx a p < mn b q ∧ (b ≤ a ∨ p ≤ a ∧ b ≤ q)) := by unfold vsight; (repeat' split) <;> simp [*]
  have h4 : mx a p < mn b q → ¬ b ≤ a := by unfold mx mn; (repeat' split) <;> omega
  generalize vsight a b p q = s at *
  by_cases g1 : a ≥ p
  · rw [if_pos g1, if_pos (by simp [← h2, Bool.beq_eq_decide_eq])]
    by_cases g2 : mx a p < mn b q
    · have g3 := h4 g2
      rw [if_pos g2, if_pos (by by_cases g4 : b ≤ q <;> simp [h3, g1, g2, g3, g4] <;> omega), if_pos (by omega)]
      simp; omega
    · rw [if_neg g2, if_pos (by simp [h3, g2]), if_pos (by omega)]
      simp; omega
  · rw [if_neg g1, if_pos (by simp [← h2, Bool.beq_eq_decide_eq])]
    by_cases g2 : mx a p < mn b q
    · have g3 := h4 g2
      rw [if_pos g2, if_pos (by simp [h3, g2, g3]; omega), if_pos (by omega)]
      simp; omega
    · rw [if_neg g2, if_pos (by simp [h3, g2]), if_pos (by omega)]
      simp; omega

end Go.Proofs.Ytnmcefpnpfaklab.Pure
