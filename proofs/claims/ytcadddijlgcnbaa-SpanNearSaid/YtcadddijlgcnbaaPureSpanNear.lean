/- The law SpanNear of layer 3 holds of the printed functions, for all spans and whole numbers of 64 bits. -/
import Derived.Test.YtcadddijlgcnbaaVx2
import Derived.Test.YtcadddijlgcnbaaVx6
import Derived.Test.YtcadddijlgcnbaaVx9
import Derived.Test.YtcadddijlgcnbaaVx11
import Derived.Test.YtcadddijlgcnbaaVx25
set_option linter.unusedVariables false
set_option linter.unusedSimpArgs false
namespace Go.Proofs.Ytcadddijlgcnbaa.Pure
open Go.RowKit Go.Proofs.Ytcadddijlgcnbaa.V Go.Proofs.YtcadddijlgcnbaaW.PrintWords Go.Proofs.YtcadddijlgcnbaaW.PrintLast Go.Proofs.YtcadddijlgcnbaaW.PrintMore

theorem in_trans {a b c d e f : Int} (h1 : vin a b c d = true) (h2 : vin c d e f = true) (h3 : ¬ d ≤ c) : vin a b e f = true := by
  unfold vin at *; simp at *; omega
theorem in_self (a b : Int) : vin a b a b = true := by unfold vin; simp
theorem near_j1 (k : Nat) (hk : 1 ≤ k) (a b c d e f : Int) : valancelaw03_SpanNear.j1 k true true a b c d e f = some true := by
  obtain ⟨k, rfl⟩ : ∃ m, k = m + 1 := ⟨k - 1, by omega⟩
  simp only [valancelaw03_SpanNear.j1, if_true, span_In_eq, Option.bind_some, in_self]
  by_cases h1 : vin a b c d = true
  · by_cases h2 : vin c d e f = true
    · by_cases h : d ≤ c
      · simp only [h1, h2, h, if_true]; split <;> rfl
      · have h3 := in_trans h1 h2 h
        simp only [h1, h2, h3, if_true]
    · simp only [h1, h2, if_true, if_false]; rfl
  · simp only [h1, if_false]; rfl
theorem SpanNear : valancelaw03_SpanNear.Pure := by
  intro a b c d e f n h1 h2 h3 h4 h5 h6 h7
  refine ⟨9, ?_⟩
  unfold valancelaw03_SpanNear.f
  simp only [works03_eq, Option.bind_some, if_true]
  by_cases c1 : n < -1073741824
  · simp only [c1, if_true, valancelaw03_SpanNear.j0]
  by_cases c2 : n > 1073741824
  · simp only [c1, c2, if_true, if_false, valancelaw03_SpanNear.j0]
  by_cases c3 : a < -1073741824
  · simp only [c1, c2, c3, if_true, if_false, valancelaw03_SpanNear.j0]
  by_cases c4 : b > 1073741824
  · simp only [c1, c2, c3, c4, if_true, if_false, valancelaw03_SpanNear.j0]
  by_cases c5 : a > b
  · simp only [c1, c2, c3, c4, c5, if_true, if_false, decide_true, valancelaw03_SpanNear.j0]
  simp only [c1, c2, c3, c4, c5, if_true, if_false, decide_false, Bool.false_eq_true, valancelaw03_SpanNear.j0, span_Near_eq, Option.bind_some]
  have hq : vclamp n a b = mx a (mn n b) := by
    unfold vclamp
    rw [vcut_id (n := n) (by omega) (by omega), vcut_id (n := a) (by omega) (by omega), vcut_id (n := b) (by omega) (by omega)]
  have q1 : a ≤ vclamp n a b := by rw [hq]; unfold mx mn; (repeat' split) <;> omega
  have q2 : vclamp n a b ≤ b := by rw [hq]; unfold mx mn; (repeat' split) <;> omega
  have q3 : (n ≤ a ∧ vclamp n a b = a) ∨ (b ≤ n ∧ vclamp n a b = b) ∨ (a ≤ n ∧ n ≤ b ∧ vclamp n a b = n) := by rw [hq]; unfold mx mn; (repeat' split) <;> omega
  generalize vclamp n a b = x at *
  rw [w64 (x := x - n) (by omega) (by omega), w64 (x := n - x) (by omega) (by omega), w64 (x := a - n) (by omega) (by omega), w64 (x := n - a) (by omega) (by omega), w64 (x := b - n) (by omega) (by omega), w64 (x := n - b) (by omega) (by omega)]
  have d1 : mx (x - n) (n - x) ≤ mx (a - n) (n - a) := by unfold mx; (repeat' split) <;> omega
  have d2 : mx (x - n) (n - x) ≤ mx (b - n) (n - b) := by unfold mx; (repeat' split) <;> omega
  rw [if_pos q1, if_pos q2, if_pos d1]
  simp only [d2, decide_true]
  exact near_j1 8 (by omega) a b c d e f

end Go.Proofs.Ytcadddijlgcnbaa.Pure
