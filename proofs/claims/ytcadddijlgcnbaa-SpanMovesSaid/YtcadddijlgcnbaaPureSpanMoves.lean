/- The law SpanMoves of layer 3 holds of the printed functions, for all spans and whole numbers of 64 bits. -/
import Derived.Test.YtcadddijlgcnbaaVx2
import Derived.Test.YtcadddijlgcnbaaVx3
import Derived.Test.YtcadddijlgcnbaaVx4
import Derived.Test.YtcadddijlgcnbaaVx5
import Derived.Test.YtcadddijlgcnbaaVx8
import Derived.Test.YtcadddijlgcnbaaVx9
import Derived.Test.YtcadddijlgcnbaaVx11
import Derived.Test.YtcadddijlgcnbaaVx24
set_option linter.unusedVariables false
set_option linter.unusedSimpArgs false
namespace Go.Proofs.Ytcadddijlgcnbaa.Pure
open Go.RowKit Go.Proofs.Ytcadddijlgcnbaa.V Go.Proofs.YtcadddijlgcnbaaW.PrintWords Go.Proofs.YtcadddijlgcnbaaW.PrintLast Go.Proofs.YtcadddijlgcnbaaW.PrintMore

theorem add_in {a b : Int} (h1 : -1099511627776 ≤ a) (h2 : a ≤ 1099511627776) (h3 : -1099511627776 ≤ b) (h4 : b ≤ 1099511627776) (h5 : -1099511627776 ≤ a + b) (h6 : a + b ≤ 1099511627776) : vadd a b = a + b := by
  unfold vadd; rw [vcut_id h1 h2, vcut_id h3 h4, vcut_id h5 h6]
theorem sub_in {a b : Int} (h1 : -1099511627776 ≤ a) (h2 : a ≤ 1099511627776) (h3 : -1099511627776 ≤ b) (h4 : b ≤ 1099511627776) (h5 : -1099511627776 ≤ a - b) (h6 : a - b ≤ 1099511627776) : vsub a b = a - b := by
  unfold vsub; rw [vcut_id h1 h2, vcut_id h3 h4, vcut_id h5 h6]
theorem SpanMoves : valancelaw03_SpanMoves.Pure := by
  intro lo size bt n h1 h2 h3 h4
  refine ⟨9, ?_⟩
  unfold valancelaw03_SpanMoves.f
  simp only [works03_eq, Option.bind_some, if_true]
  by_cases c1 : lo < -1073741824
  · simp only [c1, if_true, valancelaw03_SpanMoves.j0]
  by_cases c2 : lo > 1073741824
  · simp only [c1, c2, if_true, if_false, valancelaw03_SpanMoves.j0]
  by_cases c3 : size < 0
  · simp only [c1, c2, c3, if_true, if_false, valancelaw03_SpanMoves.j0]
  by_cases c4 : size > 1073741824
  · simp only [c1, c2, c3, c4, if_true, if_false, valancelaw03_SpanMoves.j0]
  by_cases c5 : bt < -1073741824
  · simp only [c1, c2, c3, c4, c5, if_true, if_false, valancelaw03_SpanMoves.j0]
  by_cases c6 : bt > 1073741824
  · simp only [c1, c2, c3, c4, c5, c6, if_true, if_false, valancelaw03_SpanMoves.j0]
  by_cases c7 : n < -1073741824
  · simp only [c1, c2, c3, c4, c5, c6, c7, if_true, if_false, valancelaw03_SpanMoves.j0]
  by_cases c8 : n > 1073741824
  · simp only [c1, c2, c3, c4, c5, c6, c7, c8, if_true, if_false, decide_true, valancelaw03_SpanMoves.j0]
  simp only [c1, c2, c3, c4, c5, c6, c7, c8, if_true, if_false, decide_false, Bool.false_eq_true, valancelaw03_SpanMoves.j0, span_Of_eq, span_Move_eq, span_Size_eq, span_Has_eq, span_Near_eq, Option.bind_some]
  have m : mx size 0 = size := by unfold mx; rw [if_neg (by omega)]
  have e1 : vcut lo = lo := vcut_id (by omega) (by omega)
  have e2 : vadd lo size = lo + size := add_in (by omega) (by omega) (by omega) (by omega) (by omega) (by omega)
  rw [m, e1, e2]
  have e3 : vadd lo bt = lo + bt := add_in (by omega) (by omega) (by omega) (by omega) (by omega) (by omega)
  have e4 : vadd (lo + size) bt = lo + size + bt := add_in (by omega) (by omega) (by omega) (by omega) (by omega) (by omega)
  rw [e3, e4]
  have s1 : vsize (lo + bt) (lo + size + bt) = size := by
    unfold vsize; rw [sub_in (by omega) (by omega) (by omega) (by omega) (by omega) (by omega)]; unfold mx; split <;> omega
  have s2 : vsize lo (lo + size) = size := by
    unfold vsize; rw [sub_in (by omega) (by omega) (by omega) (by omega) (by omega) (by omega)]; unfold mx; split <;> omega
  rw [s1, s2]
  rw [w64 (x := -bt) (by omega) (by omega), w64 (x := n + bt) (by omega) (by omega)]
  have e5 : vadd (lo + bt) (-bt) = lo := by rw [add_in (by omega) (by omega) (by omega) (by omega) (by omega) (by omega)]; omega
  have e6 : vadd (lo + size + bt) (-bt) = lo + size := by rw [add_in (by omega) (by omega) (by omega) (by omega) (by omega) (by omega)]; omega
  rw [e5, e6]
  have e7 : vhas (lo + bt) (lo + size + bt) (n + bt) = vhas lo (lo + size) n := by
    rw [Bool.eq_iff_iff]; unfold vhas; simp <;> omega
  have e8 : vclamp (n + bt) (lo + bt) (lo + size + bt) = vclamp n lo (lo + size) + bt := by
    unfold vclamp
    simp only [vcut_id (n := n + bt) (by omega) (by omega), vcut_id (n := lo + bt) (by omega) (by omega), vcut_id (n := lo + size + bt) (by omega) (by omega), vcut_id (n := n) (by omega) (by omega), vcut_id (n := lo) (by omega) (by omega), vcut_id (n := lo + size) (by omega) (by omega)]
    unfold mx mn; (repeat' split) <;> omega
  have e9 : -2147483648 ≤ vclamp n lo (lo + size) ∧ vclamp n lo (lo + size) ≤ 2147483648 := by
    unfold vclamp
    rw [vcut_id (n := n) (by omega) (by omega), vcut_id (n := lo) (by omega) (by omega), vcut_id (n := lo + size) (by omega) (by omega)]
    unfold mx mn; (repeat' split) <;> omega
  rw [e7, e8, w64 (x := vclamp n lo (lo + size) + bt) (by omega) (by omega)]
  simp

end Go.Proofs.Ytcadddijlgcnbaa.Pure
