/- The law SpanFits of layer 3 holds of the printed functions, for all spans and whole numbers of 64 bits. -/
import Derived.Test.YtcadddijlgcnbaaVx2
import Derived.Test.YtcadddijlgcnbaaVx3
import Derived.Test.YtcadddijlgcnbaaVx4
import Derived.Test.YtcadddijlgcnbaaVx8
import Derived.Test.YtcadddijlgcnbaaVx11
import Derived.Test.YtcadddijlgcnbaaVx23
set_option linter.unusedVariables false
set_option linter.unusedSimpArgs false
namespace Go.Proofs.Ytcadddijlgcnbaa.Pure
open Go.RowKit Go.Proofs.Ytcadddijlgcnbaa.V Go.Proofs.YtcadddijlgcnbaaW.PrintWords Go.Proofs.YtcadddijlgcnbaaW.PrintLast Go.Proofs.YtcadddijlgcnbaaW.PrintMore

theorem add_in {a b : Int} (h1 : -1099511627776 ≤ a) (h2 : a ≤ 1099511627776) (h3 : -1099511627776 ≤ b) (h4 : b ≤ 1099511627776) (h5 : -1099511627776 ≤ a + b) (h6 : a + b ≤ 1099511627776) : vadd a b = a + b := by
  unfold vadd; rw [vcut_id h1 h2, vcut_id h3 h4, vcut_id h5 h6]
theorem sub_in {a b : Int} (h1 : -1099511627776 ≤ a) (h2 : a ≤ 1099511627776) (h3 : -1099511627776 ≤ b) (h4 : b ≤ 1099511627776) (h5 : -1099511627776 ≤ a - b) (h6 : a - b ≤ 1099511627776) : vsub a b = a - b := by
  unfold vsub; rw [vcut_id h1 h2, vcut_id h3 h4, vcut_id h5 h6]
theorem fit_in {a b c d : Int} (ha : -4294967296 ≤ a ∧ a ≤ 4294967296) (hb : -4294967296 ≤ b ∧ b ≤ 4294967296) (hc : -4294967296 ≤ c ∧ c ≤ 4294967296) (hd : -4294967296 ≤ d ∧ d ≤ 4294967296) (h1 : a ≤ b) (h2 : c ≤ d) :
    vfit a b c d = if a < c then c - a else if b ≤ d then 0 else if d - c < b - a then c - a else d - b := by
  have e1 : vsize c d = d - c := by unfold vsize; rw [sub_in (by omega) (by omega) (by omega) (by omega) (by omega) (by omega)]; unfold mx; split <;> omega
  have e2 : vsize a b = b - a := by unfold vsize; rw [sub_in (by omega) (by omega) (by omega) (by omega) (by omega) (by omega)]; unfold mx; split <;> omega
  unfold vfit
  rw [e1, e2, sub_in (a := c) (b := a) (by omega) (by omega) (by omega) (by omega) (by omega) (by omega), sub_in (a := d) (b := b) (by omega) (by omega) (by omega) (by omega) (by omega) (by omega)]
theorem fits_j1 (k : Nat) (x1 x3 x11 il ih tl th : Int) (x14 : Bool) (hj : ∀ b15, (x14 = true → b15 = true → False) → valancelaw03_SpanFits.j2 (k + 1) x1 true x14 b15 il ih tl th = some true)
    (hc : x14 = true → ¬ (x3 ≥ 0 ∧ x11 ≥ 0 ∧ x3 < x11) ∧ ¬ (x3 ≤ 0 ∧ x11 ≤ 0 ∧ x3 > x11) ∧ ¬ (x3 = 0 ∧ x11 ≠ 0)) :
    valancelaw03_SpanFits.j1 (k + 2) x1 x3 true x11 x14 il ih tl th = some true := by
  simp only [valancelaw03_SpanFits.j1]
  (repeat' split) <;> (apply hj; intro h1 h2; have := hc h1; simp only [bne_iff_ne, ne_eq, Bool.false_eq_true] at h2; try omega)
theorem fits_j2 (k : Nat) (x1 il ih tl th : Int) (b14 b15 : Bool) (h : b14 = true → b15 = true → False) (h1 : il ≤ tl) (h2 : th ≤ ih) (h3 : th - tl = x1) (h4 : 0 ≤ x1) (h5 : -4294967296 ≤ il) (h6 : ih ≤ 4294967296) :
    valancelaw03_SpanFits.j2 (k + 1) x1 true b14 b15 il ih tl th = some true := by
  simp only [valancelaw03_SpanFits.j2]
  have e2 : vsize tl th = x1 := by unfold vsize; rw [sub_in (by omega) (by omega) (by omega) (by omega) (by omega) (by omega)]; unfold mx; split <;> omega
  have e3 : vfit tl th il ih = 0 := by rw [fit_in (by omega) (by omega) (by omega) (by omega) (by omega) (by omega), if_neg (by omega), if_pos (by omega)]
  rw [if_pos True.intro, if_pos h1, if_pos h2, span_Size_eq, Option.bind_some, if_pos e2, show span_Fit.f tl th il ih = some (vfit tl th il ih) from rfl, e3]
  cases b14 <;> cases b15 <;> first | rfl | exact absurd (h rfl rfl) (fun h => h)
theorem SpanFits : valancelaw03_SpanFits.Pure := by
  intro lo size il ih bt h1 h2 h3 h4 h5
  refine ⟨9, ?_⟩
  unfold valancelaw03_SpanFits.f
  simp only [works03_eq, Option.bind_some, if_true]
  by_cases c1 : lo < -1073741824
  · simp only [c1, if_true, valancelaw03_SpanFits.j0]
  by_cases c2 : lo > 1073741824
  · simp only [c1, c2, if_true, if_false, valancelaw03_SpanFits.j0]
  by_cases c3 : size < 0
  · simp only [c1, c2, c3, if_true, if_false, valancelaw03_SpanFits.j0]
  by_cases c4 : size > 1073741824
  · simp only [c1, c2, c3, c4, if_true, if_false, valancelaw03_SpanFits.j0]
  by_cases c5 : il < -1073741824
  · simp only [c1, c2, c3, c4, c5, if_true, if_false, valancelaw03_SpanFits.j0]
  by_cases c6 : ih > 1073741824
  · simp only [c1, c2, c3, c4, c5, c6, if_true, if_false, valancelaw03_SpanFits.j0]
  by_cases c7 : il > ih
  · simp only [c1, c2, c3, c4, c5, c6, c7, if_true, if_false, valancelaw03_SpanFits.j0]
  by_cases c8 : bt < -4294967296
  · simp only [c1, c2, c3, c4, c5, c6, c7, c8, if_true, if_false, valancelaw03_SpanFits.j0]
  by_cases c9 : bt > 4294967296
  · simp only [c1, c2, c3, c4, c5, c6, c7, c8, c9, if_true, if_false, decide_true, valancelaw03_SpanFits.j0]
  simp only [c1, c2, c3, c4, c5, c6, c7, c8, c9, if_false, decide_false]
  have m : mx size 0 = size := by unfold mx; rw [if_neg (by omega)]
  have e1 : vcut lo = lo := vcut_id (by omega) (by omega)
  have e2 : vadd lo size = lo + size := add_in (by omega) (by omega) (by omega) (by omega) (by omega) (by omega)
  have w1 : wrap64 (ih - il) = ih - il := w64 (by omega) (by omega)
  have ef : span_Fit.f lo (lo + size) il ih = some (vfit lo (lo + size) il ih) := rfl
  rw [fit_in (by omega) (by omega) (by omega) (by omega) (by omega) (by omega)] at ef
  generalize hg : (if lo < il then il - lo else if lo + size ≤ ih then 0 else if ih - il < lo + size - lo then il - lo else ih - (lo + size)) = f at ef
  have e3 : -4294967296 ≤ f ∧ f ≤ 4294967296 := by subst hg; (repeat' split) <;> omega
  have e4 : vadd lo f = lo + f := add_in (by omega) (by omega) (by omega) (by omega) (by omega) (by omega)
  have e5 : vadd (lo + size) f = lo + size + f := add_in (by omega) (by omega) (by omega) (by omega) (by omega) (by omega)
  have e6 : vadd lo bt = lo + bt := add_in (by omega) (by omega) (by omega) (by omega) (by omega) (by omega)
  have e7 : vadd (lo + size) bt = lo + size + bt := add_in (by omega) (by omega) (by omega) (by omega) (by omega) (by omega)
  rw [show (9 : Nat) = 6 + 2 + 1 from rfl]
  simp only [valancelaw03_SpanFits.j0, Bool.false_eq_true, if_false, span_Of_eq, Option.bind_some, m, e1, e2, ef, span_Move_eq, e4, e5, e6, e7, w1, if_true]
  by_cases c10 : size > ih - il
  · rw [if_pos c10]
    have : lo + f = il := by subst hg; (repeat' split) <;> omega
    rw [this]; simp
  · rw [if_neg c10]
    have hin : il ≤ lo + f ∧ lo + size + f ≤ ih := by subst hg; (repeat' split) <;> omega
    split
    · refine fits_j1 6 size bt f il ih (lo + f) (lo + size + f) _ (fun b h => fits_j2 6 size il ih _ _ _ b h hin.1 hin.2 (by omega) (by omega) (by omega) (by omega)) (fun h => ?_)
      have h := of_decide_eq_true h
      subst hg; (repeat' split) <;> omega
    · exact fits_j1 6 size bt f il ih (lo + f) (lo + size + f) _ (fun b h => fits_j2 6 size il ih _ _ _ b h hin.1 hin.2 (by omega) (by omega) (by omega) (by omega)) (fun h => by simp at h)

end Go.Proofs.Ytcadddijlgcnbaa.Pure
