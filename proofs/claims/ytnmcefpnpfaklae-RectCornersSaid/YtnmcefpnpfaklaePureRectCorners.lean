/- The law RectCorners holds of the printed functions. -/
import Derived.Test.YtnmcefpnpfaklaePlainRect
import Derived.Test.YtnmcefpnpfaklaeVx0
import Derived.Test.YtnmcefpnpfaklaeVx2
import Derived.Test.YtnmcefpnpfaklaeVx11
import Derived.Test.YtnmcefpnpfaklaeVx12
import Derived.Test.YtnmcefpnpfaklaeVx22
namespace Go.Proofs.Ytnmcefpnpfaklae.Pure
open Go.RowKit Go.Proofs.Ytnmcefpnpfaklae.V Go.Proofs.Ytnmcefpnpfaklae.Flt Go.Proofs.Ytnmcefpnpfaklae.Plain Go.Proofs.YtnmcefpnpfaklaeW.PrintWords Go.Proofs.YtnmcefpnpfaklaeW.PrintLast Go.Proofs.YtnmcefpnpfaklaeW.PrintMore
theorem corners_j2 (x y w h at_ : Int) (hx : -1073741824 ≤ x ∧ x ≤ 1073741824) (hy : -1073741824 ≤ y ∧ y ≤ 1073741824) (hw : 0 ≤ w ∧ w ≤ 1073741824) (hh : 0 ≤ h ∧ h ≤ 1073741824) (ha : -1073741824 ≤ at_ ∧ at_ ≤ 1073741824) :
    valancelaw04_RectCorners.j2 1 x y w h at_ true true x y w h = some true := by
  have eb : rect_By.f x (x + w) y (y + h) = some (x, y, w, h) := by
    rw [r_by (by unfold Sm; omega) (by unfold Sm; omega) (by unfold Sm; omega) (by unfold Sm; omega), show x + w - x = w by omega, show y + h - y = h by omega, mx0 hw.1, mx0 hh.1]
  simp only [valancelaw04_RectCorners.j2, if_true, point_Of.f, Option.bind_some]
  rw [r_has (by unfold Sm; omega) (by unfold Sm; omega) (by unfold Sm; omega) (by unfold Sm; omega) hw.1 hh.1 (by unfold Sm; omega) (by unfold Sm; omega), r_across (by unfold Sm; omega) (by unfold Sm; omega) hw.1, r_down (by unfold Sm; omega) (by unfold Sm; omega) hh.1]
  simp only [Option.bind_some, eb, beq_self_eq_true, Bool.and_self]
  rw [w64 (x := x + w) (by omega) (by omega)]
  by_cases c1 : h > 0
  · rw [if_pos c1]
    have e2 : vhas y (y + h) y = true := by unfold vhas; simp; omega
    by_cases c2 : at_ ≥ x
    · have e1 : vhas x (x + w) at_ = decide (at_ < x + w) := by unfold vhas; rw [decide_eq_true c2, Bool.true_and]
      rw [if_pos c2, e1, e2, Bool.and_true, if_pos (beq_self_eq_true _)]
    · have e1 : vhas x (x + w) at_ = false := by unfold vhas; simp; omega
      rw [if_neg c2, e1, Bool.false_and, if_pos (by decide)]
  · have e2 : vhas y (y + h) y = false := by unfold vhas; simp; omega
    rw [if_neg c1, e2, Bool.and_false, if_pos (by decide)]
theorem corners_j1 (x y w h at_ : Int) (full : Bool) (hf : full = (decide (w > 0) && decide (h > 0))) (hx : -1073741824 ≤ x ∧ x ≤ 1073741824) (hy : -1073741824 ≤ y ∧ y ≤ 1073741824) (hw : 0 ≤ w ∧ w ≤ 1073741824) (hh : 0 ≤ h ∧ h ≤ 1073741824) (ha : -1073741824 ≤ at_ ∧ at_ ≤ 1073741824) :
    valancelaw04_RectCorners.j1 2 x y w h at_ true full x y w h = some true := by
  rw [show (2 : Nat) = 1 + 1 from rfl]
  simp only [valancelaw04_RectCorners.j1, point_Of.f, Option.bind_some]
  rw [w64 (x := x + w) (by omega) (by omega), w64 (x := y + h) (by omega) (by omega), w64 (x := x + w - 1) (by omega) (by omega), w64 (x := y + h - 1) (by omega) (by omega)]
  rw [r_has (p := x) (q := y) (by unfold Sm; omega) (by unfold Sm; omega) (by unfold Sm; omega) (by unfold Sm; omega) hw.1 hh.1 (by unfold Sm; omega) (by unfold Sm; omega),
    r_has (p := x + w) (q := y) (by unfold Sm; omega) (by unfold Sm; omega) (by unfold Sm; omega) (by unfold Sm; omega) hw.1 hh.1 (by unfold Sm; omega) (by unfold Sm; omega),
    r_has (p := x) (q := y + h) (by unfold Sm; omega) (by unfold Sm; omega) (by unfold Sm; omega) (by unfold Sm; omega) hw.1 hh.1 (by unfold Sm; omega) (by unfold Sm; omega),
    r_has (p := x + w - 1) (q := y + h - 1) (by unfold Sm; omega) (by unfold Sm; omega) (by unfold Sm; omega) (by unfold Sm; omega) hw.1 hh.1 (by unfold Sm; omega) (by unfold Sm; omega)]
  simp only [Option.bind_some]
  have e1 : vhas x (x + w) x = decide (w > 0) := by unfold vhas; rw [decide_eq_true (Int.le_refl x), Bool.true_and]; exact decide_eq_decide.2 (by omega)
  have e2 : vhas y (y + h) y = decide (h > 0) := by unfold vhas; rw [decide_eq_true (Int.le_refl y), Bool.true_and]; exact decide_eq_decide.2 (by omega)
  have e3 : vhas x (x + w) (x + w) = false := by unfold vhas; simp
  have e4 : vhas y (y + h) (y + h) = false := by unfold vhas; simp
  have e5 : vhas x (x + w) (x + w - 1) = decide (w > 0) := by unfold vhas; rw [Bool.eq_iff_iff]; simp; omega
  have e6 : vhas y (y + h) (y + h - 1) = decide (h > 0) := by unfold vhas; rw [Bool.eq_iff_iff]; simp; omega
  rw [e1, e2, e3, e4, e5, e6, ← hf, Bool.false_and, Bool.and_false, if_pos (beq_self_eq_true _), if_neg Bool.false_ne_true, if_neg Bool.false_ne_true, beq_self_eq_true]
  exact corners_j2 x y w h at_ hx hy hw hh ha
theorem RectCorners : valancelaw04_RectCorners.Pure := by
  intro x y w h at_ _ _ _ _ _
  refine ⟨3, ?_⟩
  unfold valancelaw04_RectCorners.f
  simp only [works04, Option.bind_some, if_true]
  have out : ∀ (b : Bool), b = true → valancelaw04_RectCorners.j0 3 x y w h at_ true b = some true := by
    intro b hb; subst hb; rw [show (3 : Nat) = 2 + 1 from rfl]; simp only [valancelaw04_RectCorners.j0, if_true]
  by_cases c1 : x < -1073741824
  · rw [if_pos c1]; exact out _ rfl
  rw [if_neg c1]
  by_cases c2 : x > 1073741824
  · rw [if_pos c2]; exact out _ rfl
  rw [if_neg c2]
  by_cases c3 : y < -1073741824
  · rw [if_pos c3]; exact out _ rfl
  rw [if_neg c3]
  by_cases c4 : y > 1073741824
  · rw [if_pos c4]; exact out _ rfl
  rw [if_neg c4]
  by_cases c5 : w < 0
  · rw [if_pos c5]; exact out _ rfl
  rw [if_neg c5]
  by_cases c6 : w > 1073741824
  · rw [if_pos c6]; exact out _ rfl
  rw [if_neg c6]
  by_cases c7 : h < 0
  · rw [if_pos c7]; exact out _ rfl
  rw [if_neg c7]
  by_cases c8 : h > 1073741824
  · rw [if_pos c8]; exact out _ rfl
  rw [if_neg c8]
  by_cases c9 : at_ < -1073741824
  · rw [if_pos c9]; exact out _ rfl
  rw [if_neg c9]
  by_cases c10 : at_ > 1073741824
  · exact out _ (decide_eq_true c10)
  rw [decide_eq_false c10, show (3 : Nat) = 2 + 1 from rfl]
  simp only [valancelaw04_RectCorners.j0, Bool.false_eq_true, if_false]
  rw [r_of (by unfold Sm; omega) (by unfold Sm; omega) (by unfold Sm; omega) (by unfold Sm; omega) (by omega) (by omega)]
  simp only [Option.bind_some]
  by_cases c11 : w > 0
  · rw [if_pos c11]
    exact corners_j1 x y w h at_ _ (by rw [decide_eq_true c11, Bool.true_and]) (by omega) (by omega) (by omega) (by omega) (by omega)
  · rw [if_neg c11]
    exact corners_j1 x y w h at_ _ (by rw [decide_eq_false c11, Bool.false_and]) (by omega) (by omega) (by omega) (by omega) (by omega)
end Go.Proofs.Ytnmcefpnpfaklae.Pure
