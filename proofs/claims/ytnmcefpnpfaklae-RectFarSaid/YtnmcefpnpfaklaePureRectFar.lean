/- The law RectFar holds of the printed functions. -/
import Derived.Test.YtnmcefpnpfaklaePlainRect
import Derived.Test.YtnmcefpnpfaklaeVx0
import Derived.Test.YtnmcefpnpfaklaeVx2
import Derived.Test.YtnmcefpnpfaklaeVx6
import Derived.Test.YtnmcefpnpfaklaeVx13
import Derived.Test.YtnmcefpnpfaklaeVx14
import Derived.Test.YtnmcefpnpfaklaeVx15
import Derived.Test.YtnmcefpnpfaklaeVx16
import Derived.Test.YtnmcefpnpfaklaeVx17
import Derived.Test.YtnmcefpnpfaklaeVx23
namespace Go.Proofs.Ytnmcefpnpfaklae.Pure
open Go.RowKit Go.Proofs.Ytnmcefpnpfaklae.V Go.Proofs.Ytnmcefpnpfaklae.Flt Go.Proofs.Ytnmcefpnpfaklae.Plain Go.Proofs.YtnmcefpnpfaklaeW.PrintWords Go.Proofs.YtnmcefpnpfaklaeW.PrintLast Go.Proofs.YtnmcefpnpfaklaeW.PrintMore
theorem r_meet {x y w h a b c d p q r s : Int} (hx : Sm x) (hy : Sm y) (hw : Sm w) (hh : Sm h) (ha : Sm a) (hb : Sm b) (hc : Sm c) (hd : Sm d) (h0 : 0 ≤ w) (h1 : 0 ≤ h) (h2 : 0 ≤ c) (h3 : 0 ≤ d)
    (m1 : vmeet x (x + w) a (a + c) = (p, q)) (m2 : vmeet y (y + h) b (b + d) = (r, s)) (sp : Sm p) (sq : Sm q) (sr : Sm r) (ss : Sm s) :
    rect_Meet.f x y w h a b c d = if mn (mx (q - p) 0) (mx (s - r) 0) ≤ 0 then some (0, 0, 0, 0) else some (p, r, mx (q - p) 0, mx (s - r) 0) := by
  simp only [rect_Meet.f, r_across hx hw h0, r_down hy hh h1, r_across ha hc h2, r_down hb hd h3, Option.bind_some, span_Meet_eq, m1, m2, r_by sp sq sr ss, rect_sound.f, rect_empty.f, decide_eq_true_eq]
  split <;> rfl
theorem r_join {x y w h a b c d p q r s : Int} (hx : Sm x) (hy : Sm y) (hw : Sm w) (hh : Sm h) (ha : Sm a) (hb : Sm b) (hc : Sm c) (hd : Sm d) (h0 : 0 < w) (h1 : 0 < h) (h2 : 0 < c) (h3 : 0 < d)
    (m1 : vjoin x (x + w) a (a + c) = (p, q)) (m2 : vjoin y (y + h) b (b + d) = (r, s)) (sp : Sm p) (sq : Sm q) (sr : Sm r) (ss : Sm s) :
    rect_Join.f x y w h a b c d = some (p, r, mx (q - p) 0, mx (s - r) 0) := by
  have e1 : ¬ mn w h ≤ 0 := by unfold mn; split <;> omega
  have e2 : ¬ mn c d ≤ 0 := by unfold mn; split <;> omega
  simp only [rect_Join.f, rect_empty.f, e1, e2, decide_false, Bool.false_eq_true, if_false, r_across hx hw (Int.le_of_lt h0), r_down hy hh (Int.le_of_lt h1), r_across ha hc (Int.le_of_lt h2), r_down hb hd (Int.le_of_lt h3), Option.bind_some, span_Join_eq, m1, m2, r_by sp sq sr ss]
theorem mx_of {a b : Int} (h : b ≤ a) : mx a b = a := by unfold mx; split <;> omega
theorem mx_of' {a b : Int} (h : a ≤ b) : mx a b = b := by unfold mx; split <;> omega
theorem mn_of {a b : Int} (h : a ≤ b) : mn a b = a := by unfold mn; split <;> omega
theorem mn_of' {a b : Int} (h : b ≤ a) : mn a b = b := by unfold mn; split <;> omega
theorem far_end (x y w h g W H : Int) (hx : -1073741824 ≤ x ∧ x ≤ 1073741824) (hy : -1073741824 ≤ y ∧ y ≤ 1073741824) (hw : 1 ≤ w ∧ w ≤ 1073741824) (hh : 1 ≤ h ∧ h ≤ 1073741824) (hg : 0 ≤ g ∧ g ≤ 1073741824) (hW : 1 ≤ W ∧ W ≤ 1073741824) (hH : 1 ≤ H ∧ H ≤ 1073741824) :
    valancelaw04_RectFar.j0 1 g W H true false x y w h = some true := by
  obtain ⟨M, hM⟩ : ∃ M, M = mx h H := ⟨_, rfl⟩
  have bM : h ≤ M ∧ H ≤ M ∧ M ≤ 1073741824 ∧ (M = h ∨ M = H) := by subst hM; unfold mx; split <;> omega
  simp only [valancelaw04_RectFar.j0, Bool.false_eq_true, if_false]
  rw [w64 (x := x + w) (by omega) (by omega), w64 (x := x + w + g) (by omega) (by omega), w64 (x := w + g) (by omega) (by omega), w64 (x := w + g + W) (by omega) (by omega), ← hM]
  rw [r_of (x := x + w + g) (y := y) (w := W) (h := H) (by unfold Sm; omega) (by unfold Sm; omega) (by unfold Sm; omega) (by unfold Sm; omega) (by omega) (by omega)]
  simp only [Option.bind_some]
  rw [r_join (p := x) (q := x + w + g + W) (r := y) (s := y + M) (by unfold Sm; omega) (by unfold Sm; omega) (by unfold Sm; omega) (by unfold Sm; omega) (by unfold Sm; omega) (by unfold Sm; omega) (by unfold Sm; omega) (by unfold Sm; omega) (by omega) (by omega) (by omega) (by omega)
    (by unfold vjoin; rw [if_neg (by omega), if_neg (by omega), mn_of (by omega), mx_of' (by omega)])
    (by unfold vjoin; rw [if_neg (by omega), if_neg (by omega), mn_of (by omega), show mx (y + h) (y + H) = y + M by unfold mx; split <;> omega])
    (by unfold Sm; omega) (by unfold Sm; omega) (by unfold Sm; omega) (by unfold Sm; omega)]
  rw [show x + w + g + W - x = w + g + W by omega, show y + M - y = M by omega, mx0 (a := w + g + W) (by omega), mx0 (a := M) (by omega)]
  simp only [Option.bind_some, if_true]
  have em : vmeet y (y + h) y (y + H) = (y, y + mn h H) := by
    have : mn (y + h) (y + H) = y + mn h H := by unfold mn; (repeat' split) <;> omega
    have b : 1 ≤ mn h H := by unfold mn; split <;> omega
    unfold vmeet; rw [this, mx_of (Int.le_refl y), if_neg (by omega)]
  have bm : 1 ≤ mn h H ∧ mn h H ≤ 1073741824 := by unfold mn; split <;> omega
  rw [r_meet (p := 0) (q := 0) (r := y) (s := y + mn h H) (by unfold Sm; omega) (by unfold Sm; omega) (by unfold Sm; omega) (by unfold Sm; omega) (by unfold Sm; omega) (by unfold Sm; omega) (by unfold Sm; omega) (by unfold Sm; omega) (by omega) (by omega) (by omega) (by omega)
    (by unfold vmeet; rw [mn_of (by omega), mx_of' (by omega), if_pos (by omega)]) em (by unfold Sm; omega) (by unfold Sm; omega) (by unfold Sm; omega) (by unfold Sm; omega)]
  rw [if_pos (by rw [mn_of (by unfold mx; (repeat' split) <;> omega)]; decide)]
  simp only [Option.bind_some, beq_self_eq_true, Bool.and_self, if_true]
  rw [r_of (x := x) (y := y) (w := w + g + W) (h := M) (by unfold Sm; omega) (by unfold Sm; omega) (by unfold Sm; omega) (by unfold Sm; omega) (by omega) (by omega)]
  simp only [Option.bind_some, beq_self_eq_true, Bool.and_self, if_true]
  rw [r_meet (x := x) (y := y) (w := w + g + W) (h := M) (a := x) (b := y) (c := w) (d := h) (p := x) (q := x + w) (r := y) (s := y + h) (by unfold Sm; omega) (by unfold Sm; omega) (by unfold Sm; omega) (by unfold Sm; omega) (by unfold Sm; omega) (by unfold Sm; omega) (by unfold Sm; omega) (by unfold Sm; omega) (by omega) (by omega) (by omega) (by omega)
    (by unfold vmeet; rw [mn_of' (by omega), mx_of (by omega), if_neg (by omega)]) (by unfold vmeet; rw [mn_of' (by omega), mx_of (by omega), if_neg (by omega)]) (by unfold Sm; omega) (by unfold Sm; omega) (by unfold Sm; omega) (by unfold Sm; omega)]
  rw [show x + w - x = w by omega, show y + h - y = h by omega, mx0 (a := w) (by omega), mx0 (a := h) (by omega), if_neg (by unfold mn; split <;> omega)]
  simp only [Option.bind_some, beq_self_eq_true, Bool.and_self, if_true]
  rw [r_meet (x := x) (y := y) (w := w + g + W) (h := M) (a := x + w + g) (b := y) (c := W) (d := H) (p := x + w + g) (q := x + w + g + W) (r := y) (s := y + H) (by unfold Sm; omega) (by unfold Sm; omega) (by unfold Sm; omega) (by unfold Sm; omega) (by unfold Sm; omega) (by unfold Sm; omega) (by unfold Sm; omega) (by unfold Sm; omega) (by omega) (by omega) (by omega) (by omega)
    (by unfold vmeet; rw [mn_of' (by omega), mx_of' (by omega), if_neg (by omega)]) (by unfold vmeet; rw [mn_of' (by omega), mx_of (by omega), if_neg (by omega)]) (by unfold Sm; omega) (by unfold Sm; omega) (by unfold Sm; omega) (by unfold Sm; omega)]
  rw [show x + w + g + W - (x + w + g) = W by omega, show y + H - y = H by omega, mx0 (a := W) (by omega), mx0 (a := H) (by omega), if_neg (by unfold mn; split <;> omega)]
  simp only [Option.bind_some, beq_self_eq_true, Bool.and_self]
theorem RectFar : valancelaw04_RectFar.Pure := by
  intro x y w h g W H _ _ _ _ _ _ _
  refine ⟨1, ?_⟩
  unfold valancelaw04_RectFar.f
  simp only [works04, Option.bind_some, if_true, small04]
  have out : ∀ (b : Bool), b = true → valancelaw04_RectFar.j0 1 g W H true b x y w h = some true := by
    intro b hb; subst hb; simp only [valancelaw04_RectFar.j0, if_true]
  by_cases c0 : (decide (-1073741824 ≤ x) && decide (x ≤ 1073741824) && decide (-1073741824 ≤ y) && decide (y ≤ 1073741824) && decide (0 ≤ w) && decide (w ≤ 1073741824) && decide (0 ≤ h) && decide (h ≤ 1073741824)) = true
  · rw [if_pos c0]
    simp only [Bool.and_eq_true, decide_eq_true_eq] at c0
    by_cases c1 : w = 0
    · rw [if_pos c1]; exact out _ rfl
    rw [if_neg c1]
    by_cases c2 : h = 0
    · rw [if_pos c2]; exact out _ rfl
    rw [if_neg c2]
    by_cases c3 : g < 0
    · rw [if_pos c3]; exact out _ rfl
    rw [if_neg c3]
    by_cases c4 : g > 1073741824
    · rw [if_pos c4]; exact out _ rfl
    rw [if_neg c4]
    by_cases c5 : W < 1
    · rw [if_pos c5]; exact out _ rfl
    rw [if_neg c5]
    by_cases c6 : W > 1073741824
    · rw [if_pos c6]; exact out _ rfl
    rw [if_neg c6]
    by_cases c7 : H < 1
    · rw [if_pos c7]; exact out _ rfl
    rw [if_neg c7]
    by_cases c8 : H > 1073741824
    · exact out _ (decide_eq_true c8)
    rw [decide_eq_false c8]
    exact far_end x y w h g W H (by omega) (by omega) (by omega) (by omega) (by omega) (by omega) (by omega)
  · rw [if_neg c0]; exact out _ rfl
end Go.Proofs.Ytnmcefpnpfaklae.Pure
