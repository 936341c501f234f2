/- What rectangles come to, where all numbers are small: plain words. -/
import Derived.Test.YtnmcefpnpfaklaeVx0
import Derived.Test.YtnmcefpnpfaklaeVx2
import Derived.Test.YtnmcefpnpfaklaeVx3
import Derived.Test.YtnmcefpnpfaklaeVx4
import Derived.Test.YtnmcefpnpfaklaeVx5
import Derived.Test.YtnmcefpnpfaklaeVx6
import Derived.Test.YtnmcefpnpfaklaeVx7
import Derived.Test.YtnmcefpnpfaklaeVx8
import Derived.Test.YtnmcefpnpfaklaeVx9
import Derived.Test.YtnmcefpnpfaklaeVx10
import Derived.Test.YtnmcefpnpfaklaeVx11
import Derived.Test.YtnmcefpnpfaklaeVx12
import Derived.Test.YtnmcefpnpfaklaeVx19
import Derived.Test.YtnmcefpnpfaklaeVx20
namespace Go.Proofs.Ytnmcefpnpfaklae.Plain
open Go.RowKit Go.Proofs.Ytnmcefpnpfaklae.V Go.Proofs.Ytnmcefpnpfaklae.Flt Go.Proofs.YtnmcefpnpfaklaeW.PrintWords Go.Proofs.YtnmcefpnpfaklaeW.PrintLast Go.Proofs.YtnmcefpnpfaklaeW.PrintMore
/-- A small number. -/
def Sm (n : Int) : Prop := -68719476736 ≤ n ∧ n ≤ 68719476736
theorem sm_cut {n : Int} (h : Sm n) : vcut n = n := vcut_id (by unfold Sm at h; omega) (by unfold Sm at h; omega)
theorem add_s {a b : Int} (h1 : Sm a) (h2 : Sm b) : vadd a b = a + b := by
  unfold vadd; rw [sm_cut h1, sm_cut h2]; unfold Sm at h1 h2; exact vcut_id (by omega) (by omega)
theorem sub_s {a b : Int} (h1 : Sm a) (h2 : Sm b) : vsub a b = a - b := by
  unfold vsub; rw [sm_cut h1, sm_cut h2]; unfold Sm at h1 h2; exact vcut_id (by omega) (by omega)
theorem mx0 {a : Int} (h : 0 ≤ a) : mx a 0 = a := by unfold mx; rw [if_neg (by omega)]
theorem size_s {a b : Int} (h1 : Sm a) (h2 : Sm b) : vsize a b = mx (b - a) 0 := by unfold vsize; rw [sub_s h2 h1]
theorem r_of {x y w h : Int} (hx : Sm x) (hy : Sm y) (hw : Sm w) (hh : Sm h) (h0 : 0 ≤ w) (h1 : 0 ≤ h) : rect_Of.f x y w h = some (x, y, w, h) := by
  simp only [rect_Of.f, rect_size.f, fix_Cut_eq, Option.bind_some, sm_cut hx, sm_cut hy, sm_cut hw, sm_cut hh, mx0 h0, mx0 h1]
theorem r_across {x y w h : Int} (hx : Sm x) (hw : Sm w) (h0 : 0 ≤ w) : rect_Across.f x y w h = some (x, x + w) := by
  simp only [rect_Across.f, span_Of_eq, Option.bind_some, sm_cut hx, mx0 h0, add_s hx hw]
theorem r_down {x y w h : Int} (hx : Sm y) (hw : Sm h) (h0 : 0 ≤ h) : rect_Down.f x y w h = some (y, y + h) := by
  simp only [rect_Down.f, span_Of_eq, Option.bind_some, sm_cut hx, mx0 h0, add_s hx hw]
theorem r_by {a b c d : Int} (ha : Sm a) (hb : Sm b) (hc : Sm c) (hd : Sm d) : rect_By.f a b c d = some (a, c, mx (b - a) 0, mx (d - c) 0) := by
  simp only [rect_By.f, span_Size_eq, Option.bind_some, size_s ha hb, size_s hc hd]
theorem r_has {x y w h p q : Int} (hx : Sm x) (hy : Sm y) (hw : Sm w) (hh : Sm h) (h0 : 0 ≤ w) (h1 : 0 ≤ h) (hp : Sm p) (hq : Sm q) : rect_Has.f x y w h (p, q) = some (vhas x (x + w) p && vhas y (y + h) q) := by
  simp only [rect_Has.f, r_across hx hw h0, r_down hy hh h1, point_X.f, point_Y.f, Option.bind_some, span_Has_eq, sm_cut hp, sm_cut hq]
  cases vhas x (x + w) p <;> simp
theorem r_in {x y w h a b c d : Int} (hx : Sm x) (hy : Sm y) (hw : Sm w) (hh : Sm h) (ha : Sm a) (hb : Sm b) (hc : Sm c) (hd : Sm d) (h0 : 0 ≤ w) (h1 : 0 ≤ h) (h2 : 0 ≤ c) (h3 : 0 ≤ d)
    (e : mn w h ≤ 0 ∨ (a ≤ x ∧ x + w ≤ a + c ∧ b ≤ y ∧ y + h ≤ b + d)) : rect_In.f x y w h a b c d = some true := by
  simp only [rect_In.f, rect_empty.f, r_across hx hw h0, r_down hy hh h1, r_across ha hc h2, r_down hb hd h3, Option.bind_some, span_In_eq]
  by_cases g : mn w h ≤ 0
  · simp [g]
  · have e := e.resolve_left g
    have e1 : vin x (x + w) a (a + c) = true := by unfold vin; simp; omega
    have e2 : vin y (y + h) b (b + d) = true := by unfold vin; simp; omega
    simp [g, e1, e2]
theorem works04 : valancelaw04_works.f = some true := by decide +kernel
theorem small04 {x y w h : Int} : valancelaw04_small.f x y w h = some (decide (-1073741824 ≤ x) && decide (x ≤ 1073741824) && decide (-1073741824 ≤ y) && decide (y ≤ 1073741824) && decide (0 ≤ w) && decide (w ≤ 1073741824) && decide (0 ≤ h) && decide (h ≤ 1073741824)) := by
  unfold valancelaw04_small.f
  (repeat' split) <;> simp_all <;> omega
theorem r_inset {x y w h s0 s1 s2 s3 : Int} (hx : Sm x) (hy : Sm y) (hw : Sm w) (hh : Sm h) (h0 : Sm s0) (h1 : Sm s1) (h2 : Sm s2) (h3 : Sm s3) (hw3 : Sm (w - s3)) (hh0 : Sm (h - s0)) :
    rect_Inset.f x y w h s0 s1 s2 s3 = some (x + s3, y + s0, mx (w - s3 - s1) 0, mx (h - s0 - s2) 0) := by
  simp only [rect_Inset.f, rect_side.f, fix_Add_eq, fix_Sub_eq, Option.bind_some, add_s hx h3, add_s hy h0, sub_s hw h3, sub_s hh h0, sub_s hw3 h1, sub_s hh0 h2]
end Go.Proofs.Ytnmcefpnpfaklae.Plain
