/- The law RectSides holds of the printed functions. -/
import Derived.Test.YtnmcefpnpfaklaePlainRect
import Derived.Test.YtnmcefpnpfaklaeVx0
import Derived.Test.YtnmcefpnpfaklaeVx2
import Derived.Test.YtnmcefpnpfaklaeVx5
import Derived.Test.YtnmcefpnpfaklaeVx8
import Derived.Test.YtnmcefpnpfaklaeVx21
namespace Go.Proofs.Ytnmcefpnpfaklae.Pure
open Go.RowKit Go.Proofs.Ytnmcefpnpfaklae.V Go.Proofs.Ytnmcefpnpfaklae.Flt Go.Proofs.Ytnmcefpnpfaklae.Plain Go.Proofs.YtnmcefpnpfaklaeW.PrintWords Go.Proofs.YtnmcefpnpfaklaeW.PrintLast Go.Proofs.YtnmcefpnpfaklaeW.PrintMore
theorem r_outset {x y w h s0 s1 s2 s3 : Int} (hx : Sm x) (hy : Sm y) (hw : Sm w) (hh : Sm h) (h0 : Sm s0) (h1 : Sm s1) (h2 : Sm s2) (h3 : Sm s3) (hw3 : Sm (w + s3)) (hh0 : Sm (h + s0)) (p1 : 0 ≤ w + s3 + s1) (p2 : 0 ≤ h + s0 + s2) :
    rect_Outset.f x y w h s0 s1 s2 s3 = some (x - s3, y - s0, w + s3 + s1, h + s0 + s2) := by
  unfold rect_Outset.f
  rw [sm_cut h0, sm_cut h1, sm_cut h2, sm_cut h3, r_inset hx hy hw hh (by unfold Sm at *; omega) (by unfold Sm at *; omega) (by unfold Sm at *; omega) (by unfold Sm at *; omega) (by unfold Sm at *; omega) (by unfold Sm at *; omega)]
  rw [show x + -s3 = x - s3 by omega, show y + -s0 = y - s0 by omega, show w - -s3 - -s1 = w + s3 + s1 by omega, show h - -s0 - -s2 = h + s0 + s2 by omega, mx0 p1, mx0 p2]
theorem sides_end (k : Nat) {x y w h s0 s1 s2 s3 : Int} (hx : -1073741824 ≤ x ∧ x ≤ 1073741824) (hy : -1073741824 ≤ y ∧ y ≤ 1073741824) (hw : 0 ≤ w ∧ w ≤ 1073741824) (hh : 0 ≤ h ∧ h ≤ 1073741824) (h0 : 0 ≤ s0 ∧ s0 ≤ 1073741824) (h1 : 0 ≤ s1 ∧ s1 ≤ 1073741824) (h2 : 0 ≤ s2 ∧ s2 ≤ 1073741824) (h3 : 0 ≤ s3 ∧ s3 ≤ 1073741824) :
    valancelaw04_RectSides.l0 (k + 1) true 4 x y w h s0 s1 s2 s3 = some true := by
  simp only [valancelaw04_RectSides.l0]
  have i1 := r_inset (x := x) (y := y) (w := w) (h := h) (s0 := s0) (s1 := s1) (s2 := s2) (s3 := s3) (by unfold Sm; omega) (by unfold Sm; omega) (by unfold Sm; omega) (by unfold Sm; omega) (by unfold Sm; omega) (by unfold Sm; omega) (by unfold Sm; omega) (by unfold Sm; omega) (by unfold Sm; omega) (by unfold Sm; omega)
  have i2 := r_outset (x := x) (y := y) (w := w) (h := h) (s0 := s0) (s1 := s1) (s2 := s2) (s3 := s3) (by unfold Sm; omega) (by unfold Sm; omega) (by unfold Sm; omega) (by unfold Sm; omega) (by unfold Sm; omega) (by unfold Sm; omega) (by unfold Sm; omega) (by unfold Sm; omega) (by unfold Sm; omega) (by unfold Sm; omega) (by omega) (by omega)
  rw [if_neg (by omega), i1]
  simp only [Option.bind_some]
  rw [i2]
  simp only [Option.bind_some, if_true]
  have b1 : 0 ≤ mx (w - s3 - s1) 0 ∧ mx (w - s3 - s1) 0 ≤ 1073741824 := by unfold mx; split <;> omega
  have b2 : 0 ≤ mx (h - s0 - s2) 0 ∧ mx (h - s0 - s2) 0 ≤ 1073741824 := by unfold mx; split <;> omega
  rw [if_pos b1.1, if_pos b2.1]
  have e1 : rect_In.f (x + s3) (y + s0) (mx (w - s3 - s1) 0) (mx (h - s0 - s2) 0) x y w h = some true := by
    refine r_in (by unfold Sm; omega) (by unfold Sm; omega) (by unfold Sm; omega) (by unfold Sm; omega) (by unfold Sm; omega) (by unfold Sm; omega) (by unfold Sm; omega) (by unfold Sm; omega) b1.1 b2.1 hw.1 hh.1 ?_
    by_cases g : mn (mx (w - s3 - s1) 0) (mx (h - s0 - s2) 0) ≤ 0
    · exact .inl g
    · refine .inr ?_
      have g1 : 0 < mx (w - s3 - s1) 0 := by unfold mn at g; split at g <;> omega
      have g2 : 0 < mx (h - s0 - s2) 0 := by unfold mn at g; split at g <;> omega
      have g3 : mx (w - s3 - s1) 0 = w - s3 - s1 := by unfold mx at g1 ⊢; split at g1 <;> simp_all <;> omega
      have g4 : mx (h - s0 - s2) 0 = h - s0 - s2 := by unfold mx at g2 ⊢; split at g2 <;> simp_all <;> omega
      omega
  have e2 : rect_In.f x y w h (x - s3) (y - s0) (w + s3 + s1) (h + s0 + s2) = some true := by
    refine r_in (by unfold Sm; omega) (by unfold Sm; omega) (by unfold Sm; omega) (by unfold Sm; omega) (by unfold Sm; omega) (by unfold Sm; omega) (by unfold Sm; omega) (by unfold Sm; omega) hw.1 hh.1 (by omega) (by omega) (.inr (by omega))
  rw [e1]
  simp only [Option.bind_some, if_true]
  rw [e2]
  simp only [Option.bind_some, if_true]
  rw [w64 (x := w - s1) (by omega) (by omega), w64 (x := w - s1 - s3) (by omega) (by omega), w64 (x := h + s0) (by omega) (by omega), w64 (x := h + s0 + s2) (by omega) (by omega), w64 (x := x + s3) (by omega) (by omega), w64 (x := y - s0) (by omega) (by omega)]
  rw [if_pos (by rw [show w - s3 - s1 = w - s1 - s3 by omega]), if_pos rfl, if_pos rfl, beq_self_eq_true]
theorem RectSides : valancelaw04_RectSides.Pure := by
  intro x y w h s0 s1 s2 s3 _ _ _ _ _ _ _ _
  refine ⟨5, ?_⟩
  unfold valancelaw04_RectSides.f
  simp only [works04, Option.bind_some, if_true, small04]
  by_cases g : (decide (-1073741824 ≤ x) && decide (x ≤ 1073741824) && decide (-1073741824 ≤ y) && decide (y ≤ 1073741824) && decide (0 ≤ w) && decide (w ≤ 1073741824) && decide (0 ≤ h) && decide (h ≤ 1073741824)) = true
  · rw [if_pos g]
    simp only [Bool.and_eq_true, decide_eq_true_eq] at g
    by_cases a0 : 0 ≤ s0 ∧ s0 ≤ 1073741824
    · by_cases a1 : 0 ≤ s1 ∧ s1 ≤ 1073741824
      · by_cases a2 : 0 ≤ s2 ∧ s2 ≤ 1073741824
        · by_cases a3 : 0 ≤ s3 ∧ s3 ≤ 1073741824
          · have e := sides_end 0 (x := x) (y := y) (w := w) (h := h) (by omega) (by omega) (by omega) (by omega) a0 a1 a2 a3
            rw [show (5 : Nat) = 4 + 1 from rfl, valancelaw04_RectSides.l0, if_pos (by omega), if_pos rfl, if_neg (by omega), if_neg (by omega), w64 (x := 0 + 1) (by omega) (by omega), show (0 : Int) + 1 = 1 by omega,
              show (4 : Nat) = 3 + 1 from rfl, valancelaw04_RectSides.l0, if_pos (by omega), if_neg (by omega), if_pos rfl, if_neg (by omega), if_neg (by omega), w64 (x := 1 + 1) (by omega) (by omega), show (1 : Int) + 1 = 2 by omega,
              show (3 : Nat) = 2 + 1 from rfl, valancelaw04_RectSides.l0, if_pos (by omega), if_neg (by omega), if_neg (by omega), if_pos rfl, if_neg (by omega), if_neg (by omega), w64 (x := 2 + 1) (by omega) (by omega), show (2 : Int) + 1 = 3 by omega,
              show (2 : Nat) = 1 + 1 from rfl, valancelaw04_RectSides.l0, if_pos (by omega), if_neg (by omega), if_neg (by omega), if_neg (by omega), if_pos rfl, if_neg (by omega), if_neg (by omega), w64 (x := 3 + 1) (by omega) (by omega), show (3 : Int) + 1 = 4 by omega]
            exact e
          · rw [show (5 : Nat) = 4 + 1 from rfl, valancelaw04_RectSides.l0, if_pos (by omega), if_pos rfl, if_neg (by omega), if_neg (by omega), w64 (x := 0 + 1) (by omega) (by omega), show (0 : Int) + 1 = 1 by omega,
              show (4 : Nat) = 3 + 1 from rfl, valancelaw04_RectSides.l0, if_pos (by omega), if_neg (by omega), if_pos rfl, if_neg (by omega), if_neg (by omega), w64 (x := 1 + 1) (by omega) (by omega), show (1 : Int) + 1 = 2 by omega,
              show (3 : Nat) = 2 + 1 from rfl, valancelaw04_RectSides.l0, if_pos (by omega), if_neg (by omega), if_neg (by omega), if_pos rfl, if_neg (by omega), if_neg (by omega), w64 (x := 2 + 1) (by omega) (by omega), show (2 : Int) + 1 = 3 by omega,
              show (2 : Nat) = 1 + 1 from rfl, valancelaw04_RectSides.l0, if_pos (by omega), if_neg (by omega), if_neg (by omega), if_neg (by omega), if_pos rfl]
            split
            · rfl
            · rw [if_pos (by omega)]
        · rw [show (5 : Nat) = 4 + 1 from rfl, valancelaw04_RectSides.l0, if_pos (by omega), if_pos rfl, if_neg (by omega), if_neg (by omega), w64 (x := 0 + 1) (by omega) (by omega), show (0 : Int) + 1 = 1 by omega,
              show (4 : Nat) = 3 + 1 from rfl, valancelaw04_RectSides.l0, if_pos (by omega), if_neg (by omega), if_pos rfl, if_neg (by omega), if_neg (by omega), w64 (x := 1 + 1) (by omega) (by omega), show (1 : Int) + 1 = 2 by omega,
              show (3 : Nat) = 2 + 1 from rfl, valancelaw04_RectSides.l0, if_pos (by omega), if_neg (by omega), if_neg (by omega), if_pos rfl]
          split
          · rfl
          · rw [if_pos (by omega)]
      · rw [show (5 : Nat) = 4 + 1 from rfl, valancelaw04_RectSides.l0, if_pos (by omega), if_pos rfl, if_neg (by omega), if_neg (by omega), w64 (x := 0 + 1) (by omega) (by omega), show (0 : Int) + 1 = 1 by omega,
              show (4 : Nat) = 3 + 1 from rfl, valancelaw04_RectSides.l0, if_pos (by omega), if_neg (by omega), if_pos rfl]
        split
        · rfl
        · rw [if_pos (by omega)]
    · rw [show (5 : Nat) = 4 + 1 from rfl, valancelaw04_RectSides.l0, if_pos (by omega), if_pos rfl]
      split
      · rfl
      · rw [if_pos (by omega)]
  · rw [if_neg g]
end Go.Proofs.Ytnmcefpnpfaklae.Pure
