/- The law MarginRoom of layer 6 holds of the printed functions, for all whole numbers of 64 bits, lengths and lists of them. -/
import Derived.Test.YtnmcefpnpfaklacVx1
import Derived.Test.YtnmcefpnpfaklacVx17
import Derived.Test.YtnmcefpnpfaklacVx18
import Derived.Test.YtnmcefpnpfaklacVx23
import Derived.Test.YtnmcefpnpfaklacVx34
set_option linter.unusedVariables false
set_option linter.unusedSimpArgs false
namespace Go.Proofs.Ytnmcefpnpfaklac.Pure
open Go.RowKit Go.Proofs.Ytnmcefpnpfaklac.V Go.Proofs.YtnmcefpnpfaklacW.PrintWords Go.Proofs.YtnmcefpnpfaklacW.PrintLast Go.Proofs.YtnmcefpnpfaklacW.PrintMore

theorem sub_in {a b : Int} (h1 : -1099511627776 ≤ a) (h2 : a ≤ 1099511627776) (h3 : -1099511627776 ≤ b) (h4 : b ≤ 1099511627776) (h5 : -1099511627776 ≤ a - b) (h6 : a - b ≤ 1099511627776) : vsub a b = a - b := by
  unfold vsub; rw [vcut_id h1 h2, vcut_id h3 h4, vcut_id h5 h6]
theorem auto_parts {k n base : Int} (h : vfixed k base = false) : vof k n base 0 = 0 := by
  unfold vfixed at h
  simp at h
  unfold vof
  rw [if_neg h.1, if_neg (by omega)]; rfl
theorem room_end (q : Nat) (hq : 2 ≤ q) (room size k1 n1 k2 n2 base : Int) (h1 : 0 ≤ room) (h2 : room ≤ 1073741824) (h3 : 0 ≤ size) (h4 : size ≤ 1073741824)
    (h5 : -1073741824 ≤ vof k1 n1 base 0) (h6 : vof k1 n1 base 0 ≤ 1073741824) (h7 : -1073741824 ≤ vof k2 n2 base 0) (h8 : vof k2 n2 base 0 ≤ 1073741824) (t : Bool)
    (ht : t = (vfixed k1 base && vfixed k2 base)) :
    valancelaw06_MarginRoom.j1 q room size base true (vauto room size k1 n1 k2 n2 base).1 (vauto room size k1 n1 k2 n2 base).2 (vof k1 n1 base 0) (vof k2 n2 base 0) t k1 n1 k2 n2 = some true := by
  obtain ⟨q, rfl⟩ : ∃ m, q = m + 2 := ⟨q - 2, by omega⟩
  simp only [valancelaw06_MarginRoom.j1, valancelaw06_MarginRoom.j2, length_Fixed_eq, Option.bind_some, if_true]
  have hl : vsub (vsub (vsub room size) (vof k1 n1 base 0)) (vof k2 n2 base 0) = room - size - vof k1 n1 base 0 - vof k2 n2 base 0 := by
    rw [sub_in (a := room) (b := size) (by omega) (by omega) (by omega) (by omega) (by omega) (by omega), sub_in (a := room - size) (by omega) (by omega) (by omega) (by omega) (by omega) (by omega), sub_in (by omega) (by omega) (by omega) (by omega) (by omega) (by omega)]
  have a1 : vfixed k1 base = false → vof k1 n1 base 0 = 0 := auto_parts
  have a2 : vfixed k2 base = false → vof k2 n2 base 0 = 0 := auto_parts
  unfold vauto
  simp only [hl]
  generalize vof k1 n1 base 0 = x at *
  generalize vof k2 n2 base 0 = y at *
  rw [w64 (x := size + x) (by omega) (by omega), w64 (x := size + x + y) (by omega) (by omega)]
  subst ht
  by_cases c : room - size - x - y ≤ 0
  · have c' : size + x + y ≥ room := by omega
    simp only [c, c', if_true, decide_true]
    cases vfixed k1 base <;> cases vfixed k2 base <;> simp
  · have c' : ¬ size + x + y ≥ room := by omega
    simp only [c, c', if_false, decide_false]
    cases e1 : vfixed k1 base <;> cases e2 : vfixed k2 base
    · have z1 := a1 e1
      have z2 := a2 e2
      subst z1
      subst z2
      simp only [Bool.false_eq_true, if_false, Bool.false_and, Bool.and_false]
      rw [w64 (x := size + (room - size - 0 - 0) / 2) (by omega) (by omega), w64 (x := size + (room - size - 0 - 0) / 2 + (room - size - 0 - 0 - (room - size - 0 - 0) / 2)) (by omega) (by omega), w64 (x := room - size - 0 - 0 - (room - size - 0 - 0) / 2 - (room - size - 0 - 0) / 2) (by omega) (by omega)]
      have m0 : mn 0 0 = 0 := by decide
      rw [m0, if_pos (by omega), if_pos (by omega), if_pos (by omega), if_pos (by omega)]
      simp only [Option.some.injEq, decide_eq_true_eq]; omega
    · have z1 := a1 e1
      subst z1
      simp only [Bool.false_eq_true, if_false, if_true, Bool.false_and, Bool.and_false]
      rw [w64 (x := size + (room - size - 0 - y)) (by omega) (by omega), w64 (x := size + (room - size - 0 - y) + y) (by omega) (by omega)]
      have m0 : mn 0 0 = 0 := by decide
      have my : mn y 0 ≤ y := by unfold mn; split <;> omega
      rw [m0, if_pos (by omega), if_pos (by omega)]
      simp only [Option.some.injEq, decide_eq_true_eq]; omega
    · have z2 := a2 e2
      subst z2
      simp only [Bool.false_eq_true, if_false, if_true, Bool.false_and, Bool.and_false]
      rw [w64 (x := size + x) (by omega) (by omega), w64 (x := size + x + (room - size - x - 0)) (by omega) (by omega)]
      have m0 : mn 0 0 = 0 := by decide
      have my : mn x 0 ≤ x := by unfold mn; split <;> omega
      rw [m0, if_pos (by omega), if_pos (by omega)]
      simp only [Option.some.injEq, decide_eq_true_eq]; omega
    · simp
theorem MarginRoom : valancelaw06_MarginRoom.Pure := by
  intro room size k1 n1 k2 n2 base _ _ _ _ _ _ _
  refine ⟨50, ?_⟩
  unfold valancelaw06_MarginRoom.f
  rw [works06_eq 50 (by omega)]
  simp only [Option.bind_some, if_true, margin_Auto_eq, length_Of_eq]
  have far : ∀ a b x y, valancelaw06_MarginRoom.j0 50 room size base true a b x y true k1 n1 k2 n2 = some true := by
    intro a b x y; simp only [valancelaw06_MarginRoom.j0, if_true]
  by_cases c1 : room < 0
  · simp only [c1, if_true]; exact far _ _ _ _
  by_cases c2 : room > 1073741824
  · simp only [c1, c2, if_true, if_false]; exact far _ _ _ _
  by_cases c3 : size < 0
  · simp only [c1, c2, c3, if_true, if_false]; exact far _ _ _ _
  by_cases c4 : size > 1073741824
  · simp only [c1, c2, c3, c4, if_true, if_false]; exact far _ _ _ _
  by_cases c5 : vof k1 n1 base 0 < -1073741824
  · simp only [c1, c2, c3, c4, c5, if_true, if_false]; exact far _ _ _ _
  by_cases c6 : vof k1 n1 base 0 > 1073741824
  · simp only [c1, c2, c3, c4, c5, c6, if_true, if_false]; exact far _ _ _ _
  by_cases c7 : vof k2 n2 base 0 < -1073741824
  · simp only [c1, c2, c3, c4, c5, c6, c7, if_true, if_false]; exact far _ _ _ _
  by_cases c8 : vof k2 n2 base 0 > 1073741824
  · simp only [c1, c2, c3, c4, c5, c6, c7, c8, if_true, if_false, decide_true]; exact far _ _ _ _
  simp only [c1, c2, c3, c4, c5, c6, c7, c8, if_false, decide_false, valancelaw06_MarginRoom.j0, Bool.false_eq_true, length_Fixed_eq, Option.bind_some]
  split
  · rename_i h
    exact room_end 49 (by omega) room size k1 n1 k2 n2 base (by omega) (by omega) (by omega) (by omega) (by omega) (by omega) (by omega) (by omega) _ (by rw [h]; simp)
  · rename_i h
    simp only [Bool.not_eq_true] at h
    exact room_end 49 (by omega) room size k1 n1 k2 n2 base (by omega) (by omega) (by omega) (by omega) (by omega) (by omega) (by omega) (by omega) _ (by rw [h]; simp)

end Go.Proofs.Ytnmcefpnpfaklac.Pure
