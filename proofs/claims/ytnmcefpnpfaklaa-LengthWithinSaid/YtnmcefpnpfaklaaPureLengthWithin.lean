/- The law LengthWithin of layer 5 holds of the printed functions, for all lengths and whole numbers of 64 bits. -/
import Derived.Test.YtnmcefpnpfaklaaVx2
import Derived.Test.YtnmcefpnpfaklaaVx3
import Derived.Test.YtnmcefpnpfaklaaVx5
import Derived.Test.YtnmcefpnpfaklaaVx8
import Derived.Test.YtnmcefpnpfaklaaVx10
import Derived.Test.YtnmcefpnpfaklaaVx21
set_option linter.unusedVariables false
set_option linter.unusedSimpArgs false
namespace Go.Proofs.Ytnmcefpnpfaklaa.Pure
open Go.RowKit Go.Proofs.Ytnmcefpnpfaklaa.V Go.Proofs.YtnmcefpnpfaklaaW.PrintWords Go.Proofs.YtnmcefpnpfaklaaW.PrintLast Go.Proofs.YtnmcefpnpfaklaaW.PrintMore

theorem within_j1 (k : Nat) (hk : 1 ≤ k) (n m k1 n1 k2 n2 b : Int) : valancelaw05_LengthWithin.j1 k n m b true (vlimit n k1 n1 k2 n2 b) false k1 n1 k2 n2 = some true := by
  obtain ⟨k, rfl⟩ : ∃ m, k = m + 1 := ⟨k - 1, by omega⟩
  simp only [valancelaw05_LengthWithin.j1, length_Limit_eq, Option.bind_some, if_true, Bool.false_eq_true, if_false]
  have c1 := vof_bd k1 n1 b (-1099511627776)
  have c2 := vof_bd k2 n2 b 1099511627776
  have c3 := vcut_bd n
  unfold vlimit vclamp
  rw [vcut_id c1.1 c1.2, vcut_id c2.1 c2.2]
  generalize vof k1 n1 b (-1099511627776) = x at *
  generalize vof k2 n2 b 1099511627776 = y at *
  have e : vcut (mx (mx x (mn (vcut n) y)) 0) = mx (mx x (mn (vcut n) y)) 0 := vcut_id (by unfold mx mn; (repeat' split) <;> omega) (by unfold mx mn; (repeat' split) <;> omega)
  rw [e, if_pos (by unfold mx mn; (repeat' split) <;> omega)]
  by_cases h : n > m
  · rw [if_pos h]
  · rw [if_neg h]
    have := vcut_mono (a := n) (b := m) (by omega)
    simp only [Option.some.injEq, decide_eq_true_eq]
    unfold mx mn; (repeat' split) <;> omega
theorem LengthWithin : valancelaw05_LengthWithin.Pure := by
  intro n m k1 n1 k2 n2 b _ _ _ _ _ _ _
  refine ⟨9, ?_⟩
  unfold valancelaw05_LengthWithin.f
  simp only [works05_eq, length_Limit_eq, length_Fixed_eq, length_Of_eq, Option.bind_some, if_true]
  have c1 := vof_bd k1 n1 b (-1099511627776)
  have c2 := vof_bd k2 n2 b 1099511627776
  have c3 := vcut_bd n
  have hv : vlimit n k1 n1 k2 n2 b = mx (mx (vof k1 n1 b (-1099511627776)) (mn (vcut n) (vof k2 n2 b 1099511627776))) 0 := by
    unfold vlimit vclamp; rw [vcut_id c1.1 c1.2, vcut_id c2.1 c2.2]
  have key : ∀ fl : Int, (fl = 0 ∨ fl = mx (vof k1 n1 b (-1099511627776)) 0) → (vfixed k1 b = true → fl = mx (vof k1 n1 b (-1099511627776)) 0) → (vfixed k1 b = false → vof k1 n1 b (-1099511627776) = -1099511627776) → valancelaw05_LengthWithin.j0 9 n m b true (vlimit n k1 n1 k2 n2 b) fl k1 n1 k2 n2 = some true := by
    intro fl hf hf2 hf3
    simp only [valancelaw05_LengthWithin.j0]
    have p1 : ¬ vlimit n k1 n1 k2 n2 b < fl := by
      rw [hv]; rcases hf with rfl | rfl <;> (unfold mx mn; (repeat' split) <;> omega)
    rw [if_neg p1, length_Fixed_eq]
    simp only [Option.bind_some]
    by_cases h2 : vfixed k2 b = true
    · rw [if_pos h2, length_Of_eq]
      simp only [Option.bind_some]
      have p2 : ¬ vlimit n k1 n1 k2 n2 b > mx (vof k2 n2 b 0) fl := by
        rw [hv, vof_yes h2 n2 0 1099511627776]
        cases h1 : vfixed k1 b
        · have := hf3 h1
          rcases hf with rfl | rfl <;> (unfold mx mn; (repeat' split) <;> omega)
        · rw [hf2 h1]; unfold mx mn; (repeat' split) <;> omega
      rw [decide_eq_false p2]
      exact within_j1 8 (by omega) n m k1 n1 k2 n2 b
    · rw [if_neg h2]
      exact within_j1 8 (by omega) n m k1 n1 k2 n2 b
  by_cases h1 : vfixed k1 b = true
  · rw [if_pos h1]
    refine key _ (.inr ?_) (fun _ => ?_) (fun h => ?_)
    · rw [vof_yes h1 n1 0 (-1099511627776)]
    · rw [vof_yes h1 n1 0 (-1099511627776)]
    · rw [h1] at h; cases h
  · rw [if_neg h1]
    refine key _ (.inl rfl) (fun h => absurd h h1) (fun h => ?_)
    rw [vof_no h, vcut_id (by omega) (by omega)]

end Go.Proofs.Ytnmcefpnpfaklaa.Pure
