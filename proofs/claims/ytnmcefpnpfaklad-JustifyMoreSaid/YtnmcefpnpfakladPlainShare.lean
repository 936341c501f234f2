/- How what is left is shared: in order, within what is left, and at the ends. -/
import Derived.Test.YtnmcefpnpfakladPlainJust
import Derived.Test.YtnmcefpnpfakladVx0
import Derived.Test.YtnmcefpnpfakladVx11
namespace Go.Proofs.Ytnmcefpnpfaklad.Plain
open Go.RowKit Go.Proofs.Ytnmcefpnpfaklad.V Go.Proofs.YtnmcefpnpfakladW.PrintWords Go.Proofs.YtnmcefpnpfakladW.PrintMore
/-- Who is further on has no less ahead. -/
theorem shr_mono (kind left n : Int) (k : Nat) (hk : (k : Int) + 1 < n) : shr_ (vkind kind left n) left n k ≤ shr_ (vkind kind left n) left n (k + 1) := by
  have h45 := @vkind_45 kind left n
  have h3 := @vkind_3 kind left n
  generalize vkind kind left n = kd at *
  unfold shr_
  by_cases h1 : kd = 1
  · rw [if_pos h1, if_pos h1]; omega
  rw [if_neg h1, if_neg h1]
  by_cases h2 : kd = 2
  · rw [if_pos h2, if_pos h2]; omega
  rw [if_neg h2, if_neg h2]
  by_cases h3' : kd = 3
  · rw [if_pos h3', if_pos h3']; have := h3 h3'; exact frac_mono _ _ _ _ (by omega) (by omega) (by omega)
  rw [if_neg h3', if_neg h3']
  by_cases h4 : kd = 4
  · rw [if_pos h4, if_pos h4]; have := h45 (.inl h4); exact frac_mono _ _ _ _ (by omega) (by omega) (by omega)
  rw [if_neg h4, if_neg h4]
  by_cases h5 : kd = 5
  · rw [if_pos h5, if_pos h5]; have := h45 (.inr h5); exact frac_mono _ _ _ _ (by omega) (by omega) (by omega)
  rw [if_neg h5, if_neg h5]; omega
theorem shr_in (kd left n : Int) (k : Nat) (hk : (k : Int) < n) (h0 : 0 ≤ left) (h3 : kd = 3 → 1 < n) : 0 ≤ shr_ kd left n k ∧ shr_ kd left n k ≤ left := by
  unfold shr_
  by_cases h1 : kd = 1
  · rw [if_pos h1]; omega
  rw [if_neg h1]
  by_cases h2 : kd = 2
  · rw [if_pos h2]; omega
  rw [if_neg h2]
  by_cases h3' : kd = 3
  · rw [if_pos h3']; have := h3 h3'; exact ⟨frac_nn _ _ _ h0 (by omega) (by omega), frac_le _ _ _ h0 (by omega) (by omega) (by omega)⟩
  rw [if_neg h3']
  by_cases h4 : kd = 4
  · rw [if_pos h4]; exact ⟨frac_nn _ _ _ h0 (by omega) (by omega), frac_le _ _ _ h0 (by omega) (by omega) (by omega)⟩
  rw [if_neg h4]
  by_cases h5 : kd = 5
  · rw [if_pos h5]; exact ⟨frac_nn _ _ _ h0 (by omega) (by omega), frac_le _ _ _ h0 (by omega) (by omega) (by omega)⟩
  rw [if_neg h5]; omega
theorem shr_ends (left n : Int) (k : Nat) (hn : 2 ≤ n) (hk : (k : Int) = n - 1) (h0 : 0 ≤ left) : shr_ (vkind 3 left n) left n 0 = 0 ∧ shr_ (vkind 3 left n) left n k = left := by
  by_cases h : 0 < left
  · rw [show vkind 3 left n = 3 by unfold vkind; rw [if_neg (by omega), if_pos rfl, if_pos (by omega)]]
    unfold shr_
    rw [if_neg (by omega), if_neg (by omega), if_pos rfl, if_neg (by omega), if_neg (by omega), if_pos rfl, hk]
    exact ⟨by simp, Int.mul_ediv_cancel _ (by omega)⟩
  · rw [show vkind 3 left n = 0 by unfold vkind; rw [if_neg (by omega), if_pos rfl, if_neg (by omega)]]
    unfold shr_
    simp; omega
theorem shr_end (left n : Int) (k : Nat) : shr_ (vkind 1 left n) left n k = left := by
  rw [show vkind 1 left n = 1 by unfold vkind; rw [if_neg (by omega), if_neg (by omega)]]
  rfl
end Go.Proofs.Ytnmcefpnpfaklad.Plain
