/- The law FixSteps of layer 1 holds of the printed functions, for all whole numbers of 64 bits, and lists of them. -/
import Derived.Test.YtcadddijlgcnbaaVx1
import Derived.Test.YtcadddijlgcnbaaVx5
import Derived.Test.YtcadddijlgcnbaaVx8
import Derived.Test.YtcadddijlgcnbaaVx57
import Derived.Test.YtcadddijlgcnbaaVx59
import Derived.Test.YtcadddijlgcnbaaVx75
set_option linter.unusedVariables false
set_option linter.unusedSimpArgs false
namespace Go.Proofs.Ytcadddijlgcnbaa.Pure
open Go.RowKit Go.Proofs.Ytcadddijlgcnbaa.V Go.Proofs.YtcadddijlgcnbaaW.PrintWords Go.Proofs.YtcadddijlgcnbaaW.PrintLast Go.Proofs.YtcadddijlgcnbaaW.PrintMore

theorem vsums_plain (l : List Int) : ∀ (n : Int) (c : Nat), l.length + c ≤ 1000 → (∀ x ∈ l, 0 ≤ x ∧ x ≤ 1073741824) → 0 ≤ n → n ≤ 1073741824 * (c : Int) → vsums l n = n + l.sum := by
  induction l with
  | nil => intro n c _ _ _ _; simp [vsums]
  | cons x l ih =>
    intro n c h hb h1 h2
    have hx := hb x (by simp)
    simp only [List.length_cons] at h
    have e : vadd n x = n + x := by
      unfold vadd; rw [vcut_id (n := n) (by omega) (by omega), vcut_id (n := x) (by omega) (by omega), vcut_id (by omega) (by omega)]
    rw [vsums, e, ih (n + x) (c + 1) (by omega) (fun y hy => hb y (by simp [hy])) (by omega) (by omega), List.sum_cons]
    omega
theorem vsums_most (l : List Int) : (∀ x ∈ l, 0 ≤ x) → vsums l 1099511627776 = 1099511627776 := by
  induction l with
  | nil => intro _; rfl
  | cons x l ih =>
    intro hb
    have hx := hb x (by simp)
    have e : vadd 1099511627776 x = 1099511627776 := by
      unfold vadd; rw [show vcut 1099511627776 = 1099511627776 by decide]; unfold vcut; (repeat' split) <;> omega
    rw [vsums, e]; exact ih fun y hy => hb y (by simp [hy])
theorem sum_take_bd (l : List Int) (i : Nat) : i ≤ l.length → (∀ x ∈ l.take i, 0 ≤ x ∧ x ≤ 1073741824) → 0 ≤ (l.take i).sum ∧ (l.take i).sum ≤ 1073741824 * (i : Int) := by
  induction i with
  | zero => intro _ _; simp
  | succ i ih =>
    intro hi hb
    have hs : l.take (i + 1) = l.take i ++ [l[i]] := by rw [List.take_succ_eq_append_getElem (by omega)]
    rw [hs] at hb ⊢
    have h1 := ih (by omega) fun x hx => hb x (List.mem_append.mpr (.inl hx))
    have h2 := hb l[i] (List.mem_append.mpr (.inr (List.mem_singleton.mpr rfl)))
    rw [List.sum_append]
    simp only [List.sum_cons, List.sum_nil]
    omega
theorem steps_loop (l : List Int) (hl : l.length ≤ 100) (n : Int) (hn : 0 ≤ n) (K : Nat) (hK : 200 ≤ K) (d : Nat) : ∀ (k i : Nat), i + d = l.length → d + K < k → (∀ x ∈ l.take i, 0 ≤ x ∧ x ≤ 1073741824) →
    valancelaw01_FixSteps.l0 k l n true (l.take i).sum (i : Int) = some true := by
  induction d with
  | zero =>
    intro k i h hk hb
    obtain ⟨k, rfl⟩ : ∃ q, k = q + 1 := ⟨k - 1, by omega⟩
    simp only [valancelaw01_FixSteps.l0]
    rw [if_neg (by omega)]
    have ht : l.take i = l := List.take_of_length_le (by omega)
    rw [ht] at hb ⊢
    have e1 := vsums_plain l 0 0 (by omega) hb (by omega) (by omega)
    have e2 : vsums ([1099511627776] ++ l) 0 = 1099511627776 := by
      show vsums l (vadd 0 1099511627776) = _
      rw [show vadd 0 1099511627776 = 1099511627776 by decide]
      exact vsums_most l fun x hx => (hb x hx).1
    have e3 : vadd 1099511627776 n = 1099511627776 := by
      unfold vadd; rw [show vcut 1099511627776 = 1099511627776 by decide]; unfold vcut; (repeat' split) <;> omega
    have e4 : vsub (-1099511627776) n = -1099511627776 := by
      unfold vsub; rw [show vcut (-1099511627776) = -1099511627776 by decide]; unfold vcut; (repeat' split) <;> omega
    simp only [if_true, fix_Sum_eq k l (by omega) (by omega), fix_Add_eq, fix_Sub_eq, Option.bind_some, e1, e3, e4, Int.zero_add]
    rw [if_pos (by simp; omega), fix_Sum_eq k ([1099511627776] ++ l) (by simp; omega) (by simp; omega), e2]
    simp
  | succ d ih =>
    intro k i h hk hb
    obtain ⟨k, rfl⟩ : ∃ q, k = q + 1 := ⟨k - 1, by omega⟩
    have hi : i < l.length := by omega
    have hr : rd l (i : Int) = l[i] := by simp [rd, List.getD_eq_getElem?_getD, List.getElem?_eq_getElem hi]
    simp only [valancelaw01_FixSteps.l0]
    rw [if_pos (by omega), if_pos (by omega), hr]
    by_cases h1 : l[i] < 0
    · rw [if_pos h1]
    rw [if_neg h1]
    by_cases h2 : l[i] > 1073741824
    · rw [if_pos h2]
    rw [if_neg h2]
    have hs : l.take (i + 1) = l.take i ++ [l[i]] := by rw [List.take_succ_eq_append_getElem (by omega)]
    have hbd := sum_take_bd l i (by omega) hb
    have hsum : (l.take i).sum + l[i] = (l.take (i + 1)).sum := by rw [hs, List.sum_append]; simp
    rw [w64 (x := (l.take i).sum + l[i]) (by omega) (by omega), w64 (by omega) (by omega), hsum]
    refine ih k (i + 1) (by omega) (by omega) ?_
    intro x hx
    rw [hs] at hx
    rcases List.mem_append.mp hx with h | h
    · exact hb x h
    · simp only [List.mem_singleton] at h
      subst h
      omega
theorem FixSteps : valancelaw01_FixSteps.Pure := by
  intro l n h1 h2 hw hn
  refine ⟨500, ?_⟩
  unfold valancelaw01_FixSteps.f
  rw [works01_eq 500 (by omega)]
  simp only [Option.bind_some, if_true]
  by_cases h : (l.length : Int) > 100
  · rw [if_pos h]; simp only [valancelaw01_FixSteps.j0, if_true]
  rw [if_neg h]
  by_cases hn0 : n < 0
  · simp only [valancelaw01_FixSteps.j0, hn0, decide_true, if_true]
  · simp only [valancelaw01_FixSteps.j0, hn0, decide_false, Bool.false_eq_true, if_false]
    exact steps_loop l (by omega) n (by omega) 200 (by omega) l.length 499 0 (by omega) (by omega) (fun x hx => by simp at hx)

end Go.Proofs.Ytcadddijlgcnbaa.Pure
