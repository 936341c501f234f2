/- The law FixSums of layer 1 holds of the printed functions, for all whole numbers of 64 bits, and lists of them. -/
import Derived.Test.YtcadddijlgcnbaaVx2
import Derived.Test.YtcadddijlgcnbaaVx30
import Derived.Test.YtcadddijlgcnbaaVx31
import Derived.Test.YtcadddijlgcnbaaVx36
import Derived.Test.YtcadddijlgcnbaaVx37
set_option linter.unusedVariables false
set_option linter.unusedSimpArgs false
namespace Go.Proofs.Ytcadddijlgcnbaa.Pure
open Go.RowKit Go.Proofs.Ytcadddijlgcnbaa.V Go.Proofs.YtcadddijlgcnbaaW.PrintWords Go.Proofs.YtcadddijlgcnbaaW.PrintLast Go.Proofs.YtcadddijlgcnbaaW.PrintMore

theorem vsums_plain (l : List Int) : ∀ (n : Int) (c : Nat), l.length + c ≤ 1000 → (∀ x ∈ l, -1073741824 ≤ x ∧ x ≤ 1073741824) → -(1073741824 * (c : Int)) ≤ n → n ≤ 1073741824 * (c : Int) → vsums l n = n + l.sum := by
  induction l with
  | nil => intro n c _ _ _ _; simp [vsums]
  | cons x l ih =>
    intro n c h hb h1 h2
    have hx := hb x (by simp)
    simp only [List.length_cons] at h
    have e : vadd n x = n + x := by
      unfold vadd; rw [vcut_id (n := n) (by omega) (by omega), vcut_id (n := x) (by omega) (by omega), vcut_id (by omega) (by omega)]
    rw [vsums, e, ih (n + x) (c + 1) (by omega) (fun y hy => hb y (by simp [hy])) (by omega) (by omega), List.sum_cons]
    omega
theorem sum_reverse_ (l : List Int) : l.reverse.sum = l.sum := by
  induction l with
  | nil => rfl
  | cons x l ih => rw [List.reverse_cons, List.sum_append, ih]; simp; omega
/-- What the loop has come to: the rest of the list turned round, and whether all of it is small. -/
theorem vsums_loop (l : List Int) (hl : l.length ≤ 1000) (K : Nat) (hK : 1001 ≤ K) (d : Nat) : ∀ (k : Nat) (m : List Int) (b : Bool), m = (l.drop d).reverse → d ≤ l.length → d + K < k →
    (b = true → ∀ x ∈ m, -1073741824 ≤ x ∧ x ≤ 1073741824) → valancelaw01_FixSums.l0 k l true m b ((d : Int) - 1) = some true := by
  induction d with
  | zero =>
    intro k m b hm _ hk hb
    obtain ⟨k, rfl⟩ : ∃ q, k = q + 1 := ⟨k - 1, by omega⟩
    simp only [valancelaw01_FixSums.l0]
    rw [if_neg (by omega)]
    rw [List.drop_zero] at hm
    have hml : m.length = l.length := by rw [hm, List.length_reverse]
    rw [fix_Sum_eq k l (by omega) (by omega), ref_Sum_eq k l (by omega) (by omega), fix_Sum_eq k m (by omega) (by omega)]
    simp only [Option.bind_some, if_true]
    split
    · rename_i ht
      have hs := hb ht
      have e1 := vsums_plain m 0 0 (by omega) hs (by omega) (by omega)
      have e2 := vsums_plain l 0 0 (by omega) (fun x hx => hs x (by rw [hm]; simp [hx])) (by omega) (by omega)
      rw [e1, e2, hm, sum_reverse_]; simp
    · rfl
  | succ d ih =>
    intro k m b hm hd hk hb
    obtain ⟨k, rfl⟩ : ∃ q, k = q + 1 := ⟨k - 1, by omega⟩
    have hi : d < l.length := by omega
    have hr : rd l (d : Int) = l[d] := by simp [rd, List.getD_eq_getElem?_getD, List.getElem?_eq_getElem hi]
    have hml : m.length = l.length - (d + 1) := by rw [hm, List.length_reverse, List.length_drop]
    have hm' : m ++ [l[d]] = (l.drop d).reverse := by
      rw [List.drop_eq_getElem_cons hi, List.reverse_cons, hm]
    simp only [valancelaw01_FixSums.l0]
    rw [show ((d + 1 : Nat) : Int) - 1 = (d : Int) by omega]
    rw [if_pos (by omega), if_pos (by omega), if_pos (by omega), if_pos (by omega)]
    simp only [Option.bind_some]
    rw [hr, w64 (x := (d : Int) - 1) (by omega) (by omega)]
    split
    · rename_i ht
      split
      · refine ih k _ _ hm' (by omega) (by omega) ?_
        intro hg x hx
        simp only [ge_iff_le, decide_eq_true_eq] at hg
        rcases List.mem_append.mp hx with h | h
        · exact hb ht x h
        · simp only [List.mem_singleton] at h
          subst h
          exact ⟨hg, by assumption⟩
      · exact ih k _ _ hm' (by omega) (by omega) (fun h => by cases h)
    · exact ih k _ _ hm' (by omega) (by omega) (fun h => by cases h)
theorem FixSums : valancelaw01_FixSums.Pure := by
  intro l h1 h2 hw
  refine ⟨3000, ?_⟩
  unfold valancelaw01_FixSums.f
  rw [works01_eq 3000 (by omega)]
  simp only [Option.bind_some, if_true]
  split
  · rfl
  · rename_i h
    rw [w64 (by omega) (by omega)]
    exact vsums_loop l (by omega) 1001 (by omega) l.length 3000 [] true (by rw [List.drop_of_length_le (by omega)]; rfl) (by omega) (by omega) (fun _ x hx => by cases hx)

end Go.Proofs.Ytcadddijlgcnbaa.Pure
