/- What the functions of this seat answer, as plain Lean functions, and that the calls come to just that (written by a program of this repo, over the kit's printer; Lean checks it). -/
import Derived.Test.YtnmcefpnpfaklacVx0
import Derived.Test.YtnmcefpnpfaklacVx1
import Derived.Test.YtnmcefpnpfaklacVx2
import Derived.Test.YtnmcefpnpfaklacVx20
import Derived.Test.YtnmcefpnpfaklacVx21
namespace Go.Proofs.Ytnmcefpnpfaklac.V
open Go.RowKit Go.Proofs.YtnmcefpnpfaklacW.PrintWords Go.Proofs.YtnmcefpnpfaklacW.PrintLast Go.Proofs.YtnmcefpnpfaklacW.PrintMore
attribute [local go_sem] max2_int min2_int max_two min_two max_three min_three max_four min_four   -- for this text's walks alone
set_option linter.unusedVariables false
set_option linter.unusedSimpArgs false


theorem margin_Stack_l0_eq (s t b : List Int) (hs : s.length ≤ 1001) (ht : t.length = s.length) (hb : b.length = s.length) (d : Nat) : ∀ (k i : Nat) (out : List Int) (at_ : Int), i + d = s.length → out.length = i → d + 5 < k →
    margin_Stack.l0 k t b out at_ s (s.length : Int) (i : Int) = some (vstk s t b d i out at_) := by
  induction d with
  | zero =>
    intro k i out at_ hi ho hk
    obtain ⟨k, rfl⟩ : ∃ m, k = m + 1 := ⟨k - 1, by omega⟩
    simp only [margin_Stack.l0, vstk]
    rw [if_neg (by omega)]
  | succ d ih =>
    intro k i out at_ hi ho hk
    obtain ⟨k, rfl⟩ : ∃ m, k = m + 1 := ⟨k - 1, by omega⟩
    simp only [margin_Stack.l0, vstk]
    rw [if_pos (by omega), if_pos (by omega), if_pos (by omega)]
    by_cases h0 : i = 0
    · subst h0
      rw [if_neg (by omega), if_pos (by omega), fix_Add_eq]
      simp only [Option.bind_some, if_true]
      rw [w64 (by omega) (by omega), show (((0 : Nat) : Int) + 1) = ((0 + 1 : Nat) : Int) by omega, ih k (0 + 1) _ _ (by omega) ?_ (by omega)]
      simp only [List.length_append, List.length_singleton, ho]
    · rw [if_neg h0]
      rw [if_pos (by omega), w64 (x := (i : Int) - 1) (by omega) (by omega), if_pos (by omega), if_pos (by omega), if_pos (by omega), margin_Pair_eq k (by omega)]
      simp only [Option.bind_some, fix_Add_eq]
      rw [if_pos (by omega), w64 (by omega) (by omega), show ((i : Int) + 1) = ((i + 1 : Nat) : Int) by omega, ih k (i + 1) _ _ (by omega) ?_ (by omega)]
      simp only [List.length_append, List.length_singleton, ho]
theorem margin_Stack_eq (k : Nat) (s t b : List Int) (hs : s.length ≤ 1001) (hk : s.length + 10 < k) : margin_Stack.f k s t b = some (vstack s t b) := by
  obtain ⟨k, rfl⟩ : ∃ m, k = m + 1 := ⟨k - 1, by omega⟩
  unfold margin_Stack.f vstack
  simp only [margin_Stack.j0]
  by_cases h1 : t.length = s.length
  · rw [if_pos (by omega)]
    by_cases h2 : b.length = s.length
    · rw [if_neg (by simp; omega), if_pos ⟨h1, h2⟩]
      exact margin_Stack_l0_eq s t b hs h1 h2 s.length k 0 [] 0 (by omega) rfl (by omega)
    · rw [if_pos (by simp; omega), if_neg (fun h => h2 h.2)]
  · rw [if_neg (by omega)]; simp [h1]

end Go.Proofs.Ytnmcefpnpfaklac.V
