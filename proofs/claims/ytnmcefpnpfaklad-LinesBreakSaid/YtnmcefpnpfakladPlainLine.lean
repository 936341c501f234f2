/- What goes on which line: the example, how many lines, and that more room does not make more of them. -/
import Derived.Test.YtnmcefpnpfakladPlainJust
import Derived.Test.YtnmcefpnpfakladVx0
import Derived.Test.YtnmcefpnpfakladVx2
import Derived.Test.YtnmcefpnpfakladVx33
import Derived.Test.YtnmcefpnpfakladVx36
namespace Go.Proofs.Ytnmcefpnpfaklad.Plain
open Go.RowKit Go.Proofs.Ytnmcefpnpfaklad.V Go.Proofs.YtnmcefpnpfakladW.PrintWords Go.Proofs.YtnmcefpnpfakladW.PrintMore
theorem lworks : valancelaw07_works.f 1000 = some true := by kernel_rfl
theorem vadd_mono {a b c d : Int} (h : a ≤ c) (h2 : b ≤ d) : vadd a b ≤ vadd c d := by
  unfold vadd
  have := vcut_mono h
  have := vcut_mono h2
  exact vcut_mono (by omega)
theorem vcut_nn {a : Int} (h : 0 ≤ a) : 0 ≤ vcut a := by unfold vcut; (repeat' split) <;> omega
theorem vadd_nn {a b : Int} (h : 0 ≤ a) (h2 : 0 ≤ b) : 0 ≤ vadd a b := by
  unfold vadd
  have := vcut_nn h
  have := vcut_nn h2
  exact vcut_nn (by omega)
theorem vadd_ge {a b : Int} (h : 0 ≤ a) : vcut b ≤ vadd a b := by
  have h1 := vcut_nn h
  have h2 : vcut (vcut b) ≤ vcut (vcut a + vcut b) := vcut_mono (by omega)
  rw [vcut_cut] at h2
  exact h2
theorem vbk_open (l : List Int) (room gap : Int) (wrap : Bool) (k : Nat) : (vbk l room gap wrap (k + 1)).2.1 < k + 1 := by
  have h := vbk_le l room gap wrap k
  show (vbst l room gap wrap k (vbk l room gap wrap k)).2.1 < k + 1
  unfold vbst
  split
  · show (vbk l room gap wrap k).2.1 < k + 1; omega
  · split
    · show (vbk l room gap wrap k).2.1 < k + 1; omega
    · show k < k + 1; omega
theorem vbreak_nil (room gap : Int) (wrap : Bool) : vbreak [] room gap wrap = [] := rfl
theorem vbreak_eq (l : List Int) (room gap : Int) (wrap : Bool) (h : 0 < l.length) : vbreak l room gap wrap = (vbk l room gap wrap l.length).1 ++ [⟨((vbk l room gap wrap l.length).2.1 : Nat), (l.length : Nat)⟩] := by
  obtain ⟨k, hk⟩ : ∃ k, l.length = k + 1 := ⟨l.length - 1, by omega⟩
  unfold vbreak
  rw [hk, if_pos (vbk_open l room gap wrap k)]
theorem vbreak_len (l : List Int) (room gap : Int) (wrap : Bool) (h : 0 < l.length) : (vbreak l room gap wrap).length = (vbk l room gap wrap l.length).1.length + 1 := by
  rw [vbreak_eq l room gap wrap h, List.length_append]; rfl
theorem vbst_step (l : List Int) (room gap : Int) (k : Nat) (st : List S41 × Nat × Int) (h0 : st.2.1 < k) (h64 : k < 64) :
    vbst l room gap true k st = if vadd (vadd st.2.2 gap) (rd l (k : Int)) ≤ room then (st.1, st.2.1, vadd (vadd st.2.2 gap) (rd l (k : Int))) else (st.1 ++ [⟨st.2.1, k⟩], k, vcut (rd l (k : Int))) := by
  unfold vbst
  rw [if_neg (by omega)]
  by_cases c : vadd (vadd st.2.2 gap) (rd l (k : Int)) ≤ room
  · rw [if_pos c, if_pos ⟨by omega, .inr c⟩]
  · rw [if_neg c, if_neg (by rintro ⟨_, h | h⟩; cases h; exact c h)]
theorem vbst_whole (l : List Int) (room gap : Int) (k : Nat) (st : List S41 × Nat × Int) (h64 : k < 64) : (vbst l room gap false k st).1 = st.1 := by
  unfold vbst
  split
  · rfl
  · rw [if_pos ⟨by omega, .inl rfl⟩]
theorem vbk_whole (l : List Int) (room gap : Int) (k : Nat) (h64 : k ≤ 64) : (vbk l room gap false k).1 = [] := by
  induction k with
  | zero => rfl
  | succ k ih =>
    show (vbst l room gap false k (vbk l room gap false k)).1 = []
    rw [vbst_whole _ _ _ _ _ (by omega)]
    exact ih (by omega)
theorem vbk_more (l : List Int) (room gap room' gap' : Int) (hs : ∀ k : Nat, 0 ≤ rd l (k : Int)) (hr : room ≤ room') (hg : gap' ≤ gap) (hg0 : 0 ≤ gap') : ∀ k : Nat, k < 64 →
    ((vbk l room' gap' true (k + 1)).1.length < (vbk l room gap true (k + 1)).1.length ∨ ((vbk l room' gap' true (k + 1)).1.length = (vbk l room gap true (k + 1)).1.length ∧ (vbk l room' gap' true (k + 1)).2.2 ≤ (vbk l room gap true (k + 1)).2.2)) ∧
    0 ≤ (vbk l room gap true (k + 1)).2.2 ∧ 0 ≤ (vbk l room' gap' true (k + 1)).2.2 := by
  intro k
  induction k with
  | zero =>
    intro _
    have h0 := vcut_nn (hs 0)
    exact ⟨.inr ⟨rfl, Int.le_refl _⟩, h0, h0⟩
  | succ k ih =>
    intro hk
    obtain ⟨hd, hA, hB⟩ := ih (by omega)
    have fA := vbk_open l room gap true k
    have fB := vbk_open l room' gap' true k
    have eA : vbk l room gap true (k + 1 + 1) = vbst l room gap true (k + 1) (vbk l room gap true (k + 1)) := rfl
    have eB : vbk l room' gap' true (k + 1 + 1) = vbst l room' gap' true (k + 1) (vbk l room' gap' true (k + 1)) := rfl
    rw [vbst_step _ _ _ _ _ fA hk] at eA
    rw [vbst_step _ _ _ _ _ fB hk] at eB
    rw [eA, eB]
    have hsk := hs (k + 1)
    generalize rd l ((k + 1 : Nat) : Int) = s at *
    generalize vbk l room gap true (k + 1) = A at *
    generalize vbk l room' gap' true (k + 1) = B at *
    obtain ⟨oA, f1, gA⟩ := A
    obtain ⟨oB, f2, gB⟩ := B
    simp only at *
    have n1 := vcut_nn hsk
    have n2 := vadd_nn (vadd_nn hA (show 0 ≤ gap by omega)) hsk
    have n3 := vadd_nn (vadd_nn hB hg0) hsk
    have n4 : vcut s ≤ vadd (vadd gA gap) s := vadd_ge (vadd_nn hA (by omega))
    have n5 : gB ≤ gA → vadd (vadd gB gap') s ≤ vadd (vadd gA gap) s := fun h => vadd_mono (vadd_mono h hg) (Int.le_refl _)
    split <;> split <;> simp only [List.length_append, List.length_singleton] <;> refine ⟨?_, by omega, by omega⟩
    · rcases hd with h | ⟨h, h2⟩
      · exact .inl h
      · exact .inr ⟨h, n5 h2⟩
    · rcases hd with h | ⟨h, h2⟩ <;> exact .inl (by omega)
    · rename_i c1 c2
      rcases hd with h | ⟨h, h2⟩
      · have : oB.length + 1 < oA.length ∨ oB.length + 1 = oA.length := by omega
        rcases this with h3 | h3
        · exact .inl h3
        · exact .inr ⟨h3, n4⟩
      · have := n5 h2; omega
    · rcases hd with h | ⟨h, h2⟩
      · exact .inl (by omega)
      · exact .inr ⟨by omega, Int.le_refl _⟩
theorem vbreak_more (l : List Int) (room gap room' gap' : Int) (hn : l.length ≤ 60) (hs : ∀ k : Nat, 0 ≤ rd l (k : Int)) (hr : room ≤ room') (hg : gap' ≤ gap) (hg0 : 0 ≤ gap') : (vbreak l room' gap' true).length ≤ (vbreak l room gap true).length := by
  rcases Nat.eq_zero_or_pos l.length with h0 | h0
  · obtain rfl := List.eq_nil_of_length_eq_zero h0
    exact Nat.le_refl _
  · rw [vbreak_len _ _ _ _ h0, vbreak_len _ _ _ _ h0]
    obtain ⟨k, hk⟩ : ∃ k, l.length = k + 1 := ⟨l.length - 1, by omega⟩
    rw [hk]
    have := vbk_more l room gap room' gap' hs hr hg hg0 k (by omega)
    omega
theorem vbreak_whole (l : List Int) (room gap : Int) (hn : l.length ≤ 60) : (vbreak l room gap false).length = if l.length = 0 then 0 else 1 := by
  rcases Nat.eq_zero_or_pos l.length with h0 | h0
  · obtain rfl := List.eq_nil_of_length_eq_zero h0
    rfl
  · rw [vbreak_len _ _ _ _ h0, vbk_whole _ _ _ _ (by omega), if_neg (by omega)]; rfl
theorem break_f (l : List Int) (room gap : Int) (wrap : Bool) (h : l.length ≤ 500) : lines_Break.f l room gap wrap = some (vbreak l room gap wrap) := by
  unfold lines_Break.f
  rw [if_pos (by omega)]
end Go.Proofs.Ytnmcefpnpfaklad.Plain
