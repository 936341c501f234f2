/- How long a line is; and what goes on which line: the chain of lines. -/
import Derived.Test.YtnmcefpnpfakladPlainLine
import Derived.Test.YtnmcefpnpfakladVx0
import Derived.Test.YtnmcefpnpfakladVx2
import Derived.Test.YtnmcefpnpfakladVx3
import Derived.Test.YtnmcefpnpfakladVx4
import Derived.Test.YtnmcefpnpfakladVx33
namespace Go.Proofs.Ytnmcefpnpfaklad.Plain
open Go.RowKit Go.Proofs.Ytnmcefpnpfaklad.V Go.Proofs.YtnmcefpnpfakladW.PrintWords Go.Proofs.YtnmcefpnpfakladW.PrintMore
theorem vadd_id {a b : Int} (h1 : -1099511627776 ≤ a) (h2 : a ≤ 1099511627776) (h3 : -1099511627776 ≤ b) (h4 : b ≤ 1099511627776) (h5 : -1099511627776 ≤ a + b) (h6 : a + b ≤ 1099511627776) : vadd a b = a + b := by
  unfold vadd
  rw [vcut_id h1 h2, vcut_id h3 h4, vcut_id h5 h6]
/-- How long m of them are, from f on. -/
def vseg (l : List Int) (gap : Int) (f : Nat) : Nat → Int
  | 0 => 0
  | m + 1 => if 0 < m then vadd (vadd (vseg l gap f m) gap) (rd l ((f + m : Nat) : Int)) else vadd (vseg l gap f m) (rd l ((f + m : Nat) : Int))
theorem vseg_cong (l l' : List Int) (gap : Int) (f f' : Nat) : ∀ m : Nat, (∀ j : Nat, j < m → rd l ((f + j : Nat) : Int) = rd l' ((f' + j : Nat) : Int)) → vseg l gap f m = vseg l' gap f' m := by
  intro m
  induction m with
  | zero => intro _; rfl
  | succ m ih =>
    intro h
    unfold vseg
    rw [ih (fun j hj => h j (by omega)), h m (by omega)]
theorem seg_l0 (l : List Int) (gap : Int) : ∀ (d i k : Nat), d = l.length - i → i ≤ l.length → d + 1 ≤ k → l.length ≤ 1000 → lines_Long.l0 k gap (vseg l gap 0 i) l (l.length : Int) (i : Int) = some (vseg l gap 0 l.length) := by
  intro d
  induction d with
  | zero =>
    intro i k hd hi hk _
    obtain ⟨k, rfl⟩ : ∃ m, k = m + 1 := ⟨k - 1, by omega⟩
    obtain rfl : i = l.length := by omega
    simp only [lines_Long.l0]
    rw [if_neg (by omega)]
  | succ d ih =>
    intro i k hd hi hk hl
    obtain ⟨k, rfl⟩ : ∃ m, k = m + 1 := ⟨k - 1, by omega⟩
    simp only [lines_Long.l0]
    rw [if_pos (by omega), if_pos (by omega), if_pos (by omega)]
    have e : vseg l gap 0 (i + 1) = if 0 < i then vadd (vadd (vseg l gap 0 i) gap) (rd l (i : Int)) else vadd (vseg l gap 0 i) (rd l (i : Int)) := by
      show (if 0 < i then vadd (vadd (vseg l gap 0 i) gap) (rd l ((0 + i : Nat) : Int)) else vadd (vseg l gap 0 i) (rd l ((0 + i : Nat) : Int))) = _
      rw [Nat.zero_add]
    have hi1 := ih (i + 1) k (by omega) (by omega) (by omega) hl
    by_cases c : 0 < i
    · rw [if_pos (by omega), fix_Add_eq]
      simp only [Option.bind_some]
      rw [fix_Add_eq]
      simp only [Option.bind_some]
      rw [w64 (by omega) (by omega)]
      rw [e, if_pos c] at hi1
      exact hi1
    · rw [if_neg (by omega), fix_Add_eq]
      simp only [Option.bind_some]
      rw [w64 (by omega) (by omega)]
      rw [e, if_neg c] at hi1
      exact hi1
theorem seg_f (k : Nat) (l : List Int) (gap : Int) (hk : l.length + 1 ≤ k) (hl : l.length ≤ 1000 := by omega) : lines_Long.f k l gap = some (vseg l gap 0 l.length) := by
  unfold lines_Long.f
  exact seg_l0 l gap l.length 0 k rfl (Nat.zero_le _) hk hl
theorem vseg_1 (l : List Int) (gap : Int) (f : Nat) : vseg l gap f 1 = vcut (rd l (f : Int)) := by
  show (if 0 < 0 then _ else vadd (vseg l gap f 0) (rd l ((f + 0 : Nat) : Int))) = _
  rw [if_neg (by omega)]
  show vcut (vcut 0 + vcut (rd l (f : Int))) = _
  rw [show vcut 0 = 0 from rfl, Int.zero_add, vcut_cut]
theorem vseg_step (l : List Int) (gap : Int) (f m : Nat) (h : 0 < m) : vseg l gap f (m + 1) = vadd (vadd (vseg l gap f m) gap) (rd l ((f + m : Nat) : Int)) := by
  show (if 0 < m then _ else _) = _
  rw [if_pos h]
/-- What is put on the line from a on stays: all that are on it, save the first, had room. -/
def Held (l : List Int) (room gap : Int) (wrap : Bool) (a b : Nat) : Prop := a < b ∧ b - a ≤ 64 ∧ ∀ m, 1 < m → m ≤ b - a → wrap = true → vseg l gap a m ≤ room
/-- And the next one would be too much. -/
def Full (l : List Int) (room gap : Int) (wrap : Bool) (a b : Nat) : Prop := b < l.length → b - a < 64 → wrap = true ∧ ¬ vseg l gap a (b - a + 1) ≤ room
/-- Lines that follow one another from a to c. -/
def Chain (P : Nat → Nat → Prop) (a : Nat) : List S41 → Nat → Prop
  | [], c => a = c
  | x :: r, c => ∃ b : Nat, x = ⟨(a : Int), (b : Int)⟩ ∧ P a b ∧ Chain P b r c
theorem Chain.snoc {P : Nat → Nat → Prop} {a b c : Nat} {o : List S41} (h : Chain P a o b) (hp : P b c) : Chain P a (o ++ [⟨(b : Int), (c : Int)⟩]) c := by
  induction o generalizing a with
  | nil => obtain rfl : a = b := h; exact ⟨c, rfl, hp, rfl⟩
  | cons x r ih =>
    obtain ⟨d, hx, h1, h2⟩ := h
    exact ⟨d, hx, h1, ih h2⟩
theorem vbk_inv (l : List Int) (room gap : Int) (wrap : Bool) : ∀ k : Nat, k < l.length →
    Chain (fun a b => Held l room gap wrap a b ∧ Full l room gap wrap a b) 0 (vbk l room gap wrap (k + 1)).1 (vbk l room gap wrap (k + 1)).2.1 ∧
    Held l room gap wrap (vbk l room gap wrap (k + 1)).2.1 (k + 1) ∧ (vbk l room gap wrap (k + 1)).2.2 = vseg l gap (vbk l room gap wrap (k + 1)).2.1 (k + 1 - (vbk l room gap wrap (k + 1)).2.1) := by
  intro k
  induction k with
  | zero =>
    intro _
    refine ⟨rfl, ⟨Nat.zero_lt_one, by show 1 ≤ 64; omega, fun m h1 h2 _ => ?_⟩, ?_⟩
    · have : m ≤ 1 := h2
      omega
    · exact (vseg_1 l gap 0).symm
  | succ k ih =>
    intro hk
    obtain ⟨hC, hH, hg⟩ := ih (by omega)
    have e : vbk l room gap wrap (k + 1 + 1) = vbst l room gap wrap (k + 1) (vbk l room gap wrap (k + 1)) := rfl
    rw [e]
    generalize vbk l room gap wrap (k + 1) = st at *
    obtain ⟨o, f, g⟩ := st
    simp only at hC hH hg
    have hf := hH.1
    unfold vbst
    simp only
    rw [if_neg (show ¬ (k + 1 = f) by omega)]
    have hseg : vadd (vadd g gap) (rd l ((k + 1 : Nat) : Int)) = vseg l gap f (k + 1 - f + 1) := by
      rw [vseg_step l gap f (k + 1 - f) (by omega), hg, show f + (k + 1 - f) = k + 1 by omega]
    rw [hseg]
    by_cases c : k + 1 - f < 64 ∧ (wrap = false ∨ vseg l gap f (k + 1 - f + 1) ≤ room)
    · rw [if_pos c]
      refine ⟨hC, ⟨by show f < k + 1 + 1; omega, by show k + 1 + 1 - f ≤ 64; omega, fun m h1 h2 h3 => ?_⟩, ?_⟩
      · have h2' : m ≤ k + 1 + 1 - f := h2
        by_cases hm : m ≤ k + 1 - f
        · exact hH.2.2 m h1 hm h3
        · obtain rfl : m = k + 1 - f + 1 := by omega
          rcases c.2 with hw | hw
          · rw [hw] at h3; cases h3
          · exact hw
      · show vseg l gap f (k + 1 - f + 1) = vseg l gap f (k + 1 + 1 - f)
        rw [show k + 1 - f + 1 = k + 1 + 1 - f by omega]
    · rw [if_neg c]
      refine ⟨hC.snoc ⟨hH, fun _ h2 => ?_⟩, ⟨by show k + 1 < k + 1 + 1; omega, by show k + 1 + 1 - (k + 1) ≤ 64; omega, fun m h1 h2 _ => ?_⟩, ?_⟩
      · refine ⟨?_, fun h3 => c ⟨h2, .inr h3⟩⟩
        cases wrap with
        | true => rfl
        | false => exact absurd ⟨h2, .inl rfl⟩ c
      · have : m ≤ k + 1 + 1 - (k + 1) := h2
        omega
      · show vcut (rd l ((k + 1 : Nat) : Int)) = vseg l gap (k + 1) (k + 1 + 1 - (k + 1))
        rw [show k + 1 + 1 - (k + 1) = 1 by omega, vseg_1]
/-- The lines: a chain from 0 to the end. -/
theorem vbreak_chain (l : List Int) (room gap : Int) (wrap : Bool) : Chain (fun a b => Held l room gap wrap a b ∧ Full l room gap wrap a b) 0 (vbreak l room gap wrap) l.length := by
  rcases Nat.eq_zero_or_pos l.length with h0 | h0
  · obtain rfl := List.eq_nil_of_length_eq_zero h0
    exact rfl
  · rw [vbreak_eq l room gap wrap h0]
    obtain ⟨k, hk⟩ : ∃ k, l.length = k + 1 := ⟨l.length - 1, by omega⟩
    have h := vbk_inv l room gap wrap k (by omega)
    rw [← hk] at h
    exact h.1.snoc ⟨h.2.1, fun h1 => absurd h1 (Nat.lt_irrefl _)⟩
theorem Chain.le {P : Nat → Nat → Prop} (hP : ∀ a b, P a b → a < b) {a c : Nat} {o : List S41} (h : Chain P a o c) : a ≤ c := by
  induction o generalizing a with
  | nil => exact Nat.le_of_eq h
  | cons x r ih =>
    obtain ⟨b, _, h1, h2⟩ := h
    have := ih h2
    have := hP _ _ h1
    omega
theorem rd41_at (pre : List S41) (x : S41) (suf : List S41) : rd_T41 (pre ++ x :: suf) (pre.length : Int) = x := by
  unfold rd_T41
  rw [Int.toNat_natCast, List.getD_eq_getElem?_getD, List.getElem?_append_right (Nat.le_refl _), Nat.sub_self]; rfl
/-- A part of a slice: its elements, how long it is. -/
theorem rd_part (l : List Int) (a b j : Nat) (h : j < b - a) : rd ((l.take b).drop a) (j : Int) = rd l ((a + j : Nat) : Int) := by
  unfold rd
  simp only [Int.toNat_natCast, List.getD_eq_getElem?_getD, List.getElem?_drop]
  rw [List.getElem?_take_of_lt (by omega)]
theorem len_part (l : List Int) (a b : Nat) (h : b ≤ l.length) : ((l.take b).drop a).length = b - a := by rw [List.length_drop, List.length_take]; omega
theorem vseg_part (l : List Int) (gap : Int) (a b m : Nat) (h : m ≤ b - a) : vseg ((l.take b).drop a) gap 0 m = vseg l gap a m := by
  refine vseg_cong _ _ _ _ _ _ (fun j hj => ?_)
  rw [Nat.zero_add, rd_part l a b j (by omega)]
theorem long_part (k : Nat) (l : List Int) (gap : Int) (a b : Nat) (ha : a ≤ b) (hb : b ≤ l.length) (hk : b - a + 1 ≤ k) (hl : l.length ≤ 1000 := by omega) : lines_Long.f k ((l.take b).drop a) gap = some (vseg l gap a (b - a)) := by
  have e := len_part l a b hb
  rw [seg_f k _ gap (by omega) (by omega), e, vseg_part l gap a b _ (Nat.le_refl _)]
end Go.Proofs.Ytnmcefpnpfaklad.Plain
