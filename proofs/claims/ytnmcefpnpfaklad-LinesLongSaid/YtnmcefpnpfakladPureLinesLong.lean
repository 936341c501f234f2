/- The law LinesLong holds of the printed functions, for all sizes and whole numbers of 64 bits. -/
import Derived.Test.YtnmcefpnpfakladPlainSeg
import Derived.Test.YtnmcefpnpfakladVx0
import Derived.Test.YtnmcefpnpfakladVx2
import Derived.Test.YtnmcefpnpfakladVx4
import Derived.Test.YtnmcefpnpfakladVx44
namespace Go.Proofs.Ytnmcefpnpfaklad.Pure
open Go.RowKit Go.Proofs.Ytnmcefpnpfaklad.V Go.Proofs.Ytnmcefpnpfaklad.Plain Go.Proofs.YtnmcefpnpfakladW.PrintWords Go.Proofs.YtnmcefpnpfakladW.PrintLast Go.Proofs.YtnmcefpnpfakladW.PrintMore
/-- How long k of them are, where nothing is cut off. -/
def vlin (l : List Int) (gap : Int) : Nat → Int
  | 0 => 0
  | k + 1 => vlin l gap k + (if 0 < k then gap else 0) + rd l (k : Int)
theorem vlin_bd (l : List Int) (gap : Int) (g1 : -1048576 ≤ gap) (g2 : gap ≤ 1048576) (n : Nat) (h : ∀ j : Nat, j < n → -1048576 ≤ rd l (j : Int) ∧ rd l (j : Int) ≤ 1048576) : ∀ k : Nat, k ≤ n → -(k * 2097152 : Int) ≤ vlin l gap k ∧ vlin l gap k ≤ k * 2097152 := by
  intro k
  induction k with
  | zero => intro _; exact ⟨Int.le_refl _, Int.le_refl _⟩
  | succ k ih =>
    intro hk
    have h1 := ih (by omega)
    have h2 := h k (by omega)
    show _ ≤ vlin l gap k + (if 0 < k then gap else 0) + rd l (k : Int) ∧ vlin l gap k + (if 0 < k then gap else 0) + rd l (k : Int) ≤ _
    split <;> omega
theorem seg_lin (l : List Int) (gap : Int) (g1 : -1048576 ≤ gap) (g2 : gap ≤ 1048576) (n : Nat) (hn : n ≤ 400) (h : ∀ j : Nat, j < n → -1048576 ≤ rd l (j : Int) ∧ rd l (j : Int) ≤ 1048576) : ∀ k : Nat, k ≤ n → vseg l gap 0 k = vlin l gap k := by
  intro k
  induction k with
  | zero => intro _; rfl
  | succ k ih =>
    intro hk
    have h1 := ih (by omega)
    have h2 := h k (by omega)
    have h3 := vlin_bd l gap g1 g2 n h k (by omega)
    show (if 0 < k then vadd (vadd (vseg l gap 0 k) gap) (rd l ((0 + k : Nat) : Int)) else vadd (vseg l gap 0 k) (rd l ((0 + k : Nat) : Int))) = vlin l gap k + (if 0 < k then gap else 0) + rd l (k : Int)
    rw [h1, Nat.zero_add]
    split
    · rw [vadd_id (a := vlin l gap k) (b := gap) (by omega) (by omega) (by omega) (by omega) (by omega) (by omega), vadd_id (by omega) (by omega) (by omega) (by omega) (by omega) (by omega)]
    · rw [vadd_id (by omega) (by omega) (by omega) (by omega) (by omega) (by omega)]; omega
theorem rd_app1 (a b : List Int) (j : Nat) (h : j < a.length) : rd (a ++ b) (j : Int) = rd a (j : Int) := by
  unfold rd
  simp only [Int.toNat_natCast, List.getD_eq_getElem?_getD]
  rw [List.getElem?_append_left h]
theorem rd_app2 (a b : List Int) (j : Nat) : rd (a ++ b) ((a.length + j : Nat) : Int) = rd b (j : Int) := by
  unfold rd
  simp only [Int.toNat_natCast, List.getD_eq_getElem?_getD]
  rw [List.getElem?_append_right (by omega), Nat.add_sub_cancel_left]
theorem vlin_app1 (a b : List Int) (gap : Int) : ∀ k : Nat, k ≤ a.length → vlin (a ++ b) gap k = vlin a gap k := by
  intro k
  induction k with
  | zero => intro _; rfl
  | succ k ih =>
    intro hk
    show vlin (a ++ b) gap k + (if 0 < k then gap else 0) + rd (a ++ b) (k : Int) = vlin a gap k + (if 0 < k then gap else 0) + rd a (k : Int)
    rw [ih (by omega), rd_app1 a b k (by omega)]
theorem vlin_app2 (a b : List Int) (gap : Int) (j : Nat) : vlin (a ++ b) gap (a.length + j) = vlin a gap a.length + (if 0 < a.length ∧ 0 < j then gap else 0) + vlin b gap j := by
  induction j with
  | zero => rw [if_neg (by omega)]; show vlin (a ++ b) gap a.length = _ + 0 + 0; rw [vlin_app1 a b gap _ (Nat.le_refl _)]; omega
  | succ j ih =>
    show vlin (a ++ b) gap (a.length + j) + (if 0 < a.length + j then gap else 0) + rd (a ++ b) ((a.length + j : Nat) : Int) = vlin a gap a.length + (if 0 < a.length ∧ 0 < j + 1 then gap else 0) + (vlin b gap j + (if 0 < j then gap else 0) + rd b (j : Int))
    rw [ih, rd_app2]
    by_cases h1 : 0 < a.length
    · by_cases h2 : 0 < j
      · rw [if_pos (by omega), if_pos (by omega), if_pos (by omega), if_pos h2]; omega
      · rw [if_neg (by omega), if_pos (by omega), if_pos (by omega), if_neg h2]; omega
    · by_cases h2 : 0 < j
      · rw [if_neg (by omega), if_pos (by omega), if_neg (by omega), if_pos h2]; omega
      · rw [if_neg (by omega), if_neg (by omega), if_neg (by omega), if_neg h2]; omega
theorem long_lin (l : List Int) (gap : Int) (g1 : -1048576 ≤ gap) (g2 : gap ≤ 1048576) (hn : l.length ≤ 400) (h : ∀ j : Nat, j < l.length → -1048576 ≤ rd l (j : Int) ∧ rd l (j : Int) ≤ 1048576) (k : Nat) (hk : 450 ≤ k) : lines_Long.f k l gap = some (vlin l gap l.length) := by
  rw [seg_f k l gap (by omega), seg_lin l gap g1 g2 l.length hn h _ (Nat.le_refl _)]
theorem llong_l0 (a b : List Int) (gap : Int) (ha : a.length ≤ 200) (hb : b.length ≤ 200) (g1 : -1048576 ≤ gap) (g2 : gap ≤ 1048576) : ∀ (d i k : Nat), d = (a ++ b).length - i → i ≤ (a ++ b).length → (∀ j : Nat, j < i → -1048576 ≤ rd (a ++ b) (j : Int) ∧ rd (a ++ b) (j : Int) ≤ 1048576) → d + 500 ≤ k →
    valancelaw07_LinesLong.l0 k a b gap true (a ++ b) (b ++ a) (i : Int) = some true := by
  intro d
  have hab : (a ++ b).length = a.length + b.length := List.length_append
  have hba : (b ++ a).length = b.length + a.length := List.length_append
  induction d with
  | zero =>
    intro i k hd hi he hk
    obtain ⟨k, rfl⟩ : ∃ m, k = m + 1 := ⟨k - 1, by omega⟩
    obtain rfl : i = (a ++ b).length := by omega
    simp only [valancelaw07_LinesLong.l0]
    have hea : ∀ j : Nat, j < a.length → -1048576 ≤ rd a (j : Int) ∧ rd a (j : Int) ≤ 1048576 := fun j hj => by
      have := he j (by omega)
      rwa [rd_app1 a b j hj] at this
    have heb : ∀ j : Nat, j < b.length → -1048576 ≤ rd b (j : Int) ∧ rd b (j : Int) ≤ 1048576 := fun j hj => by
      have := he (a.length + j) (by omega)
      rwa [rd_app2 a b j] at this
    have hec : ∀ j : Nat, j < (b ++ a).length → -1048576 ≤ rd (b ++ a) (j : Int) ∧ rd (b ++ a) (j : Int) ≤ 1048576 := fun j hj => by
      by_cases h : j < b.length
      · rw [rd_app1 b a j h]; exact heb j h
      · obtain ⟨m, rfl⟩ : ∃ m, j = b.length + m := ⟨j - b.length, by omega⟩
        rw [rd_app2]; exact hea m (by omega)
    have ba := vlin_bd a gap g1 g2 a.length hea _ (Nat.le_refl _)
    have bb := vlin_bd b gap g1 g2 b.length heb _ (Nat.le_refl _)
    have eab := vlin_app2 a b gap b.length
    have eba := vlin_app2 b a gap a.length
    rw [← hab] at eab
    rw [← hba] at eba
    have f1 := long_lin (a ++ b) gap g1 g2 (by omega) he
    have f2 := long_lin (b ++ a) gap g1 g2 (by omega) hec
    rw [if_neg (by omega), long_lin a gap g1 g2 (by omega) hea k (by omega), long_lin b gap g1 g2 (by omega) heb k (by omega)]
    simp only [Option.bind_some]
    rw [w64 (x := vlin a gap a.length + vlin b gap b.length) (by omega) (by omega)]
    obtain ⟨k, rfl⟩ : ∃ m, k = m + 1 := ⟨k - 1, by omega⟩
    have go1 : 0 < a.length ∧ 0 < b.length → valancelaw07_LinesLong.j2 (k + 1) gap true (a ++ b) (b ++ a) (vlin a gap a.length + vlin b gap b.length) true = some true := fun hc => by
      simp only [valancelaw07_LinesLong.j2, if_true]
      rw [f1 k (by omega), f2 k (by omega)]
      simp only [Option.bind_some]
      rw [w64 (by omega) (by omega), if_pos (by rw [eab, if_pos hc]; omega), eba, if_pos (by omega)]
      congr 1
      rw [beq_iff_eq]; omega
    have go2 : ¬ (0 < a.length ∧ 0 < b.length) → valancelaw07_LinesLong.j2 (k + 1) gap true (a ++ b) (b ++ a) (vlin a gap a.length + vlin b gap b.length) false = some true := fun hc => by
      simp only [valancelaw07_LinesLong.j2, if_true, Bool.false_eq_true, if_false]
      rw [f1 k (by omega), f2 k (by omega)]
      simp only [Option.bind_some]
      rw [if_pos (by rw [eab, if_neg hc]; omega), eba, if_neg (by omega)]
      congr 1
      rw [beq_iff_eq]; omega
    by_cases c1 : (a.length : Int) > 0
    · rw [if_pos c1]
      by_cases c2 : (b.length : Int) > 0
      · rw [decide_eq_true c2]; exact go1 (by omega)
      · rw [decide_eq_false c2]; exact go2 (by omega)
    · rw [if_neg c1]; exact go2 (by omega)
  | succ d ih =>
    intro i k hd hi he hk
    obtain ⟨k, rfl⟩ : ∃ m, k = m + 1 := ⟨k - 1, by omega⟩
    simp only [valancelaw07_LinesLong.l0]
    rw [if_pos (by omega), if_pos (by omega)]
    refine ite_ (fun _ => rfl) (fun h1 => ite_ (fun _ => rfl) (fun h2 => ?_))
    rw [w64 (by omega) (by omega)]
    exact ih (i + 1) k (by omega) (by omega) (fun j hj => by
      by_cases e : j = i
      · subst e; omega
      · exact he j (by omega)) (by omega)
theorem LinesLong : valancelaw07_LinesLong.Pure := by
  intro a b gap _ _ _ _ _ _ _
  refine ⟨1000, ?_⟩
  unfold valancelaw07_LinesLong.f
  rw [lworks]
  simp only [Option.bind_some, if_true]
  have yes : valancelaw07_LinesLong.j0 1000 a b gap true true = some true := by simp only [valancelaw07_LinesLong.j0]; rfl
  refine ite_ (fun _ => yes) (fun h1 => ite_ (fun _ => yes) (fun h2 => ite_ (fun _ => yes) (fun h3 => ?_)))
  by_cases h8 : gap > 1048576
  · rw [decide_eq_true h8]; exact yes
  rw [decide_eq_false h8]
  simp only [valancelaw07_LinesLong.j0, Bool.false_eq_true, if_false, List.nil_append, List.length_nil, Nat.zero_add, Option.bind_some]
  rw [if_pos (by omega), if_pos (by omega), if_pos (by omega), if_pos (by omega)]
  exact llong_l0 a b gap (by omega) (by omega) (by omega) (by omega) (a ++ b).length 0 999 (by omega) (by omega) (fun j hj => by omega) (by rw [List.length_append]; omega)
end Go.Proofs.Ytnmcefpnpfaklad.Pure
