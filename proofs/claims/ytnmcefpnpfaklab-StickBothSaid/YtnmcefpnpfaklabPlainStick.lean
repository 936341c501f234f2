/- How far what sticks is shifted, in plain words; within the limit it is plain reckoning. -/
import Derived.Test.YtnmcefpnpfaklabVx0
import Derived.Test.YtnmcefpnpfaklabVx2
import Derived.Test.YtnmcefpnpfaklabVx3
import Derived.Test.YtnmcefpnpfaklabVx4
import Derived.Test.YtnmcefpnpfaklabVx12
import Derived.Test.YtnmcefpnpfaklabVx13
import Derived.Test.YtnmcefpnpfaklabVx24
namespace Go.Proofs.Ytnmcefpnpfaklab.Plain
open Go.RowKit Go.Proofs.Ytnmcefpnpfaklab.V Go.Proofs.YtnmcefpnpfaklabW.PrintWords Go.Proofs.YtnmcefpnpfaklabW.PrintMore
theorem swrap_id {x : Int} (h : -9223372036854775808 ≤ x) (h2 : x ≤ 9223372036854775807) : wrap64 x = x := by unfold wrap64; omega
theorem site_ {c : Prop} [Decidable c] {α : Type} {a b r : α} (h1 : c → a = r) (h2 : ¬ c → b = r) : (if c then a else b) = r := by
  split
  · rename_i h; exact h1 h
  · rename_i h; exact h2 h
def vover (a b : Int) : Int := mx (vsub a b) 0
theorem vover_bd (a b : Int) : 0 ≤ vover a b ∧ vover a b ≤ 1099511627776 := by
  have := vcut_bd (vcut a - vcut b)
  unfold vover vsub mx; split <;> omega
def vshift (bl bh il ih pl ph : Int) (bo : Bool) (bn : Int) (eo : Bool) (en : Int) : Int :=
  if bo = true ∧ 0 < vover (vadd pl bn) bl then mn (vover (vadd pl bn) bl) (vover ih bh)
  else if eo = true then -(mn (if bo = true then mn (vover bh (vsub ph en)) (vover bl (vadd pl bn)) else vover bh (vsub ph en)) (vover bl il)) else 0
theorem mn_bd {a b : Int} (h : 0 ≤ a) (h2 : a ≤ 1099511627776) (h3 : 0 ≤ b) (h4 : b ≤ 1099511627776) : 0 ≤ mn a b ∧ mn a b ≤ 1099511627776 := by unfold mn; split <;> omega
theorem over_eq (a b : Int) : stick_over.f a b = some (vover a b) := by unfold stick_over.f; rw [fix_Sub_eq]; rfl
theorem ref_over_eq (a b : Int) : valanceref10_over.f a b = some (vover a b) := by unfold valanceref10_over.f; rw [ref_Sub_eq]; rfl
theorem shift_eq (k : Nat) (hk : 1 ≤ k) (bl bh il ih pl ph : Int) (bo : Bool) (bn : Int) (eo : Bool) (en : Int) : stick_Shift.f k bl bh il ih pl ph bo bn eo en = some (vshift bl bh il ih pl ph bo bn eo en) := by
  obtain ⟨k, rfl⟩ : ∃ m, k = m + 1 := ⟨k - 1, by omega⟩
  unfold stick_Shift.f vshift
  simp only [fix_Add_eq, fix_Sub_eq, over_eq, Option.bind_some, stick_Shift.j0]
  have h1 := vover_bd bh (vsub ph en)
  have h2 := vover_bd bl (vadd pl bn)
  have h3 := vover_bd bl il
  have h4 := mn_bd h1.1 h1.2 h2.1 h2.2
  have h5 := mn_bd h1.1 h1.2 h3.1 h3.2
  have h6 := mn_bd h4.1 h4.2 h3.1 h3.2
  by_cases hd : 0 < vover (vadd pl bn) bl
  · cases bo <;> cases eo <;> simp [hd] <;> exact swrap_id (by omega) (by omega)
  · cases bo <;> cases eo <;> simp [hd] <;> exact swrap_id (by omega) (by omega)
theorem ref_shift_eq (k : Nat) (hk : 2 ≤ k) (bl bh il ih pl ph : Int) (bo : Bool) (bn : Int) (eo : Bool) (en : Int) : valanceref10_Shift.f k bl bh il ih pl ph bo bn eo en = some (vshift bl bh il ih pl ph bo bn eo en) := by
  obtain ⟨k, rfl⟩ : ∃ m, k = m + 2 := ⟨k - 2, by omega⟩
  unfold valanceref10_Shift.f vshift
  simp only [ref_Add_eq, ref_Sub_eq, ref_over_eq, Option.bind_some, valanceref10_Shift.j0, valanceref10_Shift.j1]
  have h1 := vover_bd bh (vsub ph en)
  have h2 := vover_bd bl (vadd pl bn)
  have h3 := vover_bd bl il
  have h4 := mn_bd h1.1 h1.2 h2.1 h2.2
  have h5 := mn_bd h1.1 h1.2 h3.1 h3.2
  have h6 := mn_bd h4.1 h4.2 h3.1 h3.2
  have z : mn 0 (vover bl il) = 0 := by unfold mn; split <;> omega
  have w5 : wrap64 (-(mn (vover bh (vsub ph en)) (vover bl il))) = -(mn (vover bh (vsub ph en)) (vover bl il)) := swrap_id (by omega) (by omega)
  have w6 : wrap64 (-(mn (mn (vover bh (vsub ph en)) (vover bl (vadd pl bn))) (vover bl il))) = -(mn (mn (vover bh (vsub ph en)) (vover bl (vadd pl bn))) (vover bl il)) := swrap_id (by omega) (by omega)
  have u1 : vover bh (vsub ph en) > 0 ∨ vover bh (vsub ph en) = 0 := by omega
  have u2 : mn (vover bh (vsub ph en)) (vover bl (vadd pl bn)) > 0 ∨ mn (vover bh (vsub ph en)) (vover bl (vadd pl bn)) = 0 := by omega
  cases bo
  · cases eo
    · simp
    · rcases u1 with u | u <;> simp [u, w5, z]
  · by_cases hd : 0 < vover (vadd pl bn) bl
    · cases eo <;> simp [hd]
    · cases eo
      · simp [hd]
      · rcases u2 with u | u <;> simp [hd, u, w6, z]
theorem sadd_in {a b : Int} (ha : -8589934592 ≤ a) (ha2 : a ≤ 8589934592) (hb : -8589934592 ≤ b) (hb2 : b ≤ 8589934592) : vadd a b = a + b := by
  unfold vadd; rw [vcut_id (n := a) (by omega) (by omega), vcut_id (n := b) (by omega) (by omega), vcut_id (by omega) (by omega)]
theorem ssub_in {a b : Int} (ha : -8589934592 ≤ a) (ha2 : a ≤ 8589934592) (hb : -8589934592 ≤ b) (hb2 : b ≤ 8589934592) : vsub a b = a - b := by
  unfold vsub; rw [vcut_id (n := a) (by omega) (by omega), vcut_id (n := b) (by omega) (by omega), vcut_id (by omega) (by omega)]
theorem sover_in {a b : Int} (ha : -8589934592 ≤ a) (ha2 : a ≤ 8589934592) (hb : -8589934592 ≤ b) (hb2 : b ≤ 8589934592) : vover a b = max (a - b) 0 := by
  unfold vover; rw [ssub_in ha ha2 hb hb2]; unfold mx; split <;> omega
theorem mn_min (a b : Int) : mn a b = min a b := by unfold mn; split <;> omega
/-- The same in plain numbers. -/
def lsh (bl bh il ih pl ph : Int) (bo : Bool) (bn : Int) (eo : Bool) (en : Int) : Int :=
  if bo = true ∧ 0 < pl + bn - bl then min (pl + bn - bl) (max (ih - bh) 0)
  else if eo = true then -(min (if bo = true then min (max (bh - (ph - en)) 0) (max (bl - (pl + bn)) 0) else max (bh - (ph - en)) 0) (max (bl - il) 0)) else 0
theorem lsh_eq {bl bh il ih pl ph bn en : Int} (bo eo : Bool) (h1 : -2147483648 ≤ bl) (h2 : bl ≤ 2147483648) (h3 : -2147483648 ≤ bh) (h4 : bh ≤ 2147483648) (h5 : -2147483648 ≤ il) (h6 : il ≤ 2147483648) (h7 : -2147483648 ≤ ih) (h8 : ih ≤ 2147483648)
    (h9 : -2147483648 ≤ pl) (h10 : pl ≤ 2147483648) (h11 : -2147483648 ≤ ph) (h12 : ph ≤ 2147483648) (h13 : -2147483648 ≤ bn) (h14 : bn ≤ 2147483648) (h15 : -2147483648 ≤ en) (h16 : en ≤ 2147483648) : vshift bl bh il ih pl ph bo bn eo en = lsh bl bh il ih pl ph bo bn eo en := by
  unfold vshift lsh
  rw [sadd_in (a := pl) (b := bn) (by omega) (by omega) (by omega) (by omega), ssub_in (a := ph) (b := en) (by omega) (by omega) (by omega) (by omega), sover_in (a := pl + bn) (b := bl) (by omega) (by omega) (by omega) (by omega), sover_in (a := ih) (b := bh) (by omega) (by omega) (by omega) (by omega),
    sover_in (a := bh) (b := ph - en) (by omega) (by omega) (by omega) (by omega), sover_in (a := bl) (b := pl + bn) (by omega) (by omega) (by omega) (by omega), sover_in (a := bl) (b := il) (by omega) (by omega) (by omega) (by omega)]
  simp only [mn_min]
  have e : (0 < max (pl + bn - bl) 0) = (0 < pl + bn - bl) := by apply propext; omega
  simp only [e]
  by_cases hd : 0 < pl + bn - bl
  · rw [show max (pl + bn - bl) 0 = pl + bn - bl by omega]
  · simp only [hd, and_false, if_false]
theorem lsh_cases (bl bh il ih pl ph bn en : Int) (bo eo : Bool) (t : Int) (ht : lsh bl bh il ih pl ph bo bn eo en = t) :
    (bo = true ∧ 0 < pl + bn - bl ∧ ((t = pl + bn - bl ∧ t ≤ ih - bh) ∨ (t = ih - bh ∧ t ≤ pl + bn - bl ∧ 0 ≤ t) ∨ (t = 0 ∧ ih ≤ bh))) ∨ (t = 0 ∧ eo = false ∧ (bo = true → pl + bn - bl ≤ 0)) ∨
    (eo = true ∧ (bo = true → pl + bn - bl ≤ 0) ∧ ((t = 0 ∧ (bh - (ph - en) ≤ 0 ∨ (bo = true ∧ bl - (pl + bn) ≤ 0) ∨ bl - il ≤ 0)) ∨ (t < 0 ∧ -t ≤ bh - (ph - en) ∧ -t ≤ bl - il ∧ (bo = true → -t ≤ bl - (pl + bn)) ∧ (-t = bh - (ph - en) ∨ -t = bl - il ∨ (bo = true ∧ -t = bl - (pl + bn)))))) := by
  unfold lsh at ht
  simp only [Int.min_def, Int.max_def] at ht
  cases bo <;> cases eo <;> simp at ht ⊢ <;> (repeat' split at ht) <;> omega
theorem lsh_bd {bl bh il ih pl ph bn en : Int} (bo eo : Bool) (h1 : -2147483648 ≤ bl) (h2 : bl ≤ 2147483648) (h3 : -2147483648 ≤ bh) (h4 : bh ≤ 2147483648) (h5 : -2147483648 ≤ il) (h6 : il ≤ 2147483648) (h7 : -2147483648 ≤ ih) (h8 : ih ≤ 2147483648) : -8589934592 ≤ lsh bl bh il ih pl ph bo bn eo en ∧ lsh bl bh il ih pl ph bo bn eo en ≤ 8589934592 := by
  rcases lsh_cases bl bh il ih pl ph bn en bo eo _ rfl with h | h | h <;> omega
theorem small_eq (a b : Int) : valancelaw10_small.f a b = some (decide (-1073741824 ≤ a ∧ b ≤ 1073741824 ∧ a ≤ b)) := by
  unfold valancelaw10_small.f
  by_cases h1 : a ≥ -1073741824
  · rw [if_pos h1]
    by_cases h2 : b ≤ 1073741824
    · rw [if_pos h2]; congr 1; apply decide_eq_decide.2; omega
    · rw [if_neg h2, decide_eq_false (by omega)]
  · rw [if_neg h1, decide_eq_false (by omega)]
end Go.Proofs.Ytnmcefpnpfaklab.Plain
