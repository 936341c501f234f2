/- What is on a line, and where it begins, in closed words: how long a line is, where each begins, and how what is left is shared. -/
import Derived.Test.YtnmcefpnpfakladVx0
import Derived.Test.YtnmcefpnpfakladVx2
import Derived.Test.YtnmcefpnpfakladVx3
import Derived.Test.YtnmcefpnpfakladVx4
import Derived.Test.YtnmcefpnpfakladVx11
import Derived.Test.YtnmcefpnpfakladVx16
import Derived.Test.YtnmcefpnpfakladVx17
namespace Go.Proofs.Ytnmcefpnpfaklad.Plain
open Go.RowKit Go.Proofs.Ytnmcefpnpfaklad.V Go.Proofs.YtnmcefpnpfakladW.PrintWords Go.Proofs.YtnmcefpnpfakladW.PrintMore

theorem wrap_id {x : Int} (h : -9223372036854775808 ≤ x) (h2 : x ≤ 9223372036854775807) : wrap64 x = x := by unfold wrap64; omega
theorem ite_ {c : Prop} [Decidable c] {α : Type} {a b r : α} (h1 : c → a = r) (h2 : ¬ c → b = r) : (if c then a else b) = r := by
  split
  · rename_i h; exact h1 h
  · rename_i h; exact h2 h
theorem up_of {α : Type} {g : Nat → Option α} (hm : ∀ k, LeO (g k) (g (k + 1))) {k0 : Nat} {r : α} (h : g k0 = some r) (k : Nat) (hk : k0 ≤ k) : g k = some r := by
  induction k with
  | zero => obtain rfl : k0 = 0 := by omega
            exact h
  | succ k ih =>
    by_cases e : k0 = k + 1
    · subst e; exact h
    · exact hm k r (ih (by omega))

/-! ### How long a line is -/
def vlg (l : List Int) (gap : Int) : Nat → Nat → Int → Int
  | 0, _, n => n
  | d + 1, i, n => vlg l gap d (i + 1) (vadd (if 0 < (i : Int) then vadd n gap else n) (rd l i))
theorem long_l0 (l : List Int) (gap : Int) (hl : l.length ≤ 17592186044416) : ∀ (d i k : Nat) (n : Int), i + d = l.length → d < k → lines_Long.l0 k gap n l (l.length : Int) i = some (vlg l gap d i n) := by
  intro d
  induction d with
  | zero =>
    intro i k n hd hk
    obtain ⟨k, rfl⟩ : ∃ m, k = m + 1 := ⟨k - 1, by omega⟩
    simp only [lines_Long.l0]
    rw [if_neg (by omega)]; rfl
  | succ d ih =>
    intro i k n hd hk
    obtain ⟨k, rfl⟩ : ∃ m, k = m + 1 := ⟨k - 1, by omega⟩
    simp only [lines_Long.l0, fix_Add_eq, Option.bind_some]
    rw [if_pos (by omega), if_pos (by omega), if_pos (by omega), wrap_id (by omega) (by omega)]
    by_cases h : (i : Int) > 0
    · rw [if_pos h, show (i : Int) + 1 = ((i + 1 : Nat) : Int) from rfl, ih (i + 1) k _ (by omega) (by omega)]
      simp only [vlg]; rw [if_pos h]
    · rw [if_neg h, show (i : Int) + 1 = ((i + 1 : Nat) : Int) from rfl, ih (i + 1) k _ (by omega) (by omega)]
      simp only [vlg]; rw [if_neg h]
theorem long_eq (l : List Int) (gap : Int) (hl : l.length ≤ 17592186044416) (k : Nat) (hk : l.length < k) : lines_Long.f k l gap = some (vlg l gap l.length 0 0) := long_l0 l gap hl l.length 0 k 0 (by omega) hk
theorem ref_long_l0 (l : List Int) (gap : Int) (hl : l.length ≤ 17592186044416) : ∀ (d i k : Nat) (n : Int), i + d = l.length → d < k → valanceref07_Long.l0 k l gap n i = some (vlg l gap d i n) := by
  intro d
  induction d with
  | zero =>
    intro i k n hd hk
    obtain ⟨k, rfl⟩ : ∃ m, k = m + 1 := ⟨k - 1, by omega⟩
    simp only [valanceref07_Long.l0]
    rw [if_neg (by omega)]; rfl
  | succ d ih =>
    intro i k n hd hk
    obtain ⟨k, rfl⟩ : ∃ m, k = m + 1 := ⟨k - 1, by omega⟩
    simp only [valanceref07_Long.l0, ref_Add_eq, Option.bind_some]
    rw [if_pos (by omega)]
    by_cases h : (i : Int) > 0
    · rw [if_pos h, if_pos (by omega), wrap_id (by omega) (by omega), show (i : Int) + 1 = ((i + 1 : Nat) : Int) from rfl, ih (i + 1) k _ (by omega) (by omega)]
      simp only [vlg]; rw [if_pos h]
    · rw [if_neg h, if_pos (by omega), wrap_id (by omega) (by omega), show (i : Int) + 1 = ((i + 1 : Nat) : Int) from rfl, ih (i + 1) k _ (by omega) (by omega)]
      simp only [vlg]; rw [if_neg h]
theorem ref_long_eq (l : List Int) (gap : Int) (hl : l.length ≤ 17592186044416) (k : Nat) (hk : l.length < k) : valanceref07_Long.f k l gap = some (vlg l gap l.length 0 0) := ref_long_l0 l gap hl l.length 0 k 0 (by omega) hk

/-- Where the i-th begins, if nothing is shared. -/
def ps (l : List Int) (gap : Int) : Nat → Int
  | 0 => 0
  | i + 1 => ps l gap i + rd l i + gap
/-- All within the limits that the laws ask about. -/
structure Small (l : List Int) (gap : Int) : Prop where
  len : l.length ≤ 64
  gap0 : 0 ≤ gap
  gap1 : gap ≤ 1048576
  each : ∀ j : Nat, j < l.length → 0 ≤ rd l j ∧ rd l j ≤ 1048576
theorem ps_bd {l : List Int} {gap : Int} (h : Small l gap) : ∀ i : Nat, i ≤ l.length → 0 ≤ ps l gap i ∧ ps l gap i ≤ 2097152 * (i : Int) := by
  intro i
  induction i with
  | zero => intro _; exact ⟨Int.le_refl _, by simp [ps]⟩
  | succ i ih =>
    intro hi
    have h1 := ih (by omega)
    have h2 := h.each i (by omega)
    have h3 := h.gap0
    have h4 := h.gap1
    simp only [ps]
    omega
/-- How long the first i are. -/
def ns (l : List Int) (gap : Int) (i : Nat) : Int := if i = 0 then 0 else ps l gap i - gap
theorem vlg_eq {l : List Int} {gap : Int} (h : Small l gap) : ∀ (d i : Nat), i + d = l.length → vlg l gap d i (ns l gap i) = ns l gap l.length := by
  intro d
  induction d with
  | zero => intro i hd; obtain rfl : i = l.length := by omega
            rfl
  | succ d ih =>
    intro i hd
    simp only [vlg]
    rw [← ih (i + 1) (by omega)]
    congr 1
    have h1 := ps_bd h i (by omega)
    have h2 := h.each i (by omega)
    have h3 := h.gap0
    have h4 := h.gap1
    have h5 := h.len
    have e : ns l gap (i + 1) = ps l gap i + rd l i := by unfold ns; rw [if_neg (by omega)]; simp only [ps]; omega
    rw [e]
    by_cases h0 : i = 0
    · subst h0
      rw [if_neg (by omega)]
      unfold vadd
      rw [show ns l gap 0 = 0 from rfl, show ps l gap 0 = 0 from rfl, vcut_id (n := 0) (by omega) (by omega), vcut_id (n := rd l _) (by omega) (by omega), vcut_id (by omega) (by omega)]
    · have e2 : ns l gap i = ps l gap i - gap := by unfold ns; rw [if_neg h0]
      have h6 : 0 ≤ ps l gap i - gap := by
        obtain ⟨m, hm⟩ : ∃ m, i = m + 1 := ⟨i - 1, by omega⟩
        have h7 := ps_bd h m (by omega)
        have h8 := h.each m (by omega)
        rw [hm]; simp only [ps]; omega
      rw [if_pos (by omega), e2]
      unfold vadd
      rw [vcut_id (n := ps l gap i - gap) (by omega) (by omega), vcut_id (n := gap) (by omega) (by omega), vcut_id (n := ps l gap i - gap + gap) (by omega) (by omega), vcut_id (n := ps l gap i - gap + gap) (by omega) (by omega), vcut_id (n := rd l i) (by omega) (by omega), vcut_id (by omega) (by omega)]
      omega
theorem long_small {l : List Int} {gap : Int} (h : Small l gap) (k : Nat) (hk : l.length < k) : lines_Long.f k l gap = some (ns l gap l.length) := by
  have h5 := h.len
  rw [long_eq l gap (by omega) k hk]
  have := vlg_eq h l.length 0 (by omega)
  rw [show ns l gap 0 = 0 from rfl] at this
  rw [this]
theorem ns_bd {l : List Int} {gap : Int} (h : Small l gap) : 0 ≤ ns l gap l.length ∧ ns l gap l.length ≤ 134217728 := by
  have h1 := ps_bd h l.length (Nat.le_refl _)
  have h3 := h.gap0
  have h4 := h.gap1
  have h5 := h.len
  unfold ns
  split
  · omega
  · rename_i h0
    obtain ⟨m, hm⟩ : ∃ m, l.length = m + 1 := ⟨l.length - 1, by omega⟩
    rw [hm] at h1 ⊢
    have h6 := ps_bd h m (by omega)
    have h7 := h.each m (by omega)
    simp only [ps] at h1 ⊢
    omega
/-- The last one ends where the line does. -/
theorem ns_last {l : List Int} {gap : Int} (h0 : 0 < l.length) : ps l gap (l.length - 1) + rd l ((l.length - 1 : Nat) : Int) = ns l gap l.length := by
  unfold ns
  rw [if_neg (by omega)]
  obtain ⟨m, hm⟩ : ∃ m, l.length = m + 1 := ⟨l.length - 1, by omega⟩
  rw [hm]
  simp only [ps, Nat.add_sub_cancel]
  omega

/-! ### Where each begins -/
theorem rd_app_lt (B : List Int) (v : Int) (x : Nat) (h : x < B.length) : rd (B ++ [v]) x = rd B x := by
  unfold rd
  rw [List.getD_eq_getElem?_getD, List.getD_eq_getElem?_getD, List.getElem?_append_left (by omega)]
theorem rd_app_eq (B : List Int) (v : Int) : rd (B ++ [v]) (B.length : Int) = v := by
  unfold rd
  simp [List.getD_eq_getElem?_getD]
theorem vst_len (kd left n gap : Int) (l : List Int) : ∀ (d i : Nat) (at_ was : Int) (out : List Int), (vst kd left n gap l d i at_ was out).length = out.length + d := by
  intro d
  induction d with
  | zero => intro i at_ was out; rfl
  | succ d ih => intro i at_ was out; simp only [vst]; rw [ih]; simp; omega
theorem vst_closed {l : List Int} {gap : Int} (h : Small l gap) (kd left : Int) (hs : ∀ k : Nat, k < l.length → -4294967296 ≤ vshare kd left l.length k ∧ vshare kd left l.length k ≤ 4294967296) :
    ∀ (d i : Nat) (at_ was : Int) (out : List Int), i + d = l.length → at_ = ns l gap i + was → -4294967296 ≤ was → was ≤ 4294967296 → (i = 0 → was = 0) → out.length = i → (∀ j : Nat, j < i → rd out j = ps l gap j + vshare kd left l.length j) →
    ∀ j : Nat, j < l.length → rd (vst kd left l.length gap l d i at_ was out) j = ps l gap j + vshare kd left l.length j := by
  intro d
  induction d with
  | zero => intro i at_ was out hd _ _ _ _ _ ho j hj; exact ho j (by omega)
  | succ d ih =>
    intro i at_ was out hd hat hw1 hw2 hw0 hlo ho
    have h1 := ps_bd h i (by omega)
    have h2 := h.each i (by omega)
    have h3 := h.gap0
    have h4 := h.gap1
    have h5 := h.len
    have h6 := hs i (by omega)
    have e1 : (if 0 < (i : Int) then vadd at_ gap else at_) = ps l gap i + was := by
      unfold ns at hat
      by_cases h0 : i = 0
      · rw [if_neg (by omega), hat, if_pos h0]; subst h0; simp [ps]
      · rw [if_neg h0] at hat
        rw [if_pos (by omega)]
        unfold vadd
        rw [vcut_id (n := at_) (by omega) (by omega), vcut_id (n := gap) (by omega) (by omega), vcut_id (by omega) (by omega)]
        omega
    have e2 : vadd (ps l gap i + was) (vshare kd left l.length i - was) = ps l gap i + vshare kd left l.length i := by
      unfold vadd
      rw [vcut_id (n := ps l gap i + was) (by omega) (by omega), vcut_id (n := vshare kd left l.length i - was) (by omega) (by omega), vcut_id (by omega) (by omega)]
      omega
    have e3 : vadd (ps l gap i + vshare kd left l.length i) (rd l i) = ns l gap (i + 1) + vshare kd left l.length i := by
      unfold vadd ns
      rw [vcut_id (n := ps l gap i + vshare kd left l.length i) (by omega) (by omega), vcut_id (n := rd l i) (by omega) (by omega), vcut_id (by omega) (by omega), if_neg (by omega)]
      simp only [ps]
      omega
    simp only [vst, e1, e2, e3]
    refine ih (i + 1) _ _ _ (by omega) rfl h6.1 h6.2 (fun e => by omega) (by rw [List.length_append, hlo]; rfl) (fun j hj => ?_)
    by_cases e : j = i
    · subst e; rw [← hlo, rd_app_eq, hlo]
    · rw [rd_app_lt _ _ _ (by omega)]; exact ho j (by omega)

/-! ### How what is left is shared -/
/-- What is left, and how it is shared, within the limits. -/
def shr_ (kd left n : Int) (k : Nat) : Int := if kd = 1 then left else if kd = 2 then left / 2 else if kd = 3 then left * k / (n - 1) else if kd = 4 then left * (2 * k + 1) / (2 * n) else if kd = 5 then left * (k + 1) / (n + 1) else 0
theorem mul_bd (a k : Int) (ha : -2147483648 ≤ a) (ha2 : a ≤ 2147483648) (hk : 0 ≤ k) (hk2 : k ≤ 200) : -429496729600 ≤ a * k ∧ a * k ≤ 429496729600 := by
  have := vmul_bd ha ha2 hk hk2 (by omega)
  omega
theorem jpart_eq (a k m : Int) (ha : -2147483648 ≤ a) (ha2 : a ≤ 2147483648) (hk : 0 ≤ k) (hk2 : k ≤ 200) (hm : 0 < m) (hm2 : m ≤ 200) : vjpart a k m = a * k / m := by
  have h := mul_bd a k ha ha2 hk hk2
  unfold vjpart vdivd vmul
  rw [if_neg (by omega), vcut_id (n := a) (by omega) (by omega), vcut_id (n := k) (by omega) (by omega), vcut_id (n := a * k) (by omega) (by omega), vcut_id (n := a * k) (by omega) (by omega), vcut_id (n := m) (by omega) (by omega)]
theorem share_eq (kd left n : Int) (k : Nat) (ha : -2147483648 ≤ left) (ha2 : left ≤ 2147483648) (hn : 0 < n) (hn2 : n ≤ 64) (hk : (k : Int) ≤ 64) (h3 : kd = 3 → 1 < n) : vshare kd left n k = shr_ kd left n k := by
  unfold vshare shr_
  by_cases h1 : kd = 1
  · rw [if_pos h1, if_pos h1]
  rw [if_neg h1, if_neg h1]
  by_cases h2 : kd = 2
  · rw [if_pos h2, if_pos h2]; unfold vdivd; rw [if_neg (by omega), vcut_id (n := left) (by omega) (by omega), vcut_id (n := 2) (by omega) (by omega)]
  rw [if_neg h2, if_neg h2]
  by_cases h3' : kd = 3
  · rw [if_pos h3', if_pos h3', jpart_eq _ _ _ ha ha2 (by omega) (by omega) (by have := h3 h3'; omega) (by omega)]
  rw [if_neg h3', if_neg h3']
  by_cases h4 : kd = 4
  · rw [if_pos h4, if_pos h4, jpart_eq _ _ _ ha ha2 (by omega) (by omega) (by omega) (by omega)]
  rw [if_neg h4, if_neg h4]
  by_cases h5 : kd = 5
  · rw [if_pos h5, if_pos h5, jpart_eq _ _ _ ha ha2 (by omega) (by omega) (by omega) (by omega)]
  rw [if_neg h5, if_neg h5]
theorem ediv_bd2 (a m : Int) (hm : 0 < m) (A : Int) (h1 : -A ≤ a) (h2 : a ≤ A) : -A ≤ a / m ∧ a / m ≤ A := by
  have h := ediv_bd (a := a) hm
  by_cases h0 : 0 ≤ a
  · have := h.1 h0; omega
  · have := h.2 (by omega); omega
theorem vkind_3 {kind left n : Int} (h : vkind kind left n = 3) : 1 < n ∧ 0 < left := by
  unfold vkind at h
  by_cases h1 : kind = 4 ∨ kind = 5
  · rw [if_pos h1] at h; split at h <;> omega
  · rw [if_neg h1] at h
    by_cases h2 : kind = 3
    · rw [if_pos h2] at h; split at h <;> omega
    · rw [if_neg h2] at h; omega
theorem vkind_45 {kind left n : Int} (h : vkind kind left n = 4 ∨ vkind kind left n = 5) : 0 < left := by
  unfold vkind at h
  by_cases h1 : kind = 4 ∨ kind = 5
  · rw [if_pos h1] at h; split at h <;> omega
  · rw [if_neg h1] at h
    by_cases h2 : kind = 3
    · rw [if_pos h2] at h; split at h <;> omega
    · rw [if_neg h2] at h; omega
theorem frac_bd (a p q A : Int) (h0 : 0 ≤ p) (h1 : p ≤ q) (hq : 0 < q) (ha : -A ≤ a) (ha2 : a ≤ A) (hA : 0 ≤ A) : -A ≤ a * p / q ∧ a * p / q ≤ A := by
  have h := vmul_bd ha ha2 h0 h1 hA
  constructor
  · apply Int.le_ediv_of_mul_le hq; rw [Int.neg_mul]; exact h.1
  · have : a * p / q ≤ A * q / q := Int.ediv_le_ediv hq h.2
    rw [Int.mul_ediv_cancel _ (by omega)] at this
    exact this
theorem frac_nn (a p q : Int) (ha : 0 ≤ a) (h0 : 0 ≤ p) (hq : 0 < q) : 0 ≤ a * p / q := Int.ediv_nonneg (Int.mul_nonneg ha h0) (by omega)
theorem frac_le (a p q : Int) (ha : 0 ≤ a) (h0 : 0 ≤ p) (h1 : p ≤ q) (hq : 0 < q) : a * p / q ≤ a := (frac_bd a p q a h0 h1 hq (by omega) (Int.le_refl _) ha).2
theorem frac_mono (a p p' q : Int) (ha : 0 ≤ a) (h : p ≤ p') (hq : 0 < q) : a * p / q ≤ a * p' / q := Int.ediv_le_ediv hq (Int.mul_le_mul_of_nonneg_left h ha)
/-- A sum's part is that of its parts, or one more. -/
theorem frac_add (x y q : Int) (hq : 0 < q) : x / q + y / q ≤ (x + y) / q ∧ (x + y) / q ≤ x / q + y / q + 1 := by
  have h1 := Int.ediv_mul_le x (b := q) (by omega)
  have h2 := Int.ediv_mul_le y (b := q) (by omega)
  have h3 := Int.lt_ediv_add_one_mul_self x hq
  have h4 := Int.lt_ediv_add_one_mul_self y hq
  constructor
  · apply Int.le_ediv_of_mul_le hq
    rw [Int.add_mul]; omega
  · have : (x + y) / q < x / q + y / q + 2 := by
      apply Int.ediv_lt_of_lt_mul hq
      rw [show x / q + y / q + 2 = (x / q + 1) + (y / q + 1) by omega, Int.add_mul]
      omega
    omega
theorem shr_bd (kd left n : Int) (k : Nat) (ha : -2147483648 ≤ left) (ha2 : left ≤ 2147483648) (hk : (k : Int) < n) (h3 : kd = 3 → 1 < n) : -2147483648 ≤ shr_ kd left n k ∧ shr_ kd left n k ≤ 2147483648 := by
  unfold shr_
  by_cases h1 : kd = 1
  · rw [if_pos h1]; omega
  rw [if_neg h1]
  by_cases h2 : kd = 2
  · rw [if_pos h2]; exact ediv_bd2 _ _ (by omega) _ ha ha2
  rw [if_neg h2]
  by_cases h3' : kd = 3
  · rw [if_pos h3']; have := h3 h3'; exact frac_bd _ _ _ _ (by omega) (by omega) (by omega) ha ha2 (by omega)
  rw [if_neg h3']
  by_cases h4 : kd = 4
  · rw [if_pos h4]; exact frac_bd _ _ _ _ (by omega) (by omega) (by omega) ha ha2 (by omega)
  rw [if_neg h4]
  by_cases h5 : kd = 5
  · rw [if_pos h5]; exact frac_bd _ _ _ _ (by omega) (by omega) (by omega) ha ha2 (by omega)
  rw [if_neg h5]; omega
/-- What Starts comes to, within the limits. -/
theorem starts_small {l : List Int} {gap : Int} (h : Small l gap) (kind room : Int) (hr : -134217728 ≤ room) (hr2 : room ≤ 1610612736) (k : Nat) (hk : l.length < k) :
    ∃ a : List Int, justify_Starts.f k kind l room gap = some a ∧ a.length = l.length ∧
      ∀ j : Nat, j < l.length → rd a j = ps l gap j + shr_ (vkind kind (room - ns l gap l.length) l.length) (room - ns l gap l.length) l.length j := by
  have hb := ns_bd h
  have h5 := h.len
  have hleft : vsub room (ns l gap l.length) = room - ns l gap l.length := by
    unfold vsub
    rw [vcut_id (n := room) (by omega) (by omega), vcut_id (n := ns l gap l.length) (by omega) (by omega), vcut_id (by omega) (by omega)]
  have hsh : ∀ k : Nat, k < l.length → vshare (vkind kind (room - ns l gap l.length) l.length) (room - ns l gap l.length) l.length k = shr_ (vkind kind (room - ns l gap l.length) l.length) (room - ns l gap l.length) l.length k := fun k hk =>
    share_eq _ _ _ k (by omega) (by omega) (by omega) (by omega) (by omega) (fun e => (vkind_3 e).1)
  unfold justify_Starts.f
  rw [long_small h k hk]
  simp only [Option.bind_some]
  rw [if_pos (by omega), hleft]
  refine ⟨_, rfl, by rw [vst_len]; simp, fun j hj => ?_⟩
  rw [← hsh j hj]
  refine vst_closed h _ _ (fun k hk => ?_) l.length 0 0 0 [] (by omega) (by simp [ns]) (by omega) (by omega) (fun _ => rfl) rfl (fun j hj => by omega) j hj
  rw [hsh k hk]
  have := shr_bd (vkind kind (room - ns l gap l.length) l.length) (room - ns l gap l.length) l.length k (by omega) (by omega) (by omega) (fun e => (vkind_3 e).1)
  omega
end Go.Proofs.Ytnmcefpnpfaklad.Plain
