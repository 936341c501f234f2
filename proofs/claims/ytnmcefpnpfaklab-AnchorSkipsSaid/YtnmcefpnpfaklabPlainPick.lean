/- What anchor.Valid, anchor.Pick and their callees answer, in plain words: a row of nodes stands in order, and which one is picked. -/
import Derived.Test.YtnmcefpnpfaklabPlainTree
import Derived.Test.YtnmcefpnpfaklabVx19
namespace Go.Proofs.Ytnmcefpnpfaklab.Plain
open Go.RowKit Go.Proofs.Ytnmcefpnpfaklab.V Go.Proofs.YtnmcefpnpfaklabW.PrintWords

def Uf (l : List S56) (x : Int) : Int := (rd_T56 l x).f0
/-- How much of a span is seen. -/
def vsight (a b p q : Int) : Int := if mx a p < mn b q then (if b ≤ a ∨ p ≤ a ∧ b ≤ q then 2 else 1) else 0
def visf (l : List S56) (p q : Int) (i : Int) : Prop := (rd_T56 l i).f2 = false ∧ vsight (rd_T56 l i).f1.f0 (rd_T56 l i).f1.f1 p q ≠ 0
def whf (l : List S56) (p q : Int) (i : Int) : Prop := vsight (rd_T56 l i).f1.f0 (rd_T56 l i).f1.f1 p q = 2

theorem wrap_id {x : Int} (h : -9223372036854775808 ≤ x) (h2 : x ≤ 9223372036854775807) : wrap64 x = x := by unfold wrap64; omega

theorem sight_eq (a b p q : Int) : anchor_Sight.f a b p q = some (vsight a b p q) := by
  unfold anchor_Sight.f anchor_meets.f span_In.f span_empty.f vsight
  by_cases h1 : mx a p < mn b q
  · by_cases h2 : b ≤ a
    · simp [h1, h2]
    · by_cases h3 : p ≤ a
      · by_cases h4 : b ≤ q <;> simp [h1, h2, h3, h4]
      · simp [h1, h2, h3]
  · simp [h1]

theorem rd_take (l : List S56) (i : Nat) (x : Int) (h0 : 0 ≤ x) (h : x < i) : rd_T56 (l.take i) x = rd_T56 l x := by
  unfold rd_T56
  rw [List.getD_eq_getElem?_getD, List.getD_eq_getElem?_getD, List.getElem?_take_of_lt (by omega)]

theorem above_tells (l : List S56) (i : Nat) (hi : i ≤ l.length) (hU : ∀ j : Int, 0 ≤ j → j < i → -1 ≤ Uf l j ∧ Uf l j < j) (a : Int) (ha : -1 ≤ a) :
    ∀ (d : Nat) (x : Int) (k : Nat), x + 1 = d → x < i → d < k → ∃ b, anchor_above.l0 k (l.take i) a x = some b ∧ (b = true ↔ Anc (Uf l) a x) := by
  intro d
  induction d using Nat.strongRecOn with
  | _ d ih =>
    intro x k hd hx hk
    obtain ⟨k, rfl⟩ : ∃ m, k = m + 1 := ⟨k - 1, by omega⟩
    simp only [anchor_above.l0]
    by_cases h1 : x > a
    · have hu := hU x (by omega) hx
      rw [if_pos h1, if_pos (by omega), if_pos (by rw [List.length_take]; omega), rd_take l i x (by omega) hx]
      obtain ⟨b, hb, hb2⟩ := ih (Uf l x + 1).toNat (by omega) (Uf l x) k (by omega) (by omega) (by omega)
      refine ⟨b, hb, hb2.trans ⟨fun h => .step x a (by omega) h, fun h => (h.inv (by omega)).2⟩⟩
    · rw [if_neg h1]
      refine ⟨x == a, rfl, ?_⟩
      rw [beq_iff_eq]
      refine ⟨fun h => by rw [h]; exact .refl _, fun h => ?_⟩
      by_cases e : a = x
      · exact e.symm
      · obtain ⟨h0, h⟩ := h.inv e
        have hu := hU x h0 hx
        have := Anc.le' (n := i) (fun j g0 g1 => (hU j g0 g1).2) h (by omega)
        omega

theorem valid_l0 (l : List S56) (hn : l.length ≤ 4611686018427387904) : ∀ (d i : Nat) (k : Nat), i + d = l.length → VL (Uf l) i → d + l.length + 2 < k →
    ∃ b, anchor_Valid.l0 k l l (l.length : Int) i = some b ∧ (b = true ↔ VL (Uf l) l.length) := by
  intro d
  induction d with
  | zero =>
    intro i k hd hv hk
    obtain ⟨k, rfl⟩ : ∃ m, k = m + 1 := ⟨k - 1, by omega⟩
    simp only [anchor_Valid.l0]
    rw [if_neg (by omega)]
    exact ⟨true, rfl, fun _ => by rw [show (l.length : Int) = (i : Int) by omega]; exact hv, fun _ => rfl⟩
  | succ d ih =>
    intro i k hd hv hk
    obtain ⟨k, rfl⟩ : ∃ m, k = m + 1 := ⟨k - 1, by omega⟩
    simp only [anchor_Valid.l0]
    rw [if_pos (by omega), if_pos (by omega), if_pos (by omega)]
    have no : ¬ (-1 ≤ Uf l i ∧ Uf l i < i ∧ Anc (Uf l) (Uf l i) ((i : Int) - 1)) → ∃ b, (some false : Option Bool) = some b ∧ (b = true ↔ VL (Uf l) l.length) := fun h =>
      ⟨false, rfl, (fun h' => by cases h'), (fun h' => absurd (h' i (by omega) (by omega)) h)⟩
    by_cases h1 : (rd_T56 l i).f0 < -1
    · rw [if_pos h1]; exact no (fun h => by have : (rd_T56 l i).f0 = Uf l i := rfl; omega)
    rw [if_neg h1]
    by_cases h2 : (rd_T56 l i).f0 ≥ i
    · rw [if_pos h2]; exact no (fun h => by have : (rd_T56 l i).f0 = Uf l i := rfl; omega)
    rw [if_neg h2, if_pos (by omega), wrap_id (by omega) (by omega), wrap_id (by omega) (by omega)]
    obtain ⟨b, hb, hb2⟩ := above_tells l i (by omega) (fun j g0 g1 => ⟨(hv j g0 g1).1, (hv j g0 g1).2.1⟩) (Uf l i) (by show -1 ≤ (rd_T56 l i).f0; omega) i ((i : Int) - 1) k (by omega) (by omega) (by omega)
    unfold anchor_above.f
    rw [show ((i : Int)).toNat = i by omega]
    rw [show (rd_T56 l (i : Int)).f0 = Uf l i from rfl, hb]
    simp only [Option.bind_some]
    cases b with
    | false => rw [if_neg (by simp)]; exact no (fun h => by have := hb2.2 h.2.2; cases this)
    | true =>
      rw [if_pos rfl]
      have hv' : VL (Uf l) ((i + 1 : Nat) : Int) := by
        intro j g0 g1
        by_cases e : j = i
        · subst e; exact ⟨by show -1 ≤ (rd_T56 l i).f0; omega, by show (rd_T56 l i).f0 < i; omega, hb2.1 rfl⟩
        · exact hv j g0 (by omega)
      obtain ⟨b, hb, h⟩ := ih (i + 1) k (by omega) hv' (by omega)
      exact ⟨b, by rw [← hb]; congr 1, h⟩

theorem valid_tells (l : List S56) (hn : l.length ≤ 4611686018427387904) (k : Nat) (hk : 2 * l.length + 2 < k) :
    ∃ b, anchor_Valid.f k l = some b ∧ (b = true ↔ VL (Uf l) l.length) :=
  valid_l0 l hn l.length 0 k (by omega) (fun i h0 h1 => by omega) (by omega)

theorem behind_l0 (l : List S56) (hn : l.length ≤ 4611686018427387904) (a : Int) : ∀ (d j k : Nat), j + d = l.length → d < k →
    ∃ r, anchor_behind.l0 k l a j = some r ∧ Beh (Uf l) l.length a j r := by
  intro d
  induction d with
  | zero =>
    intro j k hd hk
    obtain ⟨k, rfl⟩ : ∃ m, k = m + 1 := ⟨k - 1, by omega⟩
    simp only [anchor_behind.l0]
    rw [if_neg (by omega)]
    exact ⟨_, rfl, by omega, by omega, fun i h0 h1 => by omega, fun h => by omega⟩
  | succ d ih =>
    intro j k hd hk
    obtain ⟨k, rfl⟩ : ∃ m, k = m + 1 := ⟨k - 1, by omega⟩
    simp only [anchor_behind.l0]
    rw [if_pos (by omega), if_pos (by omega), wrap_id (by omega) (by omega)]
    by_cases h : (rd_T56 l j).f0 ≥ a
    · rw [if_pos h]
      obtain ⟨r, hr, hb⟩ := ih (j + 1) k (by omega) (by omega)
      refine ⟨r, by rw [← hr]; congr 1, by have := hb.lo; omega, hb.hi, fun i h0 h1 => ?_, hb.out⟩
      by_cases e : i = j
      · subst e; exact h
      · exact hb.inn i (by omega) h1
    · rw [if_neg h]
      refine ⟨_, rfl, by omega, by omega, fun i h0 h1 => by omega, fun _ => ?_⟩
      show (rd_T56 l j).f0 < a
      omega

theorem behind_tells (l : List S56) (hn : l.length ≤ 4611686018427387904) (a : Int) (h0 : 0 ≤ a) (h1 : a < l.length) (k : Nat) (hk : l.length < k) :
    ∃ r, anchor_behind.f k l a = some r ∧ Beh (Uf l) l.length a (a + 1) r := by
  obtain ⟨r, hr, hb⟩ := behind_l0 l hn a (l.length - (a.toNat + 1)) (a.toNat + 1) k (by omega) (by omega)
  rw [show ((a.toNat + 1 : Nat) : Int) = a + 1 by omega] at hr hb
  refine ⟨r, ?_, hb⟩
  unfold anchor_behind.f
  rw [wrap_id (by omega) (by omega)]
  exact hr

/-- The walk of anchor.Pick: below t, from i on, up to e. -/
theorem pick_l0 (l : List S56) (hn : l.length ≤ 4611686018427387904) (p q : Int) (hv : VL (Uf l) l.length) :
    ∀ (d : Nat) (t e i : Int) (k : Nat), e - i = d → -1 ≤ t → t < i → i ≤ e → e ≤ l.length → (∀ j, t + 1 ≤ j → j < e → t ≤ Uf l j) → (e < l.length → Uf l e < t) →
    (∀ j, 0 ≤ j → j < i → Uf l j = t → ¬ visf l p q j) → (i < e → Uf l i = t) → 2 * d + l.length + 2 < k →
    ∃ r, anchor_Pick.l0 k l t e i p q = some r ∧ (r = t ∧ Pk (Uf l) l.length (visf l p q) (whf l p q) t (-1) ∨ 0 ≤ r ∧ Pk (Uf l) l.length (visf l p q) (whf l p q) t r) := by
  intro d
  induction d using Nat.strongRecOn with
  | _ d ih =>
    intro t e i k hd ht hti hie hen hin hout hno hsame hk
    obtain ⟨k, rfl⟩ : ∃ m, k = m + 1 := ⟨k - 1, by omega⟩
    simp only [anchor_Pick.l0]
    by_cases hlt : i < e
    · obtain ⟨k, rfl⟩ : ∃ m, k = m + 1 := ⟨k - 1, by omega⟩
      have hU := hsame hlt
      rw [if_pos hlt, if_pos (by omega), if_pos (by omega), sight_eq]
      simp only [Option.bind_some]
      obtain ⟨b, hb, hB⟩ := behind_tells l hn i (by omega) (by omega) k (by omega)
      have hbe : b ≤ e := by
        rcases Int.lt_or_le e b with h | h
        · have h1 := hB.inn e (by omega) h
          have h2 := hout (by have := hB.hi; omega)
          omega
        · exact h
      have hbi := hB.lo
      have skip : ¬ visf l p q i → ∃ r, anchor_Pick.j1 (k + 1) l t e i (vsight (rd_T56 l i).f1.f0 (rd_T56 l i).f1.f1 p q) true p q = some r ∧ (r = t ∧ Pk (Uf l) l.length (visf l p q) (whf l p q) t (-1) ∨ 0 ≤ r ∧ Pk (Uf l) l.length (visf l p q) (whf l p q) t r) := by
        intro hnv
        simp only [anchor_Pick.j1]
        rw [if_pos trivial, hb]
        simp only [Option.bind_some]
        refine ih (e - b).toNat (by omega) t e b k (by omega) ht (by omega) hbe hen hin hout (fun j g0 g1 gu => ?_) (fun h => next_same hv (by omega) hU hen hin hB h) (by omega)
        rcases Int.lt_trichotomy j i with h | h | h
        · exact hno j g0 h gu
        · subst h; exact hnv
        · have := hB.inn j (by omega) g1
          omega
      by_cases hs : (rd_T56 l i).f2 = true
      · rw [if_pos hs]
        exact skip (fun h => by rw [h.1] at hs; cases hs)
      · rw [if_neg hs]
        by_cases hz : vsight (rd_T56 l i).f1.f0 (rd_T56 l i).f1.f1 p q = 0
        · rw [show (vsight (rd_T56 l i).f1.f0 (rd_T56 l i).f1.f1 p q == 0) = true by simpa using hz]
          exact skip (fun h => h.2 hz)
        · rw [show (vsight (rd_T56 l i).f1.f0 (rd_T56 l i).f1.f1 p q == 0) = false by simpa using hz]
          have hf : Fvc (Uf l) l.length (visf l p q) t i := ⟨by omega, by omega, hU, ⟨by simpa using hs, hz⟩, hno⟩
          simp only [anchor_Pick.j1]
          rw [if_neg (by simp)]
          by_cases hw : vsight (rd_T56 l i).f1.f0 (rd_T56 l i).f1.f1 p q = 2
          · rw [if_pos hw]
            exact ⟨i, rfl, .inr ⟨by omega, .whole t i hf hw⟩⟩
          · rw [if_neg hw, hb, wrap_id (by omega) (by omega)]
            simp only [Option.bind_some]
            obtain ⟨r, hr, hp⟩ := ih (b - (i + 1)).toNat (by omega) i b (i + 1) k (by omega) (by omega) (by omega) (by omega) hB.hi hB.inn hB.out
              (fun j g0 g1 gu => by
                have := (hv j g0 (by omega)).2.1
                omega)
              (fun h => by
                have h1 := hv (i + 1) (by omega) (by have := hB.hi; omega)
                have h2 := hB.inn (i + 1) (by omega) h
                have := h1.2.1
                omega) (by omega)
            exact ⟨r, hr, .inr (Pk.of_first hf hw hp)⟩
    · rw [if_neg hlt]
      obtain rfl : i = e := by omega
      refine ⟨t, rfl, .inl ⟨rfl, .none t (fun j g0 g1 gu => ?_)⟩⟩
      rcases Int.lt_or_le j i with h | h
      · exact hno j g0 h gu
      · exact absurd gu (no_child hv (by omega) hti hout h g1)

theorem pick_tells (l : List S56) (hn : l.length ≤ 4611686018427387904) (p q : Int) (k : Nat) (hk : 3 * l.length + 3 < k) :
    ∃ r, anchor_Pick.f k l p q = some r ∧ (VL (Uf l) l.length → Pk (Uf l) l.length (visf l p q) (whf l p q) (-1) r) ∧ (¬ VL (Uf l) l.length → r = -1) := by
  obtain ⟨b, hb, hB⟩ := valid_tells l hn k (by omega)
  unfold anchor_Pick.f
  rw [hb]
  simp only [Option.bind_some]
  cases b with
  | false => rw [if_neg (by simp)]; exact ⟨-1, rfl, (fun h => by have := hB.2 h; cases this), fun _ => rfl⟩
  | true =>
    have hv := hB.1 rfl
    rw [if_pos rfl]
    obtain ⟨r, hr, hp⟩ := pick_l0 l hn p q hv l.length (-1) l.length 0 k (by omega) (by omega) (by omega) (by omega) (by omega) (fun j g0 g1 => (hv j (by omega) g1).1) (fun h => by omega) (fun j g0 g1 => by omega)
      (fun h => by have := hv 0 (by omega) h; omega) (by omega)
    refine ⟨r, hr, fun _ => ?_, fun h => absurd hv h⟩
    rcases hp with ⟨rfl, hp⟩ | ⟨_, hp⟩
    · exact hp
    · exact hp
end Go.Proofs.Ytnmcefpnpfaklab.Plain
