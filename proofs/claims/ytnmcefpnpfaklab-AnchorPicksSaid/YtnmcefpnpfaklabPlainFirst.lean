/- What the document's Valid, first and Pick of nodes answer, in plain words: the same row of nodes stands in order, and the same one is picked. -/
import Derived.Test.YtnmcefpnpfaklabPlainWorks
import Derived.Test.YtnmcefpnpfaklabVx22
import Derived.Test.YtnmcefpnpfaklabVx27
namespace Go.Proofs.Ytnmcefpnpfaklab.Plain
open Go.RowKit Go.Proofs.Ytnmcefpnpfaklab.V Go.Proofs.YtnmcefpnpfaklabW.PrintWords

def conv (x : S56) : S72 := ⟨x.f0, ⟨x.f1.f0, x.f1.f1⟩, x.f2⟩
theorem rd_conv (l : List S56) (x : Int) : rd_T72 (l.map conv) x = conv (rd_T56 l x) := by
  unfold rd_T72 rd_T56
  rw [List.getD_eq_getElem?_getD, List.getD_eq_getElem?_getD, List.getElem?_map]
  cases l[x.toNat]? <;> rfl
theorem rd_conv0 (l : List S56) (x : Int) : (rd_T72 (l.map conv) x).f0 = Uf l x := by rw [rd_conv]; rfl

theorem of_l0 (l : List S56) (hn : l.length ≤ 4000000000000) : ∀ (d i k : Nat), i + d = l.length → d < k → valancelaw12_of.l0 k l ((l.take i).map conv) i = some (l.map conv) := by
  intro d
  induction d with
  | zero =>
    intro i k hd hk
    obtain ⟨k, rfl⟩ : ∃ m, k = m + 1 := ⟨k - 1, by omega⟩
    simp only [valancelaw12_of.l0]
    rw [if_neg (by omega), List.take_of_length_le (by omega)]
  | succ d ih =>
    intro i k hd hk
    obtain ⟨k, rfl⟩ : ∃ m, k = m + 1 := ⟨k - 1, by omega⟩
    simp only [valancelaw12_of.l0]
    rw [if_pos (by omega), if_pos (by omega), if_pos (by rw [List.length_map, List.length_take]; omega), wrap_id (by omega) (by omega)]
    have h := ih (i + 1) k (by omega) (by omega)
    rw [← h]
    have hi : i < l.length := by omega
    congr 1
    rw [List.take_succ_eq_append_getElem hi, List.map_append]
    congr 1
    have e : rd_T56 l (i : Int) = l[i] := by unfold rd_T56; simp [List.getD_eq_getElem?_getD, List.getElem?_eq_getElem hi]
    rw [e]
    rfl

theorem of_eq (l : List S56) (hn : l.length ≤ 4000000000000) (k : Nat) (hk : l.length < k) : valancelaw12_of.f k l = some (l.map conv) := by
  unfold valancelaw12_of.f
  exact of_l0 l hn l.length 0 k (by omega) hk

theorem ref_sight_eq (a b p q : Int) : valanceref12_Sight.f a b p q = some (vsight a b p q) := by
  unfold valanceref12_Sight.f valanceref03_Meet.f valanceref03_In.f valanceref03_Empty.f vsight
  by_cases h1 : mx a p < mn b q
  · have h0 : ¬ mn b q ≤ mx a p := by omega
    by_cases h2 : b ≤ a
    · simp [h0, h1, h2]
    · by_cases h3 : p ≤ a
      · by_cases h4 : b ≤ q <;> simp [h0, h1, h2, h3, h4]
      · simp [h0, h1, h2, h3]
  · have h0 : mn b q ≤ mx a p := by omega
    simp [h0, h1]

theorem ref_l1 (l : List S56) (i : Int) (hn : l.length ≤ 4611686018427387904) (h0 : 0 ≤ i) (hi : i < l.length) (hU : ∀ j : Int, 0 ≤ j → j < i → -1 ≤ Uf l j ∧ Uf l j < j) (_ha : -1 ≤ Uf l i) (_hb : Uf l i < i) :
    ∀ (d : Nat) (x : Int) (k : Nat), x + 1 = d → x < i → d < k →
      (Anc (Uf l) (Uf l i) x → ∃ k', k ≤ k' + d + 1 ∧ valanceref12_Valid.l1 k (l.map conv) i x = valanceref12_Valid.l0 k' (l.map conv) (i + 1)) ∧
      (¬ Anc (Uf l) (Uf l i) x → valanceref12_Valid.l1 k (l.map conv) i x = some false) := by
  intro d
  induction d using Nat.strongRecOn with
  | _ d ih =>
    intro x k hd hx hk
    obtain ⟨k, rfl⟩ : ∃ m, k = m + 1 := ⟨k - 1, by omega⟩
    simp only [valanceref12_Valid.l1, rd_conv0, List.length_map]
    by_cases h1 : x ≥ 0
    · rw [if_pos h1, if_pos h0, if_pos hi]
      by_cases h2 : x = Uf l i
      · rw [if_pos h2, wrap_id (by omega) (by omega)]
        exact ⟨fun _ => ⟨k, by omega, rfl⟩, fun h => absurd (by rw [h2]; exact .refl _) h⟩
      · have hu := hU x h1 hx
        rw [if_neg h2, if_pos h1, if_pos (by omega)]
        obtain ⟨g1, g2⟩ := ih (Uf l x + 1).toNat (by omega) (Uf l x) k (by omega) (by omega) (by omega)
        refine ⟨fun h => ?_, fun h => g2 (fun h' => h (.step x _ h1 h'))⟩
        obtain ⟨k', e, h'⟩ := g1 (h.inv (fun e => h2 e.symm)).2
        exact ⟨k', by omega, h'⟩
    · rw [if_neg h1, if_pos h0, if_pos hi]
      by_cases h2 : x = Uf l i
      · rw [if_pos h2, wrap_id (by omega) (by omega)]
        exact ⟨fun _ => ⟨k, by omega, rfl⟩, fun h => absurd (by rw [h2]; exact .refl _) h⟩
      · rw [if_neg h2]
        exact ⟨fun h => absurd (h.inv (fun e => h2 e.symm)).1 (by omega), fun _ => rfl⟩

theorem ref_valid_l0 (l : List S56) (hn : l.length ≤ 4611686018427387904) : ∀ (d i : Nat) (k : Nat), i + d = l.length → VL (Uf l) i → d * (l.length + 5) < k →
    ∃ b, valanceref12_Valid.l0 k (l.map conv) i = some b ∧ (b = true ↔ VL (Uf l) l.length) := by
  intro d
  induction d with
  | zero =>
    intro i k hd hv hk
    obtain ⟨k, rfl⟩ : ∃ m, k = m + 1 := ⟨k - 1, by omega⟩
    simp only [valanceref12_Valid.l0, List.length_map]
    rw [if_neg (by omega)]
    exact ⟨true, rfl, fun _ => by rw [show (l.length : Int) = (i : Int) by omega]; exact hv, fun _ => rfl⟩
  | succ d ih =>
    intro i k hd hv hk
    rw [Nat.succ_mul] at hk
    obtain ⟨k, rfl⟩ : ∃ m, k = m + 2 := ⟨k - 2, by omega⟩
    simp only [valanceref12_Valid.l0, List.length_map, rd_conv0]
    rw [if_pos (by omega), if_pos (by omega)]
    have no : ¬ (-1 ≤ Uf l i ∧ Uf l i < i ∧ Anc (Uf l) (Uf l i) ((i : Int) - 1)) → ∃ b, (some false : Option Bool) = some b ∧ (b = true ↔ VL (Uf l) l.length) := fun h =>
      ⟨false, rfl, (fun h' => by cases h'), (fun h' => absurd (h' i (by omega) (by omega)) h)⟩
    by_cases h1 : Uf l i < -1
    · rw [if_pos h1]
      simp only [valanceref12_Valid.j1, if_true]
      exact no (fun h => by omega)
    rw [if_neg h1]
    by_cases h2 : Uf l i ≥ i
    · rw [decide_eq_true h2]
      simp only [valanceref12_Valid.j1, if_true]
      exact no (fun h => by omega)
    rw [decide_eq_false h2]
    simp only [valanceref12_Valid.j1, Bool.false_eq_true, if_false]
    rw [wrap_id (by omega) (by omega)]
    obtain ⟨g1, g2⟩ := ref_l1 l i hn (by omega) (by omega) (fun j a b => ⟨(hv j a b).1, (hv j a b).2.1⟩) (by omega) (by omega) i ((i : Int) - 1) k (by omega) (by omega) (by omega)
    by_cases h3 : Anc (Uf l) (Uf l i) ((i : Int) - 1)
    · obtain ⟨k', e, h'⟩ := g1 h3
      rw [h']
      have hv' : VL (Uf l) ((i + 1 : Nat) : Int) := by
        intro j g0 g1
        by_cases e : j = i
        · subst e; exact ⟨by omega, by omega, h3⟩
        · exact hv j g0 (by omega)
      obtain ⟨b, hb, h⟩ := ih (i + 1) k' (by omega) hv' (by omega)
      exact ⟨b, by rw [← hb]; congr 1, h⟩
    · rw [g2 h3]
      exact no (fun h => h3 h.2.2)

theorem ref_valid_tells (l : List S56) (hn : l.length ≤ 4611686018427387904) (k : Nat) (hk : l.length * (l.length + 5) < k) :
    ∃ b, valanceref12_Valid.f k (l.map conv) = some b ∧ (b = true ↔ VL (Uf l) l.length) :=
  ref_valid_l0 l hn l.length 0 k (by omega) (fun i h0 h1 => by omega) hk

theorem first_l0 (l : List S56) (hn : l.length ≤ 4611686018427387904) (p q : Int) (hv : VL (Uf l) l.length) :
    ∀ (D : Nat) (u : Int), (l.length : Int) - u ≤ D → -1 ≤ u → ∀ (d i k : Nat), i + d = l.length → (∀ j : Int, 0 ≤ j → j < i → Uf l j = u → ¬ visf l p q j) → 2 * d + 1 + D * (2 * l.length + 5) < k →
      ∃ r, valanceref12_first.l0 k (l.map conv) u i p q = some r ∧ Pk (Uf l) l.length (visf l p q) (whf l p q) u r := by
  intro D
  induction D with
  | zero =>
    intro u hu hu1 d
    induction d with
    | zero =>
      intro i k hd hno hk
      obtain ⟨k, rfl⟩ : ∃ m, k = m + 1 := ⟨k - 1, by omega⟩
      simp only [valanceref12_first.l0, List.length_map]
      rw [if_neg (by omega)]
      exact ⟨_, rfl, .none u (fun j g0 g1 => hno j g0 (by omega))⟩
    | succ d ih =>
      intro i k hd hno hk
      obtain ⟨k, rfl⟩ : ∃ m, k = m + 2 := ⟨k - 2, by omega⟩
      have hU := hv i (by omega) (by omega)
      simp only [valanceref12_first.l0, valanceref12_first.j1, List.length_map, rd_conv0]
      rw [if_pos (by omega), if_pos (by omega), if_neg (by omega), if_pos trivial, wrap_id (by omega) (by omega)]
      obtain ⟨r, hr, hp⟩ := ih (i + 1) k (by omega) (fun j g0 g1 gu => by
        by_cases e : j = i
        · subst e; omega
        · exact hno j g0 (by omega) gu) (by omega)
      exact ⟨r, by rw [← hr]; congr 1, hp⟩
  | succ D ihD =>
    intro u hu hu1 d
    induction d with
    | zero =>
      intro i k hd hno hk
      obtain ⟨k, rfl⟩ : ∃ m, k = m + 1 := ⟨k - 1, by omega⟩
      simp only [valanceref12_first.l0, List.length_map]
      rw [if_neg (by omega)]
      exact ⟨_, rfl, .none u (fun j g0 g1 => hno j g0 (by omega))⟩
    | succ d ih =>
      intro i k hd hno hk
      obtain ⟨k, rfl⟩ : ∃ m, k = m + 2 := ⟨k - 2, by omega⟩
      have hU := hv i (by omega) (by omega)
      have next : (Uf l i = u → ¬ visf l p q i) → ∃ r, valanceref12_first.l0 k (l.map conv) u (wrap64 ((i : Int) + 1)) p q = some r ∧ Pk (Uf l) l.length (visf l p q) (whf l p q) u r := by
        intro hn1
        rw [wrap_id (by omega) (by omega)]
        obtain ⟨r, hr, hp⟩ := ih (i + 1) k (by omega) (fun j g0 g1 gu => by
          by_cases e : j = i
          · subst e; exact hn1 gu
          · exact hno j g0 (by omega) gu) (by omega)
        exact ⟨r, by rw [← hr]; congr 1, hp⟩
      simp only [valanceref12_first.l0, valanceref12_first.j1, List.length_map, rd_conv0]
      rw [if_pos (by omega), if_pos (by omega)]
      by_cases h1 : Uf l i = u
      · rw [if_pos h1, rd_conv]
        by_cases hs : (rd_T56 l i).f2 = true
        · rw [show (conv (rd_T56 l i)).f2 = true from hs, if_pos rfl]
          exact next (fun _ h => by rw [h.1] at hs; cases hs)
        · rw [show (conv (rd_T56 l i)).f2 = false from (show (rd_T56 l (i : Int)).f2 = false by simpa using hs)]
          simp only [Bool.false_eq_true, if_false]
          rw [if_pos (by omega), if_pos (by omega), show (conv (rd_T56 l i)).f1.f0 = (rd_T56 l i).f1.f0 from rfl, show (conv (rd_T56 l i)).f1.f1 = (rd_T56 l i).f1.f1 from rfl, ref_sight_eq]
          simp only [Option.bind_some]
          by_cases hz : vsight (rd_T56 l i).f1.f0 (rd_T56 l i).f1.f1 p q = 0
          · rw [if_pos hz]
            exact next (fun _ h => h.2 hz)
          · have hf : Fvc (Uf l) l.length (visf l p q) u i := ⟨by omega, by omega, h1, ⟨by simpa using hs, hz⟩, hno⟩
            rw [if_neg hz]
            by_cases hw : vsight (rd_T56 l i).f1.f0 (rd_T56 l i).f1.f1 p q = 2
            · rw [if_pos hw]
              exact ⟨_, rfl, .whole u i hf hw⟩
            · rw [if_neg hw]
              rw [Nat.succ_mul D] at hk
              obtain ⟨k, rfl⟩ : ∃ m, k = m + 1 := ⟨k - 1, by omega⟩
              obtain ⟨r, hr, hp⟩ := ihD i (by omega) (by omega) l.length 0 k (by omega) (fun j g0 g1 => by omega) (by omega)
              rw [show valanceref12_first.f (k + 1) (l.map conv) (i : Int) p q = valanceref12_first.l0 k (l.map conv) (i : Int) 0 p q by simp only [valanceref12_first.f]]
              rw [show valanceref12_first.l0 k (l.map conv) (i : Int) 0 p q = some r from hr]
              simp only [Option.bind_some]
              by_cases hr0 : r ≥ 0
              · rw [if_pos hr0]; exact ⟨r, rfl, .deep u i r hf hw hp hr0⟩
              · rw [if_neg hr0]
                have := hp.bd
                obtain rfl : r = -1 := by omega
                exact ⟨_, rfl, .leaf u i hf hw hp⟩
      · rw [if_neg h1, if_pos trivial]
        exact next (fun h => absurd h h1)

theorem ref_pick_tells (l : List S56) (hn : l.length ≤ 4611686018427387904) (p q : Int) (k : Nat) (hk : (l.length + 3) * (2 * l.length + 5) < k) :
    ∃ r, valanceref12_Pick.f k (l.map conv) p q = some r ∧ (VL (Uf l) l.length → Pk (Uf l) l.length (visf l p q) (whf l p q) (-1) r) ∧ (¬ VL (Uf l) l.length → r = -1) := by
  have e1 : l.length * (l.length + 5) ≤ (l.length + 3) * (2 * l.length + 5) := Nat.mul_le_mul (by omega) (by omega)
  obtain ⟨b, hb, hB⟩ := ref_valid_tells l hn k (by omega)
  unfold valanceref12_Pick.f
  rw [hb]
  simp only [Option.bind_some]
  cases b with
  | false => rw [if_neg (by simp)]; exact ⟨-1, rfl, (fun h => by have := hB.2 h; cases this), fun _ => rfl⟩
  | true =>
    have hv := hB.1 rfl
    rw [if_pos rfl]
    have e2 : (l.length + 3) * (2 * l.length + 5) = (l.length + 1) * (2 * l.length + 5) + (2 * l.length + 5) + (2 * l.length + 5) := by rw [show l.length + 3 = l.length + 1 + 1 + 1 from rfl, Nat.succ_mul, Nat.succ_mul]
    obtain ⟨k, rfl⟩ : ∃ m, k = m + 1 := ⟨k - 1, by omega⟩
    obtain ⟨r, hr, hp⟩ := first_l0 l hn p q hv (l.length + 1) (-1) (by omega) (by omega) l.length 0 k (by omega) (fun j g0 g1 => by omega) (by omega)
    rw [show valanceref12_first.f (k + 1) (l.map conv) (-1) p q = valanceref12_first.l0 k (l.map conv) (-1) 0 p q by simp only [valanceref12_first.f]]
    rw [show valanceref12_first.l0 k (l.map conv) (-1) 0 p q = some r from hr]
    exact ⟨r, rfl, fun _ => hp, fun h => absurd hv h⟩
end Go.Proofs.Ytnmcefpnpfaklab.Plain
