/- The law LinesBreak holds of the printed functions, for all sizes and whole numbers of 64 bits. -/
import Derived.Test.YtnmcefpnpfakladPlainSeg
import Derived.Test.YtnmcefpnpfakladVx0
import Derived.Test.YtnmcefpnpfakladVx2
import Derived.Test.YtnmcefpnpfakladVx15
import Derived.Test.YtnmcefpnpfakladVx17
import Derived.Test.YtnmcefpnpfakladVx33
import Derived.Test.YtnmcefpnpfakladVx35
import Derived.Test.YtnmcefpnpfakladVx36
import Derived.Test.YtnmcefpnpfakladVx37
import Derived.Test.YtnmcefpnpfakladVx38
import Derived.Test.YtnmcefpnpfakladVx39
import Derived.Test.YtnmcefpnpfakladVx40
namespace Go.Proofs.Ytnmcefpnpfaklad.Plain
open Go.RowKit Go.Proofs.Ytnmcefpnpfaklad.V Go.Proofs.YtnmcefpnpfakladW.PrintWords Go.Proofs.YtnmcefpnpfakladW.PrintMore
/-- Which place stands at i. -/
def vat (l : List Int) (i : Nat) : Nat := (Srt.vord (fun i => rd l (i : Int)) l.length).getD i 0
/-- a stands ahead of b. -/
def Ahead (l : List Int) (a b : Nat) : Prop := rd l (a : Int) < rd l (b : Int) ∨ (rd l (a : Int) = rd l (b : Int) ∧ a < b)
theorem vorder_len (l : List Int) : (vorder l).length = l.length := by
  unfold vorder
  rw [List.length_map, Srt.vord_length]
theorem rd_vorder (l : List Int) (i : Nat) : rd (vorder l) (i : Int) = (vat l i : Int) := by
  unfold rd vorder vat
  rw [Int.toNat_natCast, List.getD_eq_getElem?_getD, List.getD_eq_getElem?_getD, List.getElem?_map]
  cases (Srt.vord (fun i => rd l (i : Int)) l.length)[i]? <;> rfl
theorem vat_get (l : List Int) (i : Nat) (h : i < l.length) : ∃ h2 : i < (Srt.vord (fun i => rd l (i : Int)) l.length).length, vat l i = (Srt.vord (fun i => rd l (i : Int)) l.length)[i] := by
  have h2 : i < (Srt.vord (fun i => rd l (i : Int)) l.length).length := by rw [Srt.vord_length]; exact h
  refine ⟨h2, ?_⟩
  unfold vat
  rw [List.getD_eq_getElem?_getD, List.getElem?_eq_getElem h2]; rfl
theorem vat_lt (l : List Int) (i : Nat) (h : i < l.length) : vat l i < l.length := by
  obtain ⟨h2, e⟩ := vat_get l i h
  rw [e]
  exact Srt.vord_lt (List.getElem_mem h2)
theorem vat_ahead (l : List Int) (i j : Nat) (hij : i < j) (h : j < l.length) : Ahead l (vat l i) (vat l j) := by
  obtain ⟨h2, e⟩ := vat_get l i (by omega)
  obtain ⟨h3, e3⟩ := vat_get l j h
  rw [e, e3]
  exact (List.pairwise_iff_getElem.1 (Srt.vord_sorted (fun i => rd l (i : Int)) l.length)) i j h2 h3 hij
theorem vat_all (l : List Int) (q : Nat) (h : q < l.length) : ∃ j, j < l.length ∧ vat l j = q := by
  have h1 : q ∈ Srt.vord (fun i => rd l (i : Int)) l.length := (Srt.vord_perm _ _).mem_iff.2 (List.mem_range.2 h)
  obtain ⟨j, hj, e⟩ := List.getElem_of_mem h1
  have hj2 : j < l.length := by rwa [Srt.vord_length] at hj
  obtain ⟨_, e2⟩ := vat_get l j hj2
  exact ⟨j, hj2, e2.trans e⟩
theorem ahead_ne {l : List Int} {a b : Nat} (h : Ahead l a b) : a ≠ b := by
  rintro rfl
  unfold Ahead at h
  omega
theorem ahead_not {l : List Int} {a b : Nat} (h : Ahead l a b) (h2 : Ahead l b a) : False := by
  unfold Ahead at h h2
  omega
theorem order_f (l : List Int) (h : l.length ≤ 500) : lines_Order.f l = some (vorder l) := by
  unfold lines_Order.f
  rw [if_pos (by omega)]
theorem seen_set (s : List Bool) (p q : Nat) (h : rdOf false (s.set p true) (q : Int) = true) : q = p ∨ rdOf false s (q : Int) = true := by
  unfold rdOf at *
  rw [Int.toNat_natCast, List.getD_eq_getElem?_getD] at h ⊢
  rw [List.getElem?_set] at h
  by_cases e : p = q
  · exact .inl e.symm
  · rw [if_neg e] at h
    exact .inr h
theorem seen_set' (s : List Bool) (p q : Nat) (hp : p < s.length) (h : q = p ∨ rdOf false s (q : Int) = true) : rdOf false (s.set p true) (q : Int) = true := by
  unfold rdOf at *
  rw [Int.toNat_natCast, List.getD_eq_getElem?_getD] at h ⊢
  rw [List.getElem?_set]
  by_cases e : p = q
  · subst e; rw [if_pos rfl, if_pos hp]; rfl
  · rw [if_neg e]
    rcases h with h | h
    · exact absurd h.symm e
    · exact h
end Go.Proofs.Ytnmcefpnpfaklad.Plain
namespace Go.Proofs.Ytnmcefpnpfaklad.Pure
open Go.RowKit Go.Proofs.Ytnmcefpnpfaklad.V Go.Proofs.Ytnmcefpnpfaklad.Plain Go.Proofs.YtnmcefpnpfakladW.PrintWords Go.Proofs.YtnmcefpnpfakladW.PrintLast Go.Proofs.YtnmcefpnpfakladW.PrintMore
theorem lworks2 : valancelaw07_works.f 60000 = some true := by kernel_rfl
theorem ref_part (k : Nat) (l : List Int) (gap : Int) (a b : Nat) (ha : a ≤ b) (hb : b ≤ l.length) (hk : b - a + 1 ≤ k) (hl : l.length ≤ 1000) : valanceref07_Long.f k ((l.take b).drop a) gap = some (vseg l gap a (b - a)) := by
  have e := len_part l a b hb
  rw [ref_long_eq _ gap (by omega) k (by omega), ← long_eq _ gap (by omega) k (by omega)]
  exact long_part k l gap a b ha hb hk hl
theorem rbreak_l1 (l : List Int) (room gap : Int) (wrap : Bool) (hl : l.length ≤ 200) (acc : List S41) (ha : acc.length ≤ 1000) (a b : Nat) (hH : Held l room gap wrap a b) (hF : Full l room gap wrap a b) (hb : b ≤ l.length) (k : Nat) (hk : 300 ≤ k) (r : List S41)
    (h : valanceref07_Break.l0 k l room gap wrap (acc ++ [⟨(a : Int), (b : Int)⟩]) (b : Int) = some r) : ∀ (d t : Nat), d = b - t → a < t → t ≤ b → valanceref07_Break.l1 (k + d + 1) l room gap wrap acc (a : Int) (t : Int) = some r := by
  intro d
  have hab := hH.1
  have h64 := hH.2.1
  induction d with
  | zero =>
    intro t hd h1 h2
    obtain rfl : t = b := by omega
    simp only [valanceref07_Break.l1]
    by_cases c1 : t < l.length
    · rw [if_pos (by omega), w64 (x := (t : Int) - (a : Int)) (by omega) (by omega)]
      by_cases c2 : t - a < 64
      · obtain ⟨rfl, h3⟩ := hF c1 c2
        rw [if_pos (by omega), if_pos rfl, if_pos (by omega), w64 (x := (t : Int) + 1) (by omega) (by omega), if_pos (by omega), if_pos (by omega), show ((t : Int) + 1).toNat = t + 1 by omega, Int.toNat_natCast, ref_part k l gap a (t + 1) (by omega) (by omega) (by omega) (by omega)]
        simp only [Option.bind_some]
        rw [show t + 1 - a = t - a + 1 by omega, if_neg h3, if_pos (by omega)]
        exact h
      · rw [if_neg (by omega), if_pos (by omega)]; exact h
    · rw [if_neg (by omega), if_pos (by omega)]; exact h
  | succ d ih =>
    intro t hd h1 h2
    have hi := ih (t + 1) (by omega) (by omega) (by omega)
    rw [show k + (d + 1) + 1 = (k + d + 1) + 1 by omega]
    simp only [valanceref07_Break.l1]
    rw [if_pos (by omega), w64 (x := (t : Int) - (a : Int)) (by omega) (by omega), if_pos (by omega), w64 (x := (t : Int) + 1) (by omega) (by omega)]
    cases wrap with
    | false => rw [if_neg (by simp)]; exact hi
    | true =>
      have h3 := hH.2.2 (t + 1 - a) (by omega) (by omega) rfl
      rw [if_pos rfl, if_pos (by omega), if_pos (by omega), if_pos (by omega), show ((t : Int) + 1).toNat = t + 1 by omega, Int.toNat_natCast, ref_part _ l gap a (t + 1) (by omega) (by omega) (by omega) (by omega)]
      simp only [Option.bind_some]
      rw [if_pos h3]
      exact hi
theorem rbreak_l0 (l : List Int) (room gap : Int) (wrap : Bool) (hl : l.length ≤ 200) : ∀ (suf acc : List S41) (a k : Nat), acc.length + suf.length ≤ 1000 → Chain (fun a b => Held l room gap wrap a b ∧ Full l room gap wrap a b) a suf l.length → 70 * suf.length + 400 ≤ k →
    valanceref07_Break.l0 k l room gap wrap acc (a : Int) = some (acc ++ suf) := by
  intro suf
  induction suf with
  | nil =>
    intro acc a k hp hc hk
    obtain ⟨k, rfl⟩ : ∃ m, k = m + 1 := ⟨k - 1, by omega⟩
    obtain rfl : a = l.length := hc
    simp only [valanceref07_Break.l0, List.append_nil]
    rw [if_neg (by omega)]
  | cons x r ih =>
    intro acc a k hp hc hk
    rw [List.length_cons] at hk hp
    obtain ⟨b, rfl, ⟨hH, hF⟩, hc⟩ := hc
    have hb := Chain.le (fun a b h => h.1.1) hc
    have hab := hH.1
    have h64 := hH.2.1
    obtain ⟨k, rfl⟩ : ∃ m, k = (m + (b - (a + 1)) + 1) + 1 := ⟨k - (b - (a + 1)) - 2, by omega⟩
    have hi := ih (acc ++ [⟨(a : Int), (b : Int)⟩]) b k (by rw [List.length_append, List.length_singleton]; omega) hc (by omega)
    rw [List.append_assoc, List.singleton_append] at hi
    have h1 := rbreak_l1 l room gap wrap hl acc (by omega) a b hH hF hb k (by omega) _ hi (b - (a + 1)) (a + 1) rfl (by omega) (by omega)
    simp only [valanceref07_Break.l0]
    rw [if_pos (by omega), w64 (x := (a : Int) + 1) (by omega) (by omega)]
    exact h1
theorem chain_len {P : Nat → Nat → Prop} (hP : ∀ a b, P a b → a < b) {a c : Nat} {o : List S41} (h : Chain P a o c) : o.length ≤ c - a := by
  induction o generalizing a with
  | nil => exact Nat.zero_le _
  | cons x r ih =>
    obtain ⟨b, _, h1, h2⟩ := h
    have := ih h2
    have := hP _ _ h1
    have := Chain.le hP h2
    rw [List.length_cons]; omega
theorem same_l0 (L : List S41) (hL : L.length ≤ 1000) : ∀ (d i k : Nat), d = L.length - i → i ≤ L.length → d + 1 ≤ k → valancelaw07_same.l0 k L L (i : Int) = some true := by
  intro d
  induction d with
  | zero =>
    intro i k hd hi hk
    obtain ⟨k, rfl⟩ : ∃ m, k = m + 1 := ⟨k - 1, by omega⟩
    simp only [valancelaw07_same.l0]
    rw [if_neg (by omega)]
  | succ d ih =>
    intro i k hd hi hk
    obtain ⟨k, rfl⟩ : ∃ m, k = m + 1 := ⟨k - 1, by omega⟩
    simp only [valancelaw07_same.l0]
    rw [if_pos (by omega), if_pos (by omega), if_pos (by omega), if_neg (by simp), w64 (by omega) (by omega)]
    exact ih (i + 1) k (by omega) (by omega) (by omega)
theorem row_l0 (L : List Int) (hL : L.length ≤ 1000) : ∀ (d i k : Nat), d = L.length - i → i ≤ L.length → d + 1 ≤ k → valanceref06_Row.l0 k L L (i : Int) = some true := by
  intro d
  induction d with
  | zero =>
    intro i k hd hi hk
    obtain ⟨k, rfl⟩ : ∃ m, k = m + 1 := ⟨k - 1, by omega⟩
    simp only [valanceref06_Row.l0]
    rw [if_neg (by omega)]
  | succ d ih =>
    intro i k hd hi hk
    obtain ⟨k, rfl⟩ : ∃ m, k = m + 1 := ⟨k - 1, by omega⟩
    simp only [valanceref06_Row.l0]
    rw [if_pos (by omega), if_pos (by omega), if_pos (by omega), if_pos True.intro, w64 (by omega) (by omega)]
    exact ih (i + 1) k (by omega) (by omega) (by omega)
/-! ### The least next -/
theorem take_snoc (l : List Int) (m : Nat) (h : m < l.length) : (vorder l).take m ++ [(vat l m : Int)] = (vorder l).take (m + 1) := by
  rw [List.take_succ_eq_append_getElem (by rw [vorder_len]; exact h)]
  congr 1
  have h1 := rd_vorder l m
  unfold rd at h1
  rw [Int.toNat_natCast, List.getD_eq_getElem?_getD, List.getElem?_eq_getElem (by rw [vorder_len]; exact h)] at h1
  rw [← h1]; rfl
/-- What is used: those that stand ahead of m. -/
def Used (l : List Int) (m : Nat) (s : List Bool) : Prop := ∀ q : Nat, q < l.length → (rdOf false s (q : Int) = true ↔ ∃ j, j < m ∧ vat l j = q)
theorem rorder_l1 (l : List Int) (hl : l.length ≤ 200) (m : Nat) (hm : m < l.length) (s : List Bool) (hs : s.length = l.length) (hU : Used l m s) (k : Nat) (r : List Int)
    (h : valanceref07_Order.l0 k l ((vorder l).take (m + 1)) (s.set (vat l m) true) = some r) : ∀ (d i : Nat) (at_ : Int), d = l.length - i → i ≤ l.length →
    ((at_ = -1 ∧ ∀ q : Nat, q < i → rdOf false s (q : Int) = true) ∨ (∃ a : Nat, at_ = (a : Int) ∧ a < i ∧ rdOf false s (a : Int) = false ∧ ∀ q : Nat, q < i → rdOf false s (q : Int) = false → q = a ∨ Ahead l a q)) →
    valanceref07_Order.l1 (k + d + 1) l ((vorder l).take m) s at_ (i : Int) = some r := by
  intro d
  have ho := vorder_len l
  have htl : ((vorder l).take m).length = m := by rw [List.length_take]; omega
  induction d with
  | zero =>
    intro i at_ hd hi hc
    obtain rfl : i = l.length := by clear hc; omega
    have hun : rdOf false s ((vat l m : Nat) : Int) = false := by
      cases e : rdOf false s ((vat l m : Nat) : Int) with
      | false => rfl
      | true =>
        obtain ⟨j, hj, e2⟩ := (hU _ (vat_lt l m hm)).1 e
        exact absurd e2 (ahead_ne (vat_ahead l j m hj hm))
    have hat : at_ = (vat l m : Int) := by
      rcases hc with ⟨_, h2⟩ | ⟨a, rfl, ha, h2, h3⟩
      · have := h2 _ (vat_lt l m hm); rw [hun] at this; cases this
      · rcases h3 _ (vat_lt l m hm) hun with h4 | h4
        · rw [h4]
        · obtain ⟨j, hj, e⟩ := vat_all l a ha
          rcases Nat.lt_trichotomy j m with h5 | h5 | h5
          · have := (hU a ha).2 ⟨j, h5, e⟩; rw [h2] at this; cases this
          · rw [← e, h5]
          · have := vat_ahead l m j h5 hj
            rw [e] at this
            exact (ahead_not h4 this).elim
    subst hat
    have hv := vat_lt l m hm
    simp only [valanceref07_Order.l1]
    rw [if_neg (by omega), if_pos (by omega), if_pos (by omega), if_pos (by omega), Int.toNat_natCast, take_snoc l m hm]
    exact h
  | succ d ih =>
    intro i at_ hd hi hc
    have e1 : d = l.length - (i + 1) := by clear hc; omega
    have e2 : i + 1 ≤ l.length := by clear hc; omega
    have e3 : (i : Int) < (l.length : Int) := by clear hc; omega
    have e4 : (i : Int) < (s.length : Int) := by clear hc; omega
    rw [show k + (d + 1) + 1 = (k + d + 1) + 1 by clear hc; omega]
    simp only [valanceref07_Order.l1]
    rw [if_pos e3, if_pos (Int.natCast_nonneg i), if_pos e4, w64 (x := (i : Int) + 1) (by clear hc; omega) (by clear hc; omega)]
    cases hu : rdOf false s (i : Int) with
    | true =>
      rw [if_pos rfl]
      refine ih (i + 1) at_ e1 e2 ?_
      rcases hc with ⟨h1, h2⟩ | ⟨a, h1, ha, h2, h3⟩
      · exact .inl ⟨h1, fun q hq => by
          rcases Nat.lt_or_ge q i with h4 | h4
          · exact h2 q h4
          · obtain rfl : q = i := by omega
            exact hu⟩
      · exact .inr ⟨a, h1, by omega, h2, fun q hq hq2 => by
          rcases Nat.lt_or_ge q i with h4 | h4
          · exact h3 q h4 hq2
          · obtain rfl : q = i := by omega
            rw [hu] at hq2; cases hq2⟩
    | false =>
      rw [if_neg (by simp)]
      rcases hc with ⟨rfl, h2⟩ | ⟨a, rfl, ha, h2, h3⟩
      · rw [if_pos (by omega)]
        exact ih (i + 1) i e1 e2 (.inr ⟨i, rfl, by omega, hu, fun q hq hq2 => by
          rcases Nat.lt_or_ge q i with h4 | h4
          · have := h2 q h4; rw [hq2] at this; cases this
          · exact .inl (by omega)⟩)
      · rw [if_neg (by omega), if_pos (by omega), if_pos (by omega)]
        refine ite_ (fun hlt => ?_) (fun hge => ?_)
        · exact ih (i + 1) i e1 e2 (.inr ⟨i, rfl, by omega, hu, fun q hq hq2 => by
            rcases Nat.lt_or_ge q i with h4 | h4
            · refine .inr ?_
              rcases h3 q h4 hq2 with rfl | h5
              · unfold Ahead; omega
              · unfold Ahead at h5 ⊢; omega
            · exact .inl (by omega)⟩)
        · exact ih (i + 1) a e1 e2 (.inr ⟨a, rfl, by omega, h2, fun q hq hq2 => by
            rcases Nat.lt_or_ge q i with h4 | h4
            · exact h3 q h4 hq2
            · obtain rfl : q = i := by omega
              refine .inr ?_
              unfold Ahead; omega⟩)
theorem rorder_l0 (l : List Int) (hl : l.length ≤ 200) : ∀ (d m k : Nat) (s : List Bool), d = l.length - m → m ≤ l.length → s.length = l.length → Used l m s → 210 * d + 1 ≤ k → valanceref07_Order.l0 k l ((vorder l).take m) s = some (vorder l) := by
  intro d
  have ho := vorder_len l
  induction d with
  | zero =>
    intro m k s hd hm hs hU hk
    obtain ⟨k, rfl⟩ : ∃ z, k = z + 1 := ⟨k - 1, by omega⟩
    obtain rfl : m = l.length := by omega
    simp only [valanceref07_Order.l0]
    rw [if_neg (by rw [List.length_take]; omega), List.take_of_length_le (by omega)]
  | succ d ih =>
    intro m k s hd hm hs hU hk
    obtain ⟨k, rfl⟩ : ∃ z, k = (z + l.length + 1) + 1 := ⟨k - l.length - 2, by omega⟩
    have hi := ih (m + 1) k (s.set (vat l m) true) (by omega) (by omega) (by rw [List.length_set]; exact hs) (fun q hq => ⟨fun h => by
      rcases seen_set s _ q h with h1 | h1
      · exact ⟨m, by omega, h1.symm⟩
      · obtain ⟨j, hj, e⟩ := (hU q hq).1 h1
        exact ⟨j, by omega, e⟩, fun ⟨j, hj, e⟩ => by
      refine seen_set' s _ q (by rw [hs]; exact vat_lt l m (by omega)) ?_
      rcases Nat.lt_or_ge j m with h1 | h1
      · exact .inr ((hU q hq).2 ⟨j, h1, e⟩)
      · obtain rfl : j = m := by omega
        exact .inl e.symm⟩) (by omega)
    have h1 := rorder_l1 l hl m (by omega) s hs hU k _ hi l.length 0 (-1) (by omega) (by omega) (.inl ⟨rfl, fun q hq => by omega⟩)
    simp only [valanceref07_Order.l0]
    rw [if_pos (by rw [List.length_take]; omega)]
    exact h1
theorem rorder_f (l : List Int) (hl : l.length ≤ 200) (k : Nat) (hk : 45000 ≤ k) : valanceref07_Order.f k l = some (vorder l) := by
  unfold valanceref07_Order.f
  rw [if_pos (by omega), if_pos (by omega), Int.toNat_natCast]
  have h := rorder_l0 l hl l.length 0 k (List.replicate l.length false) (by omega) (by omega) List.length_replicate (fun q hq => ⟨fun h => by
    unfold rdOf at h
    rw [Int.toNat_natCast, List.getD_eq_getElem?_getD, List.getElem?_replicate] at h
    (split at h <;> cases h), fun ⟨j, hj, _⟩ => absurd hj (Nat.not_lt_zero j)⟩) (by omega)
  rw [List.take_zero] at h
  exact h
theorem lbreak (l : List Int) (room gap : Int) (wrap : Bool) (h1 : l.length ≤ 200) (k : Nat) (hk : 50000 ≤ k) (hw : valancelaw07_works.f k = some true) : valancelaw07_LinesBreak.f k l room gap wrap = some true := by
  unfold valancelaw07_LinesBreak.f
  rw [hw]
  simp only [Option.bind_some, if_true]
  have hc := vbreak_chain l room gap wrap
  have hn := chain_len (fun a b h => h.1.1) hc
  have hb := rbreak_l0 l room gap wrap h1 (vbreak l room gap wrap) [] 0 k (by rw [List.length_nil]; omega) hc (by omega)
  rw [List.nil_append] at hb
  have hb2 : valanceref07_Break.f k l room gap wrap = some (vbreak l room gap wrap) := hb
  have hsame : valancelaw07_same.f k (vbreak l room gap wrap) (vbreak l room gap wrap) = some true := by
    unfold valancelaw07_same.f
    rw [if_pos rfl]
    exact same_l0 _ (by omega) _ 0 k rfl (Nat.zero_le _) (by omega)
  have hrow : valanceref06_Row.f k (vorder l) (vorder l) = some true := by
    have ho := vorder_len l
    unfold valanceref06_Row.f
    rw [if_pos rfl]
    exact row_l0 _ (by omega) _ 0 k rfl (Nat.zero_le _) (by omega)
  rw [if_neg (by omega), break_f _ _ _ _ (by omega), hb2]
  simp only [Option.bind_some]
  rw [hsame]
  simp only [Option.bind_some, if_true]
  rw [long_eq l gap (by omega) k (by omega), ref_long_eq l gap (by omega) k (by omega)]
  simp only [Option.bind_some, if_true]
  rw [order_f l (by omega), rorder_f l h1 k (by omega)]
  simp only [Option.bind_some]
  rw [hrow]
  rfl
theorem some_k : ∃ k, 50000 ≤ k ∧ valancelaw07_works.f k = some true := ⟨60000, by omega, lworks2⟩
theorem LinesBreak : valancelaw07_LinesBreak.Pure := by
  intro l room gap wrap _ _ _ _ _
  obtain ⟨k, hk, hw⟩ := some_k
  refine ⟨k, ?_⟩
  by_cases h1 : l.length ≤ 200
  · exact lbreak l room gap wrap h1 k hk hw
  · unfold valancelaw07_LinesBreak.f
    rw [hw]
    simp only [Option.bind_some, if_true]
    rw [if_pos (by omega)]
end Go.Proofs.Ytnmcefpnpfaklad.Pure
