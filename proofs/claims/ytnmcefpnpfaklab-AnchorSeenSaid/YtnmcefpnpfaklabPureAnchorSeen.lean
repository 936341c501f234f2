/- The law AnchorSeen holds of the printed functions, for all rows of nodes and all spans of whole numbers of 64 bits. -/
import Derived.Test.YtnmcefpnpfaklabPlainWorks
import Derived.Test.YtnmcefpnpfaklabVx31
namespace Go.Proofs.Ytnmcefpnpfaklab.Pure
open Go.RowKit Go.Proofs.Ytnmcefpnpfaklab.V Go.Proofs.Ytnmcefpnpfaklab.Plain Go.Proofs.YtnmcefpnpfaklabW.PrintWords Go.Proofs.YtnmcefpnpfaklabW.PrintLast Go.Proofs.YtnmcefpnpfaklabW.PrintMore

theorem sight_1 (a b p q : Int) (h : vsight a b p q ≠ 0) (h2 : vsight a b p q ≠ 2) : vsight a b p q = 1 := by
  unfold vsight at *; (repeat' split) <;> simp_all
theorem sight_pos (a b p q : Int) : (vsight a b p q > 0) ↔ vsight a b p q ≠ 0 := by
  unfold vsight; (repeat' split) <;> simp
/-- None at the root is seen. -/
theorem seen_l0 (l : List S56) (hn : l.length ≤ 60) (p q : Int) (hno : ∀ i : Int, 0 ≤ i → i < l.length → Uf l i = -1 → ¬ visf l p q i) : ∀ (d i k : Nat), i + d = l.length → d < k → valancelaw12_AnchorSeen.l0 k l true i p q = some true := by
  intro d
  induction d with
  | zero =>
    intro i k hd hk
    obtain ⟨k, rfl⟩ : ∃ m, k = m + 1 := ⟨k - 1, by omega⟩
    simp only [valancelaw12_AnchorSeen.l0]
    rw [if_neg (by omega)]
  | succ d ih =>
    intro i k hd hk
    obtain ⟨k, rfl⟩ : ∃ m, k = m + 1 := ⟨k - 1, by omega⟩
    have next : valancelaw12_AnchorSeen.l0 k l true (wrap64 ((i : Int) + 1)) p q = some true := by
      rw [wrap_id (by omega) (by omega)]
      exact ih (i + 1) k (by omega) (by omega)
    simp only [valancelaw12_AnchorSeen.l0]
    rw [if_pos (by omega), if_pos (by omega), next, sight_eq]
    simp only [Option.bind_some]
    by_cases h1 : (rd_T56 l i).f0 = -1
    · rw [if_pos h1]
      by_cases h2 : (rd_T56 l i).f2 = true
      · rw [if_pos h2]
      · rw [if_neg h2]
        have := hno i (by omega) (by omega) h1
        rw [if_neg (fun h => this ⟨by simpa using h2, (sight_pos _ _ _ _).1 h⟩)]
    · rw [if_neg h1]
theorem seen_l2 (l : List S56) (hn : l.length ≤ 60) (p q x u : Int) (h0 : 0 ≤ x) (hx : x < l.length) (hno : ∀ i : Int, 0 ≤ i → i < x → Uf l i = u → ¬ visf l p q i) :
    ∀ (d : Nat) (i : Int) (k : Nat), i + d = x → 0 ≤ i → d < k → ∃ m, k ≤ m + d + 1 ∧ valancelaw12_AnchorSeen.l2 k l true x u i p q = valancelaw12_AnchorSeen.l1 m l true (Uf l x) p q := by
  intro d
  induction d with
  | zero =>
    intro i k hd hi hk
    obtain ⟨k, rfl⟩ : ∃ m, k = m + 1 := ⟨k - 1, by omega⟩
    simp only [valancelaw12_AnchorSeen.l2]
    rw [if_neg (by omega), if_pos h0, if_pos hx]
    exact ⟨k, by omega, rfl⟩
  | succ d ih =>
    intro i k hd hi hk
    obtain ⟨k, rfl⟩ : ∃ m, k = m + 1 := ⟨k - 1, by omega⟩
    obtain ⟨m, hm, next⟩ := ih (i + 1) k (by omega) (by omega) (by omega)
    rw [← wrap_id (x := i + 1) (by omega) (by omega)] at next
    refine ⟨m, by omega, ?_⟩
    simp only [valancelaw12_AnchorSeen.l2]
    rw [if_pos (by omega), if_pos (by omega), if_pos (by omega), next, sight_eq]
    simp only [Option.bind_some]
    by_cases h1 : (rd_T56 l i).f0 = u
    · rw [if_pos h1]
      by_cases h2 : (rd_T56 l i).f2 = true
      · rw [if_pos h2]
      · rw [if_neg h2]
        have := hno i (by omega) (by omega) h1
        rw [if_neg (fun h => this ⟨by simpa using h2, (sight_pos _ _ _ _).1 h⟩)]
    · rw [if_neg h1]
theorem seen_l1 (l : List S56) (hn : l.length ≤ 60) (p q : Int) (hv : VL (Uf l) l.length) (x : Int) (hc : Chain (Uf l) l.length (visf l p q) (whf l p q) x) :
    -1 ≤ x → x < l.length → ∀ k : Nat, (x + 2) * 100 < k → valancelaw12_AnchorSeen.l1 k l true x p q = some true := by
  induction hc with
  | root x hx =>
    intro hx1 hx2 k hk
    obtain ⟨k, rfl⟩ : ∃ m, k = m + 1 := ⟨k - 1, by omega⟩
    simp only [valancelaw12_AnchorSeen.l1]
    rw [if_neg (by omega)]
  | up x hf hu _ ih =>
    intro _ hx2 k hk
    have hlo := hf.lo
    have hU := hv x hlo hx2
    obtain ⟨k, rfl⟩ : ∃ m : Nat, k = m + 2 := ⟨k - 2, by omega⟩
    have fin : valancelaw12_AnchorSeen.j4 (k + 1) l true x (Uf l x) false p q = some true := by
      simp only [valancelaw12_AnchorSeen.j4, Bool.false_eq_true, if_false]
      obtain ⟨m, hm, e⟩ := seen_l2 l hn p q x (Uf l x) hlo hx2 hf.first x.toNat 0 k (by omega) (by omega) (by omega)
      rw [e]
      exact ih (by omega) (by omega) m (by omega)
    simp only [valancelaw12_AnchorSeen.l1]
    rw [if_pos (by omega), if_pos hlo, if_pos hx2]
    rw [show (rd_T56 l x).f0 = Uf l x from rfl]
    by_cases h1 : Uf l x ≥ 0
    · obtain ⟨⟨hs, hz⟩, hw⟩ := hu h1
      rw [if_pos h1, if_pos h1, if_pos (by omega), if_neg (by rw [hs]; simp), sight_eq]
      simp only [Option.bind_some]
      rw [sight_1 _ _ _ _ hz hw]
      exact fin
    · rw [if_neg h1]
      exact fin
theorem AnchorSeen : valancelaw12_AnchorSeen.Pure := by
  intro l p q _ _ _ _ _
  refine ⟨10000, ?_⟩
  unfold valancelaw12_AnchorSeen.f
  rw [works_eq 10000 (by omega)]
  simp only [Option.bind_some, if_true]
  by_cases hl : (l.length : Int) > 60
  · rw [if_pos hl]
  rw [if_neg hl]
  obtain ⟨b, hb1, hb2⟩ := valid_tells l (by omega) 10000 (by omega)
  obtain ⟨r, hr, h1, h2⟩ := pick_tells l (by omega) p q 10000 (by omega)
  rw [hb1, hr]
  simp only [Option.bind_some]
  cases b with
  | false =>
    rw [if_neg (by simp), h2 (fun h => by have := hb2.2 h; cases this)]
    simp
  | true =>
    have hv := hb2.1 rfl
    have hp := h1 hv
    have hbd := hp.bd
    rw [if_pos rfl, if_neg (by omega), decide_eq_false (by omega)]
    simp only [valancelaw12_AnchorSeen.j0, Bool.false_eq_true, if_false]
    by_cases e : r = -1
    · subst e
      rw [if_pos rfl]
      refine seen_l0 l (by omega) p q ?_ l.length 0 9999 (by omega) (by omega)
      cases hp with
      | none _ h => exact h
      | whole _ _ hf _ => exact absurd hf.lo (by omega)
      | leaf _ _ hf _ _ => exact absurd hf.lo (by omega)
      | deep _ _ _ _ _ _ h0 => exact absurd h0 (by omega)
    · rw [if_neg e, if_pos (by omega), if_pos (by omega), sight_eq]
      have hs := hp.seen (by omega)
      simp only [Option.bind_some]
      rw [if_neg hs.2, hs.1]
      simp only [valancelaw12_AnchorSeen.j2, Bool.false_eq_true, if_false]
      exact seen_l1 l (by omega) p q hv r (hp.chain (.root _ (by omega)) (fun h => by omega)) (by omega) (by omega) _ (by omega)

end Go.Proofs.Ytnmcefpnpfaklab.Pure
