/- In which order the keys go: what Order answers, in plain words. -/
import Derived.Test.YtnmcefpnpfakladPlainSeg
import Derived.Test.YtnmcefpnpfakladVx0
import Derived.Test.YtnmcefpnpfakladVx35
namespace Go.Proofs.Ytnmcefpnpfaklad.Plain
open Go.RowKit Go.Proofs.Ytnmcefpnpfaklad.V Go.Proofs.YtnmcefpnpfakladW.PrintWords Go.Proofs.YtnmcefpnpfakladW.PrintMore
/-- Which place stands at i. -/
def vat (l : List Int) (i : Nat) : Nat := (Srt.vord (fun i => rd l (i : Int)) l.length).getD i 0
/-- a stands ahead of b. -/
def Ahead (l : List Int) (a b : Nat) : Prop := rd l (a : Int) < rd l (b : Int) ∨ (rd l (a : Int) = rd l (b : Int) ∧ a < b)
theorem vorder_len (l : List Int) : (vorder l).length = l.length := by
  unfold vorder
  rw [List.length_map, Srt.vord_length]
theorem rd_vorder (l : List Int) (i : Nat) : rd (vorder l) (i : Int) = (vat l i : Int) := by
  unfold rd vorder vat
  rw [Int.toNat_natCast, List.getD_eq_getElem?_getD, List.getD_eq_getElem?_getD, List.getElem?_map]
  cases (Srt.vord (fun i => rd l (i : Int)) l.length)[i]? <;> rfl
theorem vat_get (l : List Int) (i : Nat) (h : i < l.length) : ∃ h2 : i < (Srt.vord (fun i => rd l (i : Int)) l.length).length, vat l i = (Srt.vord (fun i => rd l (i : Int)) l.length)[i] := by
  have h2 : i < (Srt.vord (fun i => rd l (i : Int)) l.length).length := by rw [Srt.vord_length]; exact h
  refine ⟨h2, ?_⟩
  unfold vat
  rw [List.getD_eq_getElem?_getD, List.getElem?_eq_getElem h2]; rfl
theorem vat_lt (l : List Int) (i : Nat) (h : i < l.length) : vat l i < l.length := by
  obtain ⟨h2, e⟩ := vat_get l i h
  rw [e]
  exact Srt.vord_lt (List.getElem_mem h2)
theorem vat_ahead (l : List Int) (i j : Nat) (hij : i < j) (h : j < l.length) : Ahead l (vat l i) (vat l j) := by
  obtain ⟨h2, e⟩ := vat_get l i (by omega)
  obtain ⟨h3, e3⟩ := vat_get l j h
  rw [e, e3]
  exact (List.pairwise_iff_getElem.1 (Srt.vord_sorted (fun i => rd l (i : Int)) l.length)) i j h2 h3 hij
theorem vat_all (l : List Int) (q : Nat) (h : q < l.length) : ∃ j, j < l.length ∧ vat l j = q := by
  have h1 : q ∈ Srt.vord (fun i => rd l (i : Int)) l.length := (Srt.vord_perm _ _).mem_iff.2 (List.mem_range.2 h)
  obtain ⟨j, hj, e⟩ := List.getElem_of_mem h1
  have hj2 : j < l.length := by rwa [Srt.vord_length] at hj
  obtain ⟨_, e2⟩ := vat_get l j hj2
  exact ⟨j, hj2, e2.trans e⟩
theorem ahead_ne {l : List Int} {a b : Nat} (h : Ahead l a b) : a ≠ b := by
  rintro rfl
  unfold Ahead at h
  omega
theorem ahead_not {l : List Int} {a b : Nat} (h : Ahead l a b) (h2 : Ahead l b a) : False := by
  unfold Ahead at h h2
  omega
theorem order_f (l : List Int) (h : l.length ≤ 500) : lines_Order.f l = some (vorder l) := by
  unfold lines_Order.f
  rw [if_pos (by omega)]
theorem seen_set (s : List Bool) (p q : Nat) (h : rdOf false (s.set p true) (q : Int) = true) : q = p ∨ rdOf false s (q : Int) = true := by
  unfold rdOf at *
  rw [Int.toNat_natCast, List.getD_eq_getElem?_getD] at h ⊢
  rw [List.getElem?_set] at h
  by_cases e : p = q
  · exact .inl e.symm
  · rw [if_neg e] at h
    exact .inr h
theorem seen_set' (s : List Bool) (p q : Nat) (hp : p < s.length) (h : q = p ∨ rdOf false s (q : Int) = true) : rdOf false (s.set p true) (q : Int) = true := by
  unfold rdOf at *
  rw [Int.toNat_natCast, List.getD_eq_getElem?_getD] at h ⊢
  rw [List.getElem?_set]
  by_cases e : p = q
  · subst e; rw [if_pos rfl, if_pos hp]; rfl
  · rw [if_neg e]
    rcases h with h | h
    · exact absurd h.symm e
    · exact h
end Go.Proofs.Ytnmcefpnpfaklad.Plain
