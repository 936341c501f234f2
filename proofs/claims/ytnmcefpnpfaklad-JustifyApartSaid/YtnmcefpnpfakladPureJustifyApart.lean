/- The law JustifyApart holds of the printed functions, for all sizes and whole numbers of 64 bits. -/
import Derived.Test.YtnmcefpnpfakladPlainFlip
import Derived.Test.YtnmcefpnpfakladPlainShare
import Derived.Test.YtnmcefpnpfakladVx0
import Derived.Test.YtnmcefpnpfakladVx11
import Derived.Test.YtnmcefpnpfakladVx27
namespace Go.Proofs.Ytnmcefpnpfaklad.Pure
open Go.RowKit Go.Proofs.Ytnmcefpnpfaklad.V Go.Proofs.Ytnmcefpnpfaklad.Plain Go.Proofs.YtnmcefpnpfakladW.PrintWords Go.Proofs.YtnmcefpnpfakladW.PrintLast Go.Proofs.YtnmcefpnpfakladW.PrintMore
theorem apart_l1 {l : List Int} {gap : Int} (h : Small l gap) (hn : 0 < l.length) (kind room : Int) (hr : 0 ≤ room) (hr2 : room ≤ 1073741824) (a : List Int) (ha : a.length = l.length)
    (hrd : ∀ j : Nat, j < l.length → rd a j = ps l gap j + shr_ (vkind kind (room - ns l gap l.length) l.length) (room - ns l gap l.length) l.length j) :
    ∀ (d i k : Nat), i + d = l.length → 1 ≤ i → 200 + d < k → valancelaw09_JustifyApart.l1 k kind l room gap true a i = some true := by
  have hb := ns_bd h
  have h5 := h.len
  have hg0 := h.gap0
  have hg1 := h.gap1
  have bd : ∀ j : Nat, j < l.length → -4294967296 ≤ rd a j ∧ rd a j ≤ 4294967296 := by
    intro j hj
    rw [hrd j hj]
    have h1 := ps_bd h j (by omega)
    have h2 := shr_bd (vkind kind (room - ns l gap l.length) l.length) (room - ns l gap l.length) l.length j (by omega) (by omega) (by omega) (fun e => (vkind_3 e).1)
    omega
  intro d
  induction d with
  | zero =>
    intro i k hd hi hk
    obtain ⟨k, rfl⟩ : ∃ m, k = m + 1 := ⟨k - 1, by omega⟩
    simp only [valancelaw09_JustifyApart.l1]
    have e1 : wrap64 ((a.length : Int) - 1) = ((l.length - 1 : Nat) : Int) := by rw [ha, wrap_id (by omega) (by omega)]; omega
    have hbl := bd (l.length - 1) (by omega)
    have hel := h.each (l.length - 1) (by omega)
    have hlast : rd a ((l.length - 1 : Nat) : Int) + rd l ((l.length - 1 : Nat) : Int) = ns l gap l.length + shr_ (vkind kind (room - ns l gap l.length) l.length) (room - ns l gap l.length) l.length (l.length - 1) := by
      rw [hrd _ (by omega), ← ns_last (gap := gap) hn]; omega
    rw [if_neg (by omega), e1, if_pos (by omega), if_pos (by omega), if_pos (by omega), long_small h k (by omega), wrap_id (x := rd a ((l.length - 1 : Nat) : Int) + rd l ((l.length - 1 : Nat) : Int)) (by omega) (by omega), hlast]
    simp only [Option.bind_some, if_true]
    have hr0 := hrd 0 hn
    rw [show ps l gap 0 = 0 from rfl, Int.zero_add] at hr0
    rw [show ((0 : Nat) : Int) = 0 from rfl] at hr0
    have hend : kind = 1 → ns l gap l.length + shr_ (vkind kind (room - ns l gap l.length) l.length) (room - ns l gap l.length) l.length (l.length - 1) = room := by
      rintro rfl; rw [shr_end]; omega
    by_cases hf : ns l gap l.length ≤ room
    · have i0 := shr_in (vkind kind (room - ns l gap l.length) l.length) (room - ns l gap l.length) l.length 0 (by omega) (by omega) (fun e => (vkind_3 e).1)
      have i1 := shr_in (vkind kind (room - ns l gap l.length) l.length) (room - ns l gap l.length) l.length (l.length - 1) (by omega) (by omega) (fun e => (vkind_3 e).1)
      rw [if_pos hf, if_pos (by omega), hr0, if_neg (by omega), if_neg (by omega)]
      by_cases k3 : kind = 3
      · rw [if_pos k3]
        by_cases h2 : (l.length : Int) < 2
        · rw [if_pos h2, if_neg (by omega)]
        · have := shr_ends (room - ns l gap l.length) l.length (l.length - 1) (by omega) (by omega) (by omega)
          rw [if_neg h2, if_pos (by rw [k3]; exact this.1), if_pos (by rw [k3, this.2]; omega), if_neg (by omega)]
      · rw [if_neg k3]
        by_cases k1 : kind = 1
        · rw [if_pos k1, hend k1, beq_self_eq_true]
        · rw [if_neg k1]
    · rw [if_neg hf]
      by_cases k1 : kind = 1
      · rw [if_pos k1, hend k1, beq_self_eq_true]
      · rw [if_neg k1]
  | succ d ih =>
    intro i k hd hi hk
    obtain ⟨k, rfl⟩ : ∃ m, k = m + 1 := ⟨k - 1, by omega⟩
    simp only [valancelaw09_JustifyApart.l1]
    have e1 : wrap64 ((i : Int) - 1) = ((i - 1 : Nat) : Int) := by rw [wrap_id (by omega) (by omega)]; omega
    have b1 := bd i (by omega)
    have b2 := bd (i - 1) (by omega)
    have b3 := h.each (i - 1) (by omega)
    rw [if_pos (by omega), if_pos (by omega), e1, if_pos (by omega), if_pos (by omega), if_pos (by omega), wrap_id (x := rd a ((i - 1 : Nat) : Int) + rd l ((i - 1 : Nat) : Int)) (by omega) (by omega), wrap_id (x := rd a ((i - 1 : Nat) : Int) + rd l ((i - 1 : Nat) : Int) + gap) (by omega) (by omega), if_neg, wrap_id (by omega) (by omega)]
    · exact ih (i + 1) k (by omega) (by omega) (by omega)
    · have m := shr_mono kind (room - ns l gap l.length) l.length (i - 1) (by omega)
      rw [hrd i (by omega), hrd (i - 1) (by omega)]
      obtain ⟨q, rfl⟩ : ∃ q, i = q + 1 := ⟨i - 1, by omega⟩
      simp only [Nat.add_sub_cancel] at m ⊢
      simp only [ps]
      omega
theorem apart_l0 (l : List Int) (gap : Int) (hl : l.length ≤ 64) (hg : 0 ≤ gap) (hg2 : gap ≤ 1048576) (hn : 0 < l.length) (kind room : Int) (hr : 0 ≤ room) (hr2 : room ≤ 1073741824) :
    ∀ (d i k : Nat), i + d = l.length → (∀ j : Nat, j < i → 0 ≤ rd l j ∧ rd l j ≤ 1048576) → 400 + d < k → valancelaw09_JustifyApart.l0 k kind l room gap true i = some true := by
  intro d
  induction d with
  | zero =>
    intro i k hd he hk
    obtain ⟨k, rfl⟩ : ∃ m, k = m + 1 := ⟨k - 1, by omega⟩
    simp only [valancelaw09_JustifyApart.l0]
    have h : Small l gap := ⟨hl, hg, hg2, fun j hj => he j (by omega)⟩
    obtain ⟨a, ha, ha1, ha2⟩ := starts_small h kind room (by omega) (by omega) k (by omega)
    rw [if_neg (by omega), ha]
    simp only [Option.bind_some]
    rw [if_pos (by omega)]
    exact apart_l1 h hn kind room hr hr2 a ha1 ha2 (l.length - 1) 1 k (by omega) (by omega) (by omega)
  | succ d ih =>
    intro i k hd he hk
    obtain ⟨k, rfl⟩ : ∃ m, k = m + 1 := ⟨k - 1, by omega⟩
    simp only [valancelaw09_JustifyApart.l0]
    rw [if_pos (by omega), if_pos (by omega)]
    refine ite_ (fun _ => rfl) (fun h1 => ite_ (fun _ => rfl) (fun h2 => ?_))
    rw [wrap_id (by omega) (by omega)]
    exact ih (i + 1) k (by omega) (fun j hj => by
      by_cases e : j = i
      · subst e; omega
      · exact he j (by omega)) (by omega)
theorem JustifyApart : valancelaw09_JustifyApart.Pure := by
  intro kind l room gap _ _ _ _ _ _
  refine ⟨1000, ?_⟩
  unfold valancelaw09_JustifyApart.f
  rw [works_eq 1000 (by omega)]
  simp only [Option.bind_some, if_true]
  have yes : valancelaw09_JustifyApart.j0 1000 kind l room gap true true = some true := by simp only [valancelaw09_JustifyApart.j0]; rfl
  refine ite_ (fun _ => yes) (fun h1 => ite_ (fun _ => yes) (fun h2 => ite_ (fun _ => yes) (fun h3 => ite_ (fun _ => yes) (fun h4 => ite_ (fun _ => yes) (fun h5 => ?_)))))
  by_cases h6 : gap > 1048576
  · rw [decide_eq_true h6]; exact yes
  rw [decide_eq_false h6]
  simp only [valancelaw09_JustifyApart.j0, Bool.false_eq_true, if_false]
  exact apart_l0 l gap (by omega) (by omega) (by omega) (by omega) kind room (by omega) (by omega) l.length 0 999 (by omega) (fun j hj => by omega) (by omega)
end Go.Proofs.Ytnmcefpnpfaklad.Pure
