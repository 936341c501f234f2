/- The law JustifyMore holds of the printed functions, for all sizes and whole numbers of 64 bits. -/
import Derived.Test.YtnmcefpnpfakladPlainFlip
import Derived.Test.YtnmcefpnpfakladPlainShare
import Derived.Test.YtnmcefpnpfakladVx0
import Derived.Test.YtnmcefpnpfakladVx11
import Derived.Test.YtnmcefpnpfakladVx31
namespace Go.Proofs.Ytnmcefpnpfaklad.Pure
open Go.RowKit Go.Proofs.Ytnmcefpnpfaklad.V Go.Proofs.Ytnmcefpnpfaklad.Plain Go.Proofs.YtnmcefpnpfakladW.PrintWords Go.Proofs.YtnmcefpnpfakladW.PrintLast Go.Proofs.YtnmcefpnpfakladW.PrintMore
theorem frac_more (x y q m : Int) (hq : 0 < q) (h0 : 0 ≤ y) (h1 : y ≤ m * q) : x / q ≤ (x + y) / q ∧ (x + y) / q ≤ x / q + m := by
  constructor
  · exact Int.ediv_le_ediv hq (by omega)
  · have : (x + y) / q ≤ (x + m * q) / q := Int.ediv_le_ediv hq (by omega)
    rw [Int.add_mul_ediv_right _ _ (by omega)] at this
    exact this
theorem part_more (left m p q : Int) (hm : 0 ≤ m) (h0 : 0 ≤ p) (h1 : p ≤ q) (hq : 0 < q) : left * p / q ≤ (left + m) * p / q ∧ (left + m) * p / q ≤ left * p / q + m := by
  rw [Int.add_mul]
  exact frac_more _ _ _ _ hq (Int.mul_nonneg hm h0) (Int.mul_le_mul_of_nonneg_left h1 hm)
theorem more_shr (kind left m n : Int) (k : Nat) (hk : (k : Int) < n) (hl : 0 ≤ left) (hm : 0 ≤ m) :
    shr_ (vkind kind left n) left n k ≤ shr_ (vkind kind (left + m) n) (left + m) n k ∧ shr_ (vkind kind (left + m) n) (left + m) n k ≤ shr_ (vkind kind left n) left n k + m := by
  have i0 := shr_in (vkind kind (left + m) n) (left + m) n k hk (by omega) (fun e => (vkind_3 e).1)
  by_cases h0 : left = 0
  · subst h0
    have e : shr_ (vkind kind 0 n) 0 n k = 0 := by
      have := shr_in (vkind kind 0 n) 0 n k hk (by omega) (fun e => (vkind_3 e).1)
      omega
    rw [e]; omega
  · have ek : vkind kind (left + m) n = vkind kind left n := by
      unfold vkind
      by_cases h4 : kind = 4 ∨ kind = 5
      · rw [if_pos h4, if_pos h4, if_neg (by omega), if_neg (by omega)]
      · rw [if_neg h4, if_neg h4]
        by_cases h3 : kind = 3
        · rw [if_pos h3, if_pos h3]
          by_cases h2 : n > 1
          · rw [if_pos ⟨by omega, h2⟩, if_pos ⟨by omega, h2⟩]
          · rw [if_neg (fun h => h2 h.2), if_neg (fun h => h2 h.2)]
        · rw [if_neg h3, if_neg h3]
    rw [ek]
    have h3 := @vkind_3 kind left n
    generalize vkind kind left n = kd at *
    unfold shr_
    by_cases h1 : kd = 1
    · rw [if_pos h1, if_pos h1]; omega
    rw [if_neg h1, if_neg h1]
    by_cases h2 : kd = 2
    · rw [if_pos h2, if_pos h2]; omega
    rw [if_neg h2, if_neg h2]
    by_cases h3' : kd = 3
    · rw [if_pos h3', if_pos h3']; have := h3 h3'; exact part_more _ _ _ _ hm (by omega) (by omega) (by omega)
    rw [if_neg h3', if_neg h3']
    by_cases h4 : kd = 4
    · rw [if_pos h4, if_pos h4]; exact part_more _ _ _ _ hm (by omega) (by omega) (by omega)
    rw [if_neg h4, if_neg h4]
    by_cases h5 : kd = 5
    · rw [if_pos h5, if_pos h5]; exact part_more _ _ _ _ hm (by omega) (by omega) (by omega)
    rw [if_neg h5, if_neg h5]; omega
theorem shr_none (left n : Int) (k : Nat) : shr_ (vkind 0 left n) left n k = 0 := by
  rw [show vkind 0 left n = 0 by unfold vkind; rw [if_neg (by omega), if_neg (by omega)]]
  unfold shr_; simp
theorem more_l1 (n : Nat) (hn : n ≤ 64) (kind more : Int) (hm : 0 ≤ more) (hm2 : more ≤ 268435456) (fits : Bool) (a b : List Int) (ha : a.length = n) (hb : b.length = n)
    (bd : ∀ j : Nat, j < n → -4294967296 ≤ rd a j ∧ rd a j ≤ 4294967296) (h1 : fits = true → ∀ j : Nat, j < n → rd a j ≤ rd b j ∧ rd b j ≤ rd a j + more) (h2 : kind = 0 → ∀ j : Nat, j < n → rd a j = rd b j) (h3 : kind = 1 → ∀ j : Nat, j < n → rd b j = rd a j + more) :
    ∀ (d i k : Nat), i + d = n → d < k → valancelaw09_JustifyMore.l1 k kind more true a b fits i = some true := by
  intro d
  induction d with
  | zero =>
    intro i k hd hk
    obtain ⟨k, rfl⟩ : ∃ m, k = m + 1 := ⟨k - 1, by omega⟩
    simp only [valancelaw09_JustifyMore.l1]
    rw [if_neg (by omega), if_pos trivial, ha, hb]; simp
  | succ d ih =>
    intro i k hd hk
    obtain ⟨k, rfl⟩ : ∃ m, k = m + 1 := ⟨k - 1, by omega⟩
    have next : valancelaw09_JustifyMore.l1 k kind more true a b fits (wrap64 ((i : Int) + 1)) = some true := by
      rw [wrap_id (by omega) (by omega)]
      exact ih (i + 1) k (by omega) (by omega)
    have hbd := bd i (by omega)
    simp only [valancelaw09_JustifyMore.l1]
    rw [if_pos (by omega), next, wrap_id (x := rd a i + more) (by omega) (by omega)]
    have t1 : (if kind = 1 then (if rd b i = rd a i + more then (some true : Option Bool) else none) else some true) = some true := by
      by_cases k1 : kind = 1
      · rw [if_pos k1, if_pos (h3 k1 i (by omega))]
      · rw [if_neg k1]
    have t0 : (if kind = 0 then (if rd a i = rd b i then (if kind = 1 then (if rd b i = rd a i + more then (some true : Option Bool) else none) else some true) else none) else (if kind = 1 then (if rd b i = rd a i + more then (some true : Option Bool) else none) else some true)) = some true := by
      rw [t1]
      by_cases k0 : kind = 0
      · rw [if_pos k0, if_pos (h2 k0 i (by omega))]
      · rw [if_neg k0]
    cases fits with
    | true =>
      have h := h1 rfl i (by omega)
      rw [if_pos rfl, if_pos (by omega), if_pos (by omega), if_neg (by omega), if_neg (by omega)]
      exact t0
    | false =>
      rw [if_neg (by simp)]
      simp only [if_pos (show 0 ≤ (i : Int) by omega), if_pos (show (i : Int) < (b.length : Int) by omega)]
      exact t0
theorem more_l0 (l : List Int) (gap : Int) (hl : l.length ≤ 64) (hg : 0 ≤ gap) (hg2 : gap ≤ 1048576) (kind room more : Int) (hr : 0 ≤ room) (hr2 : room ≤ 268435456) (hm : 0 ≤ more) (hm2 : more ≤ 268435456) :
    ∀ (d i k : Nat), i + d = l.length → (∀ j : Nat, j < i → 0 ≤ rd l j ∧ rd l j ≤ 1048576) → 400 + d < k → valancelaw09_JustifyMore.l0 k kind l room more gap true i = some true := by
  intro d
  induction d with
  | zero =>
    intro i k hd he hk
    obtain ⟨k, rfl⟩ : ∃ m, k = m + 1 := ⟨k - 1, by omega⟩
    simp only [valancelaw09_JustifyMore.l0]
    have h : Small l gap := ⟨hl, hg, hg2, fun j hj => he j (by omega)⟩
    have hb := ns_bd h
    obtain ⟨a, ha, ha1, hra⟩ := starts_small h kind room (by omega) (by omega) k (by omega)
    obtain ⟨b, hb', hb1, hrb⟩ := starts_small h kind (room + more) (by omega) (by omega) k (by omega)
    rw [if_neg (by omega), ha, wrap_id (x := room + more) (by omega) (by omega), hb']
    simp only [Option.bind_some]
    rw [long_small h k (by omega)]
    simp only [Option.bind_some]
    rw [show room + more - ns l gap l.length = room - ns l gap l.length + more by omega] at hrb
    refine more_l1 l.length hl kind more hm hm2 _ a b ha1 hb1 (fun j hj => ?_) (fun hf j hj => ?_) (fun k0 j hj => ?_) (fun k1 j hj => ?_) l.length 0 k (by omega) (by omega)
    · rw [hra j hj]
      have h1 := ps_bd h j (by omega)
      have h2 := shr_bd (vkind kind (room - ns l gap l.length) l.length) (room - ns l gap l.length) l.length j (by omega) (by omega) (by omega) (fun e => (vkind_3 e).1)
      omega
    · have hf' := of_decide_eq_true hf
      have := more_shr kind (room - ns l gap l.length) more l.length j (by omega) (by omega) hm
      rw [hra j hj, hrb j hj]
      omega
    · subst k0; rw [hra j hj, hrb j hj, shr_none, shr_none]
    · subst k1; rw [hra j hj, hrb j hj, shr_end, shr_end]; omega
  | succ d ih =>
    intro i k hd he hk
    obtain ⟨k, rfl⟩ : ∃ m, k = m + 1 := ⟨k - 1, by omega⟩
    simp only [valancelaw09_JustifyMore.l0]
    rw [if_pos (by omega), if_pos (by omega)]
    refine ite_ (fun _ => rfl) (fun h1 => ite_ (fun _ => rfl) (fun h2 => ?_))
    rw [wrap_id (by omega) (by omega)]
    exact ih (i + 1) k (by omega) (fun j hj => by
      by_cases e : j = i
      · subst e; omega
      · exact he j (by omega)) (by omega)
theorem JustifyMore : valancelaw09_JustifyMore.Pure := by
  intro kind l room more gap _ _ _ _ _ _ _
  refine ⟨1000, ?_⟩
  unfold valancelaw09_JustifyMore.f
  rw [works_eq 1000 (by omega)]
  simp only [Option.bind_some, if_true]
  have yes : valancelaw09_JustifyMore.j0 1000 kind l room more gap true true = some true := by simp only [valancelaw09_JustifyMore.j0]; rfl
  refine ite_ (fun _ => yes) (fun h1 => ite_ (fun _ => yes) (fun h2 => ite_ (fun _ => yes) (fun h3 => ite_ (fun _ => yes) (fun h4 => ite_ (fun _ => yes) (fun h5 => ite_ (fun _ => yes) (fun h6 => ?_))))))
  by_cases h8 : gap > 1048576
  · rw [decide_eq_true h8]; exact yes
  rw [decide_eq_false h8]
  simp only [valancelaw09_JustifyMore.j0, Bool.false_eq_true, if_false]
  exact more_l0 l gap (by omega) (by omega) (by omega) kind room more (by omega) (by omega) (by omega) (by omega) l.length 0 999 (by omega) (fun j hj => by omega) (by omega)
end Go.Proofs.Ytnmcefpnpfaklad.Pure
