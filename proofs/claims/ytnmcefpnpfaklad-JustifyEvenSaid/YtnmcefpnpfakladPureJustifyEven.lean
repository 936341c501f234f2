/- The law JustifyEven holds of the printed functions, for all sizes and whole numbers of 64 bits. -/
import Derived.Test.YtnmcefpnpfakladPlainFlip
import Derived.Test.YtnmcefpnpfakladPlainShare
import Derived.Test.YtnmcefpnpfakladVx0
import Derived.Test.YtnmcefpnpfakladVx11
import Derived.Test.YtnmcefpnpfakladVx30
namespace Go.Proofs.Ytnmcefpnpfaklad.Pure
open Go.RowKit Go.Proofs.Ytnmcefpnpfaklad.V Go.Proofs.Ytnmcefpnpfaklad.Plain Go.Proofs.YtnmcefpnpfakladW.PrintWords Go.Proofs.YtnmcefpnpfakladW.PrintLast Go.Proofs.YtnmcefpnpfakladW.PrintMore
theorem even_5 (left n : Int) (hn : 0 < n) (hl : 0 ≤ left) : shr_ (vkind 5 left n) left n 0 = left / (n + 1) ∧ ∀ i : Nat, left / (n + 1) ≤ shr_ (vkind 5 left n) left n (i + 1) - shr_ (vkind 5 left n) left n i ∧ shr_ (vkind 5 left n) left n (i + 1) - shr_ (vkind 5 left n) left n i ≤ left / (n + 1) + 1 := by
  by_cases h : left ≤ 0
  · obtain rfl : left = 0 := by omega
    rw [show vkind 5 0 n = 2 by unfold vkind; rw [if_pos (.inr rfl), if_pos (by omega)]]
    unfold shr_
    simp
  · rw [show vkind 5 left n = 5 by unfold vkind; rw [if_pos (.inr rfl), if_neg h]]
    have e : ∀ k : Nat, shr_ 5 left n k = left * ((k : Int) + 1) / (n + 1) := fun k => by unfold shr_; rw [if_neg (by omega), if_neg (by omega), if_neg (by omega), if_neg (by omega), if_pos rfl]
    refine ⟨by rw [e]; simp, fun i => ?_⟩
    rw [e, e]
    have := frac_add (left * ((i : Int) + 1)) left (n + 1) (by omega)
    rw [show left * (((i + 1 : Nat) : Int) + 1) = left * ((i : Int) + 1) + left by rw [show (((i + 1 : Nat) : Int) + 1) = ((i : Int) + 1) + 1 by omega, Int.mul_add left ((i : Int) + 1) 1, Int.mul_one]]
    omega
theorem even_4 (left n : Int) (hn : 0 < n) (hl : 0 ≤ left) : shr_ (vkind 4 left n) left n 0 = left / (2 * n) ∧ ∀ i : Nat, left / n ≤ shr_ (vkind 4 left n) left n (i + 1) - shr_ (vkind 4 left n) left n i ∧ shr_ (vkind 4 left n) left n (i + 1) - shr_ (vkind 4 left n) left n i ≤ left / n + 1 := by
  by_cases h : left ≤ 0
  · obtain rfl : left = 0 := by omega
    rw [show vkind 4 0 n = 2 by unfold vkind; rw [if_pos (.inl rfl), if_pos (by omega)]]
    unfold shr_
    simp
  · rw [show vkind 4 left n = 4 by unfold vkind; rw [if_pos (.inl rfl), if_neg h]]
    have e : ∀ k : Nat, shr_ 4 left n k = left * (2 * (k : Int) + 1) / (2 * n) := fun k => by unfold shr_; rw [if_neg (by omega), if_neg (by omega), if_neg (by omega), if_pos rfl]
    refine ⟨by rw [e]; simp, fun i => ?_⟩
    rw [e, e]
    have := frac_add (left * (2 * (i : Int) + 1)) (2 * left) (2 * n) (by omega)
    rw [Int.mul_ediv_mul_of_pos _ _ (by omega : (0 : Int) < 2)] at this
    rw [show left * (2 * ((i + 1 : Nat) : Int) + 1) = left * (2 * (i : Int) + 1) + 2 * left by rw [show (2 * ((i + 1 : Nat) : Int) + 1) = (2 * (i : Int) + 1) + 2 by omega, Int.mul_add left (2 * (i : Int) + 1) 2, Int.mul_comm left 2]]
    omega
theorem tdiv_nn (a b : Int) (h : 0 ≤ a) : Int.tdiv a b = a / b := Int.tdiv_eq_ediv_of_nonneg h
theorem even_l1 {l : List Int} (h : Small l 0) (hn : 0 < l.length) (left : Int) (hl : 0 ≤ left) (hl2 : left ≤ 1073741824) (e a : List Int) (he : e.length = l.length) (ha : a.length = l.length)
    (hre : ∀ j : Nat, j < l.length → rd e j = ps l 0 j + shr_ (vkind 5 left l.length) left l.length j) (hra : ∀ j : Nat, j < l.length → rd a j = ps l 0 j + shr_ (vkind 4 left l.length) left l.length j) :
    ∀ (d i k : Nat), i + d = l.length → 200 + d < k → valancelaw09_JustifyEven.l1 k l true left e a (l.length : Int) i = some true := by
  have h5 := h.len
  have bd : ∀ (x : Int) (j : Nat), x = 4 ∨ x = 5 → j < l.length → -4294967296 ≤ ps l 0 j + shr_ (vkind x left l.length) left l.length j ∧ ps l 0 j + shr_ (vkind x left l.length) left l.length j ≤ 4294967296 := by
    intro x j _ hj
    have h1 := ps_bd h j (by omega)
    have h2 := shr_bd (vkind x left l.length) left l.length j (by omega) (by omega) (by omega) (fun e => (vkind_3 e).1)
    omega
  obtain ⟨e50, e5⟩ := even_5 left l.length (by omega) hl
  obtain ⟨e40, e4⟩ := even_4 left l.length (by omega) hl
  have q1 := ediv_bd2 left ((l.length : Int) + 1) (by omega) 1073741824 (by omega) (by omega)
  have q2 := ediv_bd2 left (l.length : Int) (by omega) 1073741824 (by omega) (by omega)
  have q3 := ediv_bd2 left (2 * (l.length : Int)) (by omega) 1073741824 (by omega) (by omega)
  intro d
  induction d with
  | zero =>
    intro i k hd hk
    obtain ⟨k, rfl⟩ : ∃ m, k = m + 1 := ⟨k - 1, by omega⟩
    simp only [valancelaw09_JustifyEven.l1]
    rw [if_neg (by omega)]
  | succ d ih =>
    intro i k hd hk
    obtain ⟨k, rfl⟩ : ∃ m, k = m + 1 := ⟨k - 1, by omega⟩
    have next : valancelaw09_JustifyEven.l1 k l true left e a (l.length : Int) (wrap64 ((i : Int) + 1)) = some true := by
      rw [wrap_id (by omega) (by omega)]
      exact ih (i + 1) k (by omega) (by omega)
    simp only [valancelaw09_JustifyEven.l1, tdiv_nn _ _ hl]
    rw [wrap_id (x := (l.length : Int) + 1) (by omega) (by omega), wrap_id (x := left / ((l.length : Int) + 1)) (by omega) (by omega), wrap_id (x := left / ((l.length : Int) + 1) + 1) (by omega) (by omega), wrap_id (x := left / (l.length : Int)) (by omega) (by omega), wrap_id (x := left / (l.length : Int) + 1) (by omega) (by omega),
      wrap_id (x := 2 * (l.length : Int)) (by omega) (by omega), wrap_id (x := left / (2 * (l.length : Int))) (by omega) (by omega), wrap_id (x := left / (2 * (l.length : Int)) + 1) (by omega) (by omega)]
    rw [if_pos (by omega), if_pos (by omega), if_pos (by omega), if_pos (by omega)]
    by_cases h0 : (i : Int) > 0
    · obtain ⟨q, rfl⟩ : ∃ q, i = q + 1 := ⟨i - 1, by omega⟩
      have e1 : wrap64 (((q + 1 : Nat) : Int) - 1) = (q : Int) := by rw [wrap_id (by omega) (by omega)]; omega
      have b1 := bd 5 (q + 1) (.inr rfl) (by omega)
      have b2 := bd 5 q (.inr rfl) (by omega)
      have b3 := bd 4 (q + 1) (.inl rfl) (by omega)
      have b4 := bd 4 q (.inl rfl) (by omega)
      have b5 := h.each q (by omega)
      have e5q := e5 q
      have e4q := e4 q
      have p : ps l 0 (q + 1) = ps l 0 q + rd l q := by simp only [ps]; omega
      rw [if_pos h0, e1, if_pos (by omega), if_pos (by omega), if_pos (by omega), if_pos (by omega), if_neg (by omega)]
      rw [hre (q + 1) (by omega), hre q (by omega), hra (q + 1) (by omega), hra q (by omega)]
      rw [p] at b1 b3 ⊢
      rw [wrap_id (x := ps l 0 q + rd l q + shr_ (vkind 5 left l.length) left l.length (q + 1) - (ps l 0 q + shr_ (vkind 5 left l.length) left l.length q)) (by omega) (by omega), wrap_id (x := ps l 0 q + rd l q + shr_ (vkind 4 left l.length) left l.length (q + 1) - (ps l 0 q + shr_ (vkind 4 left l.length) left l.length q)) (by omega) (by omega),
        wrap_id (x := ps l 0 q + rd l q + shr_ (vkind 5 left l.length) left l.length (q + 1) - (ps l 0 q + shr_ (vkind 5 left l.length) left l.length q) - rd l q) (by omega) (by omega), wrap_id (x := ps l 0 q + rd l q + shr_ (vkind 4 left l.length) left l.length (q + 1) - (ps l 0 q + shr_ (vkind 4 left l.length) left l.length q) - rd l q) (by omega) (by omega),
        if_neg (by omega), if_neg (by omega), if_neg (by omega), if_neg (by omega), if_neg (by omega), if_neg (by omega)]
      exact next
    · obtain rfl : i = 0 := by omega
      have r1 := hre 0 hn
      have r2 := hra 0 hn
      rw [show ps l 0 0 = 0 from rfl, Int.zero_add] at r1 r2
      rw [e50] at r1
      rw [e40] at r2
      rw [if_neg h0, if_neg (by omega), r1, r2, if_neg (by omega), if_neg (by omega), if_pos (by omega), if_neg (by omega), if_neg (by omega), if_neg (by omega)]
      exact next
theorem even_l0 (l : List Int) (hl : l.length ≤ 64) (hn : 0 < l.length) (room : Int) (hr : 0 ≤ room) (hr2 : room ≤ 1073741824) :
    ∀ (d i k : Nat), i + d = l.length → (∀ j : Nat, j < i → 0 ≤ rd l j ∧ rd l j ≤ 1048576) → 400 + d < k → valancelaw09_JustifyEven.l0 k l room true i = some true := by
  intro d
  induction d with
  | zero =>
    intro i k hd he hk
    obtain ⟨k, rfl⟩ : ∃ m, k = m + 1 := ⟨k - 1, by omega⟩
    simp only [valancelaw09_JustifyEven.l0]
    have h : Small l 0 := ⟨hl, by omega, by omega, fun j hj => he j (by omega)⟩
    have hb := ns_bd h
    obtain ⟨e, he, he1, hre⟩ := starts_small h 5 room (by omega) (by omega) k (by omega)
    obtain ⟨a, ha, ha1, hra⟩ := starts_small h 4 room (by omega) (by omega) k (by omega)
    rw [if_neg (by omega), long_small h k (by omega)]
    simp only [Option.bind_some]
    rw [wrap_id (by omega) (by omega)]
    refine ite_ (fun _ => rfl) (fun h1 => ?_)
    rw [he, ha]
    simp only [Option.bind_some]
    exact even_l1 h hn _ (by omega) (by omega) e a he1 ha1 hre hra l.length 0 k (by omega) (by omega)
  | succ d ih =>
    intro i k hd he hk
    obtain ⟨k, rfl⟩ : ∃ m, k = m + 1 := ⟨k - 1, by omega⟩
    simp only [valancelaw09_JustifyEven.l0]
    rw [if_pos (by omega), if_pos (by omega)]
    refine ite_ (fun _ => rfl) (fun h1 => ite_ (fun _ => rfl) (fun h2 => ?_))
    rw [wrap_id (by omega) (by omega)]
    exact ih (i + 1) k (by omega) (fun j hj => by
      by_cases e : j = i
      · subst e; omega
      · exact he j (by omega)) (by omega)
theorem JustifyEven : valancelaw09_JustifyEven.Pure := by
  intro l room _ _ _ _
  refine ⟨1000, ?_⟩
  unfold valancelaw09_JustifyEven.f
  rw [works_eq 1000 (by omega)]
  simp only [Option.bind_some, if_true]
  have yes : valancelaw09_JustifyEven.j0 1000 l room true true = some true := by simp only [valancelaw09_JustifyEven.j0]; rfl
  refine ite_ (fun _ => yes) (fun h1 => ite_ (fun _ => yes) (fun h2 => ite_ (fun _ => yes) (fun h3 => ?_)))
  by_cases h8 : room > 1073741824
  · rw [decide_eq_true h8]; exact yes
  rw [decide_eq_false h8]
  simp only [valancelaw09_JustifyEven.j0, Bool.false_eq_true, if_false]
  exact even_l0 l (by omega) (by omega) room (by omega) (by omega) l.length 0 999 (by omega) (fun j hj => by omega) (by omega)
end Go.Proofs.Ytnmcefpnpfaklad.Pure
