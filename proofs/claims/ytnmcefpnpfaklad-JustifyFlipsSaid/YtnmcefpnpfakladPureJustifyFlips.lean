/- The law JustifyFlips holds of the printed functions, for all sizes and whole numbers of 64 bits. -/
import Derived.Test.YtnmcefpnpfakladPlainFlip
import Derived.Test.YtnmcefpnpfakladPlainShare
import Derived.Test.YtnmcefpnpfakladVx0
import Derived.Test.YtnmcefpnpfakladVx2
import Derived.Test.YtnmcefpnpfakladVx11
import Derived.Test.YtnmcefpnpfakladVx12
import Derived.Test.YtnmcefpnpfakladVx28
namespace Go.Proofs.Ytnmcefpnpfaklad.Pure
open Go.RowKit Go.Proofs.Ytnmcefpnpfaklad.V Go.Proofs.Ytnmcefpnpfaklad.Plain Go.Proofs.YtnmcefpnpfakladW.PrintWords Go.Proofs.YtnmcefpnpfakladW.PrintLast Go.Proofs.YtnmcefpnpfakladW.PrintMore
theorem flips_l1 (l a f : List Int) (room : Int) (hl : l.length ≤ 64) (ha : a.length = l.length) (hf : f.length = l.length) (hr : 0 ≤ room) (hr2 : room ≤ 1073741824)
    (hb : ∀ j : Nat, j < l.length → 0 ≤ rd l j ∧ rd l j ≤ 1048576 ∧ -4294967296 ≤ rd a j ∧ rd a j ≤ 4294967296 ∧ rd f j = room - (rd a j + rd l j)) :
    ∀ (d i k : Nat), i + d = l.length → 200 + d < k → valancelaw09_JustifyFlips.l1 k l room true a f i = some true := by
  intro d
  induction d with
  | zero =>
    intro i k hd hk
    obtain ⟨k, rfl⟩ : ∃ m, k = m + 1 := ⟨k - 1, by omega⟩
    simp only [valancelaw09_JustifyFlips.l1]
    rw [if_neg (by omega), if_pos trivial]
    simp only [Option.bind_some]
    rw [if_pos (by simp; omega), if_pos (by simp; omega)]
    unfold justify_Flip.f
    rw [if_neg (by simp; omega)]
    rfl
  | succ d ih =>
    intro i k hd hk
    obtain ⟨k, rfl⟩ : ∃ m, k = m + 1 := ⟨k - 1, by omega⟩
    simp only [valancelaw09_JustifyFlips.l1]
    have h := hb i (by omega)
    rw [if_pos (by omega), if_pos (by omega), if_pos (by omega), if_pos (by omega), wrap_id (x := rd f i + rd l i) (by omega) (by omega), wrap_id (x := room - rd a i) (by omega) (by omega), if_pos (by omega), wrap_id (by omega) (by omega)]
    exact ih (i + 1) k (by omega) (by omega)
theorem flips_l0 (l : List Int) (gap : Int) (hl : l.length ≤ 64) (hg : 0 ≤ gap) (hg2 : gap ≤ 1048576) (kind room : Int) (hr : 0 ≤ room) (hr2 : room ≤ 1073741824) :
    ∀ (d i k : Nat), i + d = l.length → (∀ j : Nat, j < i → 0 ≤ rd l j ∧ rd l j ≤ 1048576) → 400 + d < k → valancelaw09_JustifyFlips.l0 k kind l room gap true i = some true := by
  intro d
  induction d with
  | zero =>
    intro i k hd he hk
    obtain ⟨k, rfl⟩ : ∃ m, k = m + 1 := ⟨k - 1, by omega⟩
    simp only [valancelaw09_JustifyFlips.l0]
    have h : Small l gap := ⟨hl, hg, hg2, fun j hj => he j (by omega)⟩
    have hb := ns_bd h
    obtain ⟨a, ha, ha1, hrd⟩ := starts_small h kind room (by omega) (by omega) k (by omega)
    have bd : ∀ j : Nat, j < l.length → -4294967296 ≤ rd a j ∧ rd a j ≤ 4294967296 := by
      intro j hj
      rw [hrd j hj]
      have h1 := ps_bd h j (by omega)
      have h2 := shr_bd (vkind kind (room - ns l gap l.length) l.length) (room - ns l gap l.length) l.length j (by omega) (by omega) (by omega) (fun e => (vkind_3 e).1)
      omega
    rw [if_neg (by omega), ha]
    simp only [Option.bind_some]
    rw [flip_eq a l room ha1 (by omega) k (by omega)]
    simp only [Option.bind_some]
    rw [flip_eq _ l room (flip_len _ _ _) (by omega) k (by omega)]
    simp only [Option.bind_some]
    have hf : ∀ j : Nat, j < l.length → rd (vfl a l room l.length 0 []) j = room - (rd a j + rd l j) := by
      intro j hj
      have h1 := bd j hj
      have h2 := h.each j hj
      rw [flip_rd a l room j hj]
      unfold vsub vadd
      rw [vcut_id (n := rd a j) (by omega) (by omega), vcut_id (n := rd l j) (by omega) (by omega), vcut_id (n := room) (by omega) (by omega), vcut_id (n := rd a j + rd l j) (by omega) (by omega), vcut_id (n := rd a j + rd l j) (by omega) (by omega), vcut_id (by omega) (by omega)]
    rw [row_eq _ a (by rw [flip_len]; exact ha1.symm) (by rw [flip_len]; omega) (fun j hj => by
      rw [flip_len] at hj
      have h1 := bd j hj
      have h2 := h.each j hj
      rw [flip_rd _ l room j hj, hf j hj]
      unfold vsub vadd
      rw [vcut_id (n := room - (rd a j + rd l j)) (by omega) (by omega), vcut_id (n := rd l j) (by omega) (by omega), vcut_id (n := room) (by omega) (by omega), vcut_id (n := room - (rd a j + rd l j) + rd l j) (by omega) (by omega), vcut_id (n := room - (rd a j + rd l j) + rd l j) (by omega) (by omega), vcut_id (by omega) (by omega)]
      omega) k (by rw [flip_len]; omega)]
    simp only [Option.bind_some, if_true]
    exact flips_l1 l a _ room hl ha1 (flip_len _ _ _) hr hr2 (fun j hj => ⟨(h.each j hj).1, (h.each j hj).2, (bd j hj).1, (bd j hj).2, hf j hj⟩) l.length 0 k (by omega) (by omega)
  | succ d ih =>
    intro i k hd he hk
    obtain ⟨k, rfl⟩ : ∃ m, k = m + 1 := ⟨k - 1, by omega⟩
    simp only [valancelaw09_JustifyFlips.l0]
    rw [if_pos (by omega), if_pos (by omega)]
    refine ite_ (fun _ => rfl) (fun h1 => ite_ (fun _ => rfl) (fun h2 => ?_))
    rw [wrap_id (by omega) (by omega)]
    exact ih (i + 1) k (by omega) (fun j hj => by
      by_cases e : j = i
      · subst e; omega
      · exact he j (by omega)) (by omega)
theorem JustifyFlips : valancelaw09_JustifyFlips.Pure := by
  intro kind l room gap _ _ _ _ _ _
  refine ⟨1000, ?_⟩
  unfold valancelaw09_JustifyFlips.f
  rw [works_eq 1000 (by omega)]
  simp only [Option.bind_some, if_true]
  have yes : valancelaw09_JustifyFlips.j0 1000 kind l room gap true true = some true := by simp only [valancelaw09_JustifyFlips.j0]; rfl
  refine ite_ (fun _ => yes) (fun h1 => ite_ (fun _ => yes) (fun h2 => ite_ (fun _ => yes) (fun h3 => ite_ (fun _ => yes) (fun h4 => ?_))))
  by_cases h6 : gap > 1048576
  · rw [decide_eq_true h6]; exact yes
  rw [decide_eq_false h6]
  simp only [valancelaw09_JustifyFlips.j0, Bool.false_eq_true, if_false]
  exact flips_l0 l gap (by omega) (by omega) (by omega) kind room (by omega) (by omega) l.length 0 999 (by omega) (fun j hj => by omega) (by omega)
end Go.Proofs.Ytnmcefpnpfaklad.Pure
