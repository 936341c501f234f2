/- The law SnapBest holds of the printed functions, for all areas and whole numbers of 64 bits. -/
import Derived.Test.YtnmcefpnpfaklacPlainSnap
import Derived.Test.YtnmcefpnpfaklacVx0
import Derived.Test.YtnmcefpnpfaklacVx7
import Derived.Test.YtnmcefpnpfaklacVx24
namespace Go.Proofs.Ytnmcefpnpfaklac.Pure
open Go.RowKit Go.Proofs.Ytnmcefpnpfaklac.V Go.Proofs.Ytnmcefpnpfaklac.Plain Go.Proofs.YtnmcefpnpfaklacW.PrintWords Go.Proofs.YtnmcefpnpfaklacW.PrintLast Go.Proofs.YtnmcefpnpfaklacW.PrintMore
theorem best_l1 (l : List Int) (want : Int) (hl : l.length ≤ 300) (at_ : Int) (hb : Bst l want l.length at_) (hw : -1073741824 ≤ want) (hw2 : want ≤ 1073741824) (hs : ∀ j : Nat, j < l.length → -1073741824 ≤ rd l j ∧ rd l j ≤ 1073741824) :
    ∀ (d i k : Nat), i + d = l.length → d < k → valancelaw11_SnapBest.l1 k l want true at_ i = some true := by
  intro d
  induction d with
  | zero =>
    intro i k hd hk
    obtain ⟨k, rfl⟩ : ∃ m, k = m + 1 := ⟨k - 1, by omega⟩
    simp only [valancelaw11_SnapBest.l1]
    rw [if_neg (by omega)]
  | succ d ih =>
    intro i k hd hk
    obtain ⟨k, rfl⟩ : ∃ m, k = m + 1 := ⟨k - 1, by omega⟩
    have next : valancelaw11_SnapBest.l1 k l want true at_ (wrap64 ((i : Int) + 1)) = some true := by
      rw [wrap_id (by omega) (by omega)]
      exact ih (i + 1) k (by omega) (by omega)
    have h0 := hb.lo (by omega)
    have hhi := hb.hi
    obtain ⟨q, rfl⟩ : ∃ q : Nat, at_ = q := ⟨at_.toNat, by omega⟩
    have b1 := hs i (by omega)
    have b2 := hs q (by omega)
    have least := hb.least i (by omega)
    simp only [valancelaw11_SnapBest.l1]
    rw [if_pos (by omega), if_pos (by omega), if_pos (by omega), if_pos hhi, next, wrap_id (x := rd l i - want) (by omega) (by omega), wrap_id (x := want - rd l i) (by omega) (by omega), wrap_id (x := rd l q - want) (by omega) (by omega), wrap_id (x := want - rd l q) (by omega) (by omega),
      ← vfar_in (a := rd l i) (b := want) (by omega) (by omega) (by omega) (by omega), ← vfar_in (a := rd l q) (b := want) (by omega) (by omega) (by omega) (by omega), if_neg (by omega)]
    by_cases he : vfar (rd l i) want = vfar (rd l q) want
    · rw [if_pos he]
      by_cases hlt : (i : Int) < q
      · have := hb.first i hlt; omega
      · rw [if_neg hlt]
    · rw [if_neg he]
theorem best_l0 (l : List Int) (want : Int) (hl : l.length ≤ 300) (at_ : Int) (hb : Bst l want l.length at_) (hw : -1073741824 ≤ want) (hw2 : want ≤ 1073741824) :
    ∀ (d i k : Nat), i + d = l.length → (∀ j : Nat, j < i → -1073741824 ≤ rd l j ∧ rd l j ≤ 1073741824) → 400 + d < k → valancelaw11_SnapBest.l0 k l want true at_ i = some true := by
  intro d
  induction d with
  | zero =>
    intro i k hd hs hk
    obtain ⟨k, rfl⟩ : ∃ m, k = m + 1 := ⟨k - 1, by omega⟩
    simp only [valancelaw11_SnapBest.l0]
    rw [if_neg (by omega)]
    exact best_l1 l want hl at_ hb hw hw2 (fun j hj => hs j (by omega)) l.length 0 k (by omega) (by omega)
  | succ d ih =>
    intro i k hd hs hk
    obtain ⟨k, rfl⟩ : ∃ m, k = m + 1 := ⟨k - 1, by omega⟩
    simp only [valancelaw11_SnapBest.l0]
    rw [if_pos (by omega), if_pos (by omega)]
    refine ite_ (fun _ => rfl) (fun h1 => ite_ (fun _ => rfl) (fun h2 => ?_))
    rw [wrap_id (by omega) (by omega)]
    exact ih (i + 1) k (by omega) (fun j hj => by
      by_cases e : j = i
      · subst e; omega
      · exact hs j (by omega)) (by omega)
theorem SnapBest : valancelaw11_SnapBest.Pure := by
  intro l want _ _ _ _
  refine ⟨1000, ?_⟩
  unfold valancelaw11_SnapBest.f
  rw [works_eq]
  simp only [Option.bind_some, if_true]
  refine ite_ (fun _ => rfl) (fun h1 => ?_)
  rw [best_eq, ref_best_eq l want (by omega) 1000 (by omega)]
  simp only [Option.bind_some, if_true]
  have hb := best_bst l want
  generalize vbst l want l.length 0 (-1) = at_ at *
  have hhi := hb.hi
  have hlo : -1 ≤ at_ := by
    by_cases e : l.length = 0
    · rw [hb.none e]; omega
    · have := hb.lo (by omega); omega
  have fin : valancelaw11_SnapBest.j0 1000 l want true at_ false = some true := by
    simp only [valancelaw11_SnapBest.j0, valancelaw11_SnapBest.j1, Bool.false_eq_true, if_false]
    refine ite_ (fun _ => by rw [if_pos trivial]) (fun h2 => ?_)
    by_cases h3 : want > 1073741824
    · rw [decide_eq_true h3, if_pos rfl]
    rw [decide_eq_false h3, if_neg (by simp)]
    exact best_l0 l want (by omega) at_ hb (by omega) (by omega) l.length 0 998 (by omega) (fun j hj => by omega) (by omega)
  rw [if_neg (by omega), if_neg (by omega)]
  refine ite_ (fun h2 => ?_) (fun _ => fin)
  have : ¬ (l.length : Int) > 0 := by
    intro h3
    have := hb.lo (by omega)
    omega
  rw [decide_eq_false this]
  exact fin
end Go.Proofs.Ytnmcefpnpfaklac.Pure
