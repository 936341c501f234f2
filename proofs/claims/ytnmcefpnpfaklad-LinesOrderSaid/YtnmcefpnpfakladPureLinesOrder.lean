/- The law LinesOrder holds of the printed functions, for all sizes and whole numbers of 64 bits. -/
import Derived.Test.YtnmcefpnpfakladPlainOrd
import Derived.Test.YtnmcefpnpfakladVx0
import Derived.Test.YtnmcefpnpfakladVx2
import Derived.Test.YtnmcefpnpfakladVx35
import Derived.Test.YtnmcefpnpfakladVx42
namespace Go.Proofs.Ytnmcefpnpfaklad.Pure
open Go.RowKit Go.Proofs.Ytnmcefpnpfaklad.V Go.Proofs.Ytnmcefpnpfaklad.Plain Go.Proofs.YtnmcefpnpfakladW.PrintWords Go.Proofs.YtnmcefpnpfakladW.PrintLast Go.Proofs.YtnmcefpnpfakladW.PrintMore
theorem lorder_l0 (l : List Int) (hl : l.length ≤ 200) : ∀ (d i k : Nat) (s : List Bool), d = l.length - i → i ≤ l.length → s.length = l.length → (∀ q : Nat, rdOf false s (q : Int) = true → ∃ j, j < i ∧ vat l j = q) → 2 * d + 1 ≤ k →
    valancelaw07_LinesOrder.l0 k l true (vorder l) s (i : Int) = some true := by
  intro d
  have ho := vorder_len l
  induction d with
  | zero =>
    intro i k s hd hi hs he hk
    obtain ⟨k, rfl⟩ : ∃ m, k = m + 1 := ⟨k - 1, by omega⟩
    obtain rfl : i = l.length := by omega
    simp only [valancelaw07_LinesOrder.l0]
    rw [if_neg (by omega)]
  | succ d ih =>
    intro i k s hd hi hs he hk
    obtain ⟨k, rfl⟩ : ∃ m, k = m + 2 := ⟨k - 2, by omega⟩
    have hv := vat_lt l i (by omega)
    have hnot : rdOf false s ((vat l i : Nat) : Int) = false := by
      cases e : rdOf false s ((vat l i : Nat) : Int) with
      | false => rfl
      | true =>
        obtain ⟨j, hj, e2⟩ := he _ e
        exact absurd e2 (ahead_ne (vat_ahead l j i hj (by omega)))
    have hi1 := ih (i + 1) k (s.set (vat l i) true) (by omega) (by omega) (by rw [List.length_set]; exact hs) (fun q hq => by
      rcases seen_set s _ q hq with h | h
      · exact ⟨i, by omega, h.symm⟩
      · obtain ⟨j, hj, e⟩ := he q h
        exact ⟨j, by omega, e⟩) (by omega)
    simp only [valancelaw07_LinesOrder.l0]
    rw [if_pos (by omega), if_pos (by omega), rd_vorder, if_neg (by omega), if_neg (by omega), if_pos (by omega), if_pos (by omega), hnot]
    simp only [valancelaw07_LinesOrder.j1, Bool.false_eq_true, if_false]
    rw [if_pos (by omega), if_pos (by omega), rd_vorder, if_pos (by omega), if_pos (by omega)]
    simp only [Option.bind_some, Int.toNat_natCast]
    rw [w64 (x := (i : Int) + 1) (by omega) (by omega)]
    by_cases c : 0 < i
    · obtain ⟨j, rfl⟩ : ∃ j, i = j + 1 := ⟨i - 1, by omega⟩
      have hv2 := vat_lt l j (by omega)
      have ha := vat_ahead l j (j + 1) (by omega) (by omega)
      rw [if_pos (by omega), w64 (x := ((j + 1 : Nat) : Int) - 1) (by omega) (by omega), show ((j + 1 : Nat) : Int) - 1 = (j : Int) by omega, rd_vorder, if_pos (by omega), if_pos (by omega), if_pos (by omega), if_pos (by omega), if_pos (by omega)]
      unfold Ahead at ha
      rw [if_neg (by omega)]
      refine ite_ (fun h => ?_) (fun _ => hi1)
      rw [if_neg (by omega)]
      exact hi1
    · rw [if_neg (by omega)]
      exact hi1
theorem LinesOrder : valancelaw07_LinesOrder.Pure := by
  intro l _ _ _
  refine ⟨1000, ?_⟩
  unfold valancelaw07_LinesOrder.f
  rw [lworks]
  simp only [Option.bind_some, if_true]
  refine ite_ (fun _ => rfl) (fun h1 => ?_)
  rw [order_f l (by omega)]
  simp only [Option.bind_some]
  rw [if_pos (by rw [vorder_len]), if_pos (by omega), if_pos (by omega), Int.toNat_natCast]
  refine lorder_l0 l (by omega) l.length 0 1000 _ (by omega) (by omega) (List.length_replicate) (fun q hq => ?_) (by omega)
  unfold rdOf at hq
  rw [Int.toNat_natCast, List.getD_eq_getElem?_getD, List.getElem?_replicate] at hq
  split at hq <;> cases hq
end Go.Proofs.Ytnmcefpnpfaklad.Pure
