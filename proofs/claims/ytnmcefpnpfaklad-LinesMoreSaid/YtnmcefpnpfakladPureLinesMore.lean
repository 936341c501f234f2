/- The law LinesMore holds of the printed functions, for all sizes and whole numbers of 64 bits. -/
import Derived.Test.YtnmcefpnpfakladPlainLine
import Derived.Test.YtnmcefpnpfakladVx0
import Derived.Test.YtnmcefpnpfakladVx2
import Derived.Test.YtnmcefpnpfakladVx43
namespace Go.Proofs.Ytnmcefpnpfaklad.Pure
open Go.RowKit Go.Proofs.Ytnmcefpnpfaklad.V Go.Proofs.Ytnmcefpnpfaklad.Plain Go.Proofs.YtnmcefpnpfakladW.PrintWords Go.Proofs.YtnmcefpnpfakladW.PrintLast Go.Proofs.YtnmcefpnpfakladW.PrintMore
theorem rd_out (l : List Int) (k : Nat) (h : l.length ≤ k) : rd l (k : Int) = 0 := by
  unfold rd
  rw [Int.toNat_natCast, List.getD_eq_getElem?_getD, List.getElem?_eq_none h]; rfl
theorem lmore_l0 (l : List Int) (room more gap : Int) (hn : l.length ≤ 60) (h1 : 0 ≤ room) (h2 : room ≤ 1073741824) (h3 : 0 ≤ more) (h4 : more ≤ 1073741824) (h5 : 0 ≤ gap) : ∀ (d i k : Nat), d = l.length - i → i ≤ l.length → (∀ j : Nat, j < i → 0 ≤ rd l (j : Int)) → d + 1 ≤ k →
    valancelaw07_LinesMore.l0 k l room more gap true (i : Int) = some true := by
  intro d
  induction d with
  | zero =>
    intro i k hd hi he hk
    obtain ⟨k, rfl⟩ : ∃ m, k = m + 1 := ⟨k - 1, by omega⟩
    obtain rfl : i = l.length := by omega
    have hs : ∀ k : Nat, 0 ≤ rd l (k : Int) := fun k => by
      by_cases h : k < l.length
      · exact he k h
      · rw [rd_out l k (by omega)]; exact Int.le_refl _
    simp only [valancelaw07_LinesMore.l0]
    rw [if_neg (by omega), break_f _ _ _ _ (by omega), break_f _ _ _ _ (by omega), break_f _ _ _ _ (by omega), break_f _ _ _ _ (by omega)]
    simp only [Option.bind_some, if_true]
    rw [w64 (by omega) (by omega)]
    have e1 := vbreak_more l room gap (room + more) gap hn hs (by omega) (Int.le_refl _) h5
    have e2 := vbreak_more l room gap room 0 hn hs (Int.le_refl _) h5 (Int.le_refl _)
    have e3 := vbreak_whole l room gap hn
    rw [if_pos (by omega), if_pos (by omega), e3]
    congr 1
    rw [beq_iff_eq]
    unfold mn
    split <;> split <;> omega
  | succ d ih =>
    intro i k hd hi he hk
    obtain ⟨k, rfl⟩ : ∃ m, k = m + 1 := ⟨k - 1, by omega⟩
    simp only [valancelaw07_LinesMore.l0]
    rw [if_pos (by omega), if_pos (by omega)]
    refine ite_ (fun _ => rfl) (fun h1 => ite_ (fun _ => rfl) (fun h2 => ?_))
    rw [w64 (by omega) (by omega)]
    exact ih (i + 1) k (by omega) (by omega) (fun j hj => by
      by_cases e : j = i
      · subst e; omega
      · exact he j (by omega)) (by omega)
theorem LinesMore : valancelaw07_LinesMore.Pure := by
  intro l room more gap _ _ _ _ _ _
  refine ⟨1000, ?_⟩
  unfold valancelaw07_LinesMore.f
  rw [lworks]
  simp only [Option.bind_some, if_true]
  have yes : valancelaw07_LinesMore.j0 1000 l room more gap true true = some true := by simp only [valancelaw07_LinesMore.j0]; rfl
  refine ite_ (fun _ => yes) (fun h1 => ite_ (fun _ => yes) (fun h2 => ite_ (fun _ => yes) (fun h3 => ite_ (fun _ => yes) (fun h4 => ite_ (fun _ => yes) (fun h5 => ite_ (fun _ => yes) (fun h6 => ?_))))))
  by_cases h8 : gap > 1048576
  · rw [decide_eq_true h8]; exact yes
  rw [decide_eq_false h8]
  simp only [valancelaw07_LinesMore.j0, Bool.false_eq_true, if_false]
  exact lmore_l0 l room more gap (by omega) (by omega) (by omega) (by omega) (by omega) (by omega) l.length 0 999 (by omega) (by omega) (fun j hj => by omega) (by omega)
end Go.Proofs.Ytnmcefpnpfaklad.Pure
