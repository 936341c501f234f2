/- The law AnchorAgain holds of the printed functions, for all whole numbers of 64 bits. -/
import Derived.Test.YtnmcefpnpfaklabPlainWorks
import Derived.Test.YtnmcefpnpfaklabVx33
namespace Go.Proofs.Ytnmcefpnpfaklab.Pure
open Go.RowKit Go.Proofs.Ytnmcefpnpfaklab.V Go.Proofs.Ytnmcefpnpfaklab.Plain Go.Proofs.YtnmcefpnpfaklabW.PrintWords Go.Proofs.YtnmcefpnpfaklabW.PrintLast Go.Proofs.YtnmcefpnpfaklabW.PrintMore

theorem keep_eq (o w n m : Int) : anchor_Keep.f o w n m = some (if o = 0 then 0 else vclamp (vadd o (vsub n w)) 0 (mx m 0)) := by
  unfold anchor_Keep.f
  by_cases h : o = 0
  · simp [h]
  · simp [h, fix_Sub_eq, fix_Add_eq, fix_Clamp_eq]
theorem keep_in {o w n m : Int} (ho : 0 ≤ o) (ho2 : o ≤ 1073741824) (hw : -1073741824 ≤ w) (hw2 : w ≤ 1073741824) (hn : -1073741824 ≤ n) (hn2 : n ≤ 1073741824) (hm : 0 ≤ m) (hm2 : m ≤ 1073741824) :
    anchor_Keep.f o w n m = some (if o = 0 then 0 else if o + n - w < 0 then 0 else if o + n - w ≤ m then o + n - w else m) := by
  rw [keep_eq]
  by_cases h : o = 0
  · simp [h]
  rw [if_neg h, if_neg h]
  congr 1
  unfold vclamp vadd vsub
  rw [vcut_id (n := n) (by omega) (by omega), vcut_id (n := w) (by omega) (by omega), vcut_id (n := n - w) (by omega) (by omega), vcut_id (n := o) (by omega) (by omega), vcut_id (n := n - w) (by omega) (by omega), vcut_id (n := o + (n - w)) (by omega) (by omega), vcut_id (n := o + (n - w)) (by omega) (by omega),
    show mx m 0 = m by unfold mx; split <;> omega, vcut_id (n := m) (by omega) (by omega), show vcut 0 = 0 by decide]
  unfold mx mn; (repeat' split) <;> omega
theorem keep_same {o w m : Int} (ho : 0 ≤ o) (ho2 : o ≤ m) (hw : -1073741824 ≤ w) (hw2 : w ≤ 1073741824) (hm2 : m ≤ 1073741824) : anchor_Keep.f o w w m = some o := by
  rw [keep_in ho (by omega) hw hw2 hw hw2 (by omega) hm2]
  congr 1; (repeat' split) <;> omega
theorem again_j0 (k : Nat) (hk : 1 ≤ k) (o w n m : Int) (ho : 1 ≤ o) (ho2 : o ≤ m) (hw : -1073741824 ≤ w) (hw2 : w ≤ 1073741824) (hn : -1073741824 ≤ n) (hn2 : n ≤ 1073741824) (hm2 : m ≤ 1073741824) :
    valancelaw12_AnchorAgain.j0 k o w n m true false = some true := by
  obtain ⟨k, rfl⟩ : ∃ m, k = m + 1 := ⟨k - 1, by omega⟩
  simp only [valancelaw12_AnchorAgain.j0, Bool.false_eq_true, if_false, if_true]
  rw [keep_in (by omega) (by omega) hw hw2 hn hn2 (by omega) hm2, if_neg (by omega)]
  simp only [Option.bind_some]
  have hx : 0 ≤ (if o + n - w < 0 then 0 else if o + n - w ≤ m then o + n - w else m) ∧ (if o + n - w < 0 then 0 else if o + n - w ≤ m then o + n - w else m) ≤ m := by (repeat' split) <;> omega
  rw [keep_same (by omega) ho2 hw hw2 hm2, keep_same hx.1 hx.2 hn hn2 hm2, w64 (x := o + n) (by omega) (by omega), w64 (x := o + n - w) (by omega) (by omega)]
  simp only [Option.bind_some, if_true]
  by_cases h1 : o + n - w ≤ 0
  · rw [if_pos h1]
  · rw [if_neg h1]
    by_cases h2 : o + n - w > m
    · rw [if_pos h2]
    · rw [if_neg h2, if_neg (by omega), if_pos (by omega), keep_in (by omega) (by omega) hn hn2 hw hw2 (by omega) hm2]
      simp only [Option.bind_some]
      rw [if_neg (by omega), if_neg (by omega), if_pos (by omega)]
      simp <;> omega
theorem AnchorAgain : valancelaw12_AnchorAgain.Pure := by
  intro o w n m _ _ _ _
  refine ⟨60, ?_⟩
  unfold valancelaw12_AnchorAgain.f
  rw [works_eq 60 (by omega)]
  simp only [Option.bind_some, if_true]
  have yes : valancelaw12_AnchorAgain.j0 60 o w n m true true = some true := by simp only [valancelaw12_AnchorAgain.j0]; rfl
  rw [yes]
  by_cases h1 : o < 1
  · rw [if_pos h1]
  by_cases h2 : o > m
  · rw [if_neg h1, if_pos h2]
  by_cases h3 : m > 1073741824
  · rw [if_neg h1, if_neg h2, if_pos h3]
  by_cases h4 : w < -1073741824
  · rw [if_neg h1, if_neg h2, if_neg h3, if_pos h4]
  by_cases h5 : w > 1073741824
  · rw [if_neg h1, if_neg h2, if_neg h3, if_neg h4, if_pos h5]
  by_cases h6 : n < -1073741824
  · rw [if_neg h1, if_neg h2, if_neg h3, if_neg h4, if_neg h5, if_pos h6]
  rw [if_neg h1, if_neg h2, if_neg h3, if_neg h4, if_neg h5, if_neg h6]
  by_cases h8 : n > 1073741824
  · rw [decide_eq_true h8]; exact yes
  rw [decide_eq_false h8]
  exact again_j0 60 (by omega) o w n m (by omega) (by omega) (by omega) (by omega) (by omega) (by omega) (by omega)

end Go.Proofs.Ytnmcefpnpfaklab.Pure
