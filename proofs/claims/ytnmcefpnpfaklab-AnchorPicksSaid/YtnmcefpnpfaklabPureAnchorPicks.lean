/- The law AnchorPicks holds of the printed functions, for all rows of nodes and all whole numbers of 64 bits. -/
import Derived.Test.YtnmcefpnpfaklabPlainFirst
import Derived.Test.YtnmcefpnpfaklabVx8
import Derived.Test.YtnmcefpnpfaklabVx29
import Derived.Test.YtnmcefpnpfaklabVx30
namespace Go.Proofs.Ytnmcefpnpfaklab.Pure
open Go.RowKit Go.Proofs.Ytnmcefpnpfaklab.V Go.Proofs.Ytnmcefpnpfaklab.Plain Go.Proofs.YtnmcefpnpfaklabW.PrintWords Go.Proofs.YtnmcefpnpfaklabW.PrintLast Go.Proofs.YtnmcefpnpfaklabW.PrintMore

theorem keep_eq (o w n m : Int) : anchor_Keep.f o w n m = some (if o = 0 then 0 else vclamp (vadd o (vsub n w)) 0 (mx m 0)) := by
  unfold anchor_Keep.f
  by_cases h : o = 0
  · simp [h]
  · simp [h, fix_Sub_eq, fix_Add_eq, fix_Clamp_eq]
theorem ref_keep_eq (k : Nat) (hk : 1 ≤ k) (o w n m : Int) : valanceref12_Keep.f k o w n m = some (if o = 0 then 0 else vclamp (vadd o (vsub n w)) 0 (mx m 0)) := by
  unfold valanceref12_Keep.f
  by_cases h : o = 0
  · simp [h]
  · simp [h, ref_Sub_eq, ref_Add_eq, ref_Clamp_eq k hk]
theorem picks_j0 (l : List S56) (hn : l.length ≤ 60) (p q o w n m : Int) (b : Bool) (r : Int) (hb : b = true ↔ VL (Uf l) l.length) (h1 : VL (Uf l) l.length → Pk (Uf l) l.length (visf l p q) (whf l p q) (-1) r) (h2 : ¬ VL (Uf l) l.length → r = -1) :
    valancelaw12_AnchorPicks.j0 10000 l o w n m true b r false p q = some true := by
  simp only [valancelaw12_AnchorPicks.j0, Bool.false_eq_true, if_false, if_true]
  obtain ⟨b', hb1, hb2⟩ := valid_tells l (by omega) 9999 (by omega)
  obtain rfl : b' = b := by
    rw [Bool.eq_iff_iff, hb, hb2]
  obtain ⟨r', hr, g1, g2⟩ := pick_tells l (by omega) p q 9999 (by omega)
  obtain rfl : r' = r := by
    by_cases hv : VL (Uf l) l.length
    · exact (g1 hv).uniq (h1 hv)
    · rw [g2 hv, h2 hv]
  rw [hb1]
  simp only [Option.bind_some]
  rw [if_pos (by simp), hr]
  simp only [Option.bind_some, if_true]
  rw [keep_eq, ref_keep_eq 9999 (by omega)]
  simp
theorem AnchorPicks : valancelaw12_AnchorPicks.Pure := by
  intro l p q o w n m _ _ _ _ _ _ _ _ _
  refine ⟨10000, ?_⟩
  unfold valancelaw12_AnchorPicks.f
  rw [works_eq 10000 (by omega)]
  simp only [Option.bind_some, if_true]
  by_cases hl : (l.length : Int) > 60
  · rw [if_pos hl]
  rw [if_neg hl, of_eq l (by omega) 10000 (by omega)]
  simp only [Option.bind_some]
  have e1 : l.length * (l.length + 5) ≤ 60 * 65 := Nat.mul_le_mul (by omega) (by omega)
  have e2 : (l.length + 3) * (2 * l.length + 5) ≤ 63 * 125 := Nat.mul_le_mul (by omega) (by omega)
  obtain ⟨b, hb1, hb2⟩ := ref_valid_tells l (by omega) 10000 (by omega)
  obtain ⟨r, hr, h1, h2⟩ := ref_pick_tells l (by omega) p q 10000 (by omega)
  rw [hb1, hr]
  simp only [Option.bind_some]
  by_cases h0 : (l.length : Int) > 0
  · rw [if_pos h0, if_pos (by omega), sight_eq, ref_sight_eq]
    simp only [Option.bind_some, bne_self_eq_false]
    exact picks_j0 l (by omega) p q o w n m b r hb2 h1 h2
  · rw [if_neg h0]
    exact picks_j0 l (by omega) p q o w n m b r hb2 h1 h2

end Go.Proofs.Ytnmcefpnpfaklab.Pure
