/- The law PointSums holds of the printed functions. -/
import Derived.Test.YtnmcefpnpfaklaaVx0
import Derived.Test.YtnmcefpnpfaklaaVx2
import Derived.Test.YtnmcefpnpfaklaaVx26
import Derived.Test.YtnmcefpnpfaklaaVx27
import Derived.Test.YtnmcefpnpfaklaaVx28
import Derived.Test.YtnmcefpnpfaklaaVx29
namespace Go.Proofs.Ytnmcefpnpfaklaa.Pure
open Go.RowKit Go.Proofs.Ytnmcefpnpfaklaa.V Go.Proofs.Ytnmcefpnpfaklaa.Flt Go.Proofs.YtnmcefpnpfaklaaW.PrintWords Go.Proofs.YtnmcefpnpfaklaaW.PrintLast Go.Proofs.YtnmcefpnpfaklaaW.PrintMore
theorem fcvPointSums (n : Int) : fcut n = vcut n := rfl
theorem sums_j0 (k : Nat) (a b c d : Int) (x12 : Bool) (h : x12 = true → (-1073741824 ≤ a ∧ a ≤ 1073741824) ∧ (-1073741824 ≤ b ∧ b ≤ 1073741824) ∧ (-1073741824 ≤ c ∧ c ≤ 1073741824) ∧ (-1073741824 ≤ d ∧ d ≤ 1073741824)) :
    valancelaw02_PointSums.j0 (k + 1) true (a, b) (c, d) x12 = some true := by
  have e1 : veq2 (vcut a + vcut c, vcut b + vcut d) (vcut c + vcut a, vcut d + vcut b) = true := by
    rw [Int.add_comm (vcut c), Int.add_comm (vcut d)]; unfold veq2; simp
  have e2 : veq2 (vcut a - vcut a, vcut b - vcut b) vp0 = true := by
    rw [Int.sub_self, Int.sub_self]; decide
  have e3 : veq2 (vcut a + vcut vp0.1, vcut b + vcut vp0.2) (a, b) = true := by
    rw [show vcut vp0.1 = 0 by decide, show vcut vp0.2 = 0 by decide, Int.add_zero, Int.add_zero]
    unfold veq2; simp only [fcvPointSums, vcut_cut, beq_self_eq_true, Bool.and_self]
  simp only [valancelaw02_PointSums.j0, point_Add.f, point_Sub.f, Option.bind_some, if_true, e1, e2, e3]
  cases x12 with
  | false => rfl
  | true =>
    obtain ⟨h1, h2, h3, h4⟩ := h rfl
    have i1 : vcut a = a := vcut_id (by omega) (by omega)
    have i2 : vcut b = b := vcut_id (by omega) (by omega)
    have i3 : vcut c = c := vcut_id (by omega) (by omega)
    have i4 : vcut d = d := vcut_id (by omega) (by omega)
    have i5 : vcut (a + c) = a + c := vcut_id (by omega) (by omega)
    have i6 : vcut (b + d) = b + d := vcut_id (by omega) (by omega)
    have s : vsm2 (a, b) (c, d) = true := by
      unfold vsm2; rw [decide_eq_true_eq]; simp only [fcvPointSums, i1, i2, i3, i4]; omega
    rw [if_pos rfl]
    have e4 : veq2 (vcut (vcut a + vcut c) - vcut c, vcut (vcut b + vcut d) - vcut d) (a, b) = true := by
      rw [i1, i2, i3, i4, i5, i6, show a + c - c = a by omega, show b + d - d = b by omega]; unfold veq2; simp
    rw [if_pos e4, if_pos s]
    unfold veq2 vsum2; simp only [fcvPointSums, beq_self_eq_true, Bool.and_self]
theorem PointSums : valancelaw02_PointSums.Pure := by
  intro a b c d _ _ _ _
  refine ⟨1, ?_⟩
  unfold valancelaw02_PointSums.f
  simp only [show valancelaw02_works.f = some true from rfl, point_Of.f, Option.bind_some, if_true]
  (repeat' split) <;> refine sums_j0 0 a b c d _ (fun h => ?_) <;> first | exact absurd h (by decide) | (have h := of_decide_eq_true h; omega)
end Go.Proofs.Ytnmcefpnpfaklaa.Pure
