/- The law SnapNear holds of the printed functions, for all areas and whole numbers of 64 bits. -/
import Derived.Test.YtnmcefpnpfaklacPlainSnap
import Derived.Test.YtnmcefpnpfaklacVx0
import Derived.Test.YtnmcefpnpfaklacVx5
import Derived.Test.YtnmcefpnpfaklacVx7
import Derived.Test.YtnmcefpnpfaklacVx28
namespace Go.Proofs.Ytnmcefpnpfaklac.Pure
open Go.RowKit Go.Proofs.Ytnmcefpnpfaklac.V Go.Proofs.Ytnmcefpnpfaklac.Plain Go.Proofs.YtnmcefpnpfaklacW.PrintWords Go.Proofs.YtnmcefpnpfaklacW.PrintLast Go.Proofs.YtnmcefpnpfaklacW.PrintMore
theorem SnapNear : valancelaw11_SnapNear.Pure := by
  intro l p m w _ _ _ _ _ _
  refine ⟨2, ?_⟩
  unfold valancelaw11_SnapNear.f
  rw [works_eq]
  simp only [Option.bind_some, if_true]
  have yes : valancelaw11_SnapNear.j0 2 l p m w true true = some true := by simp only [valancelaw11_SnapNear.j0]; rfl
  refine ite_ (fun _ => yes) (fun h1 => ite_ (fun _ => yes) (fun h2 => ite_ (fun _ => yes) (fun h3 => ite_ (fun _ => yes) (fun h4 => ?_))))
  by_cases h5 : w > m
  · rw [decide_eq_true h5]; exact yes
  rw [decide_eq_false h5]
  simp only [valancelaw11_SnapNear.j0, rest_eq _ l p m _ (show l.length ≤ 4398046511104 by omega), Option.bind_some, Bool.false_eq_true, if_false, if_true]
  have hm : mx m 0 = m := by unfold mx; split <;> omega
  have hl : liked m w = w := liked_id (by omega) (by omega) (by omega)
  have hb := best_bst (vstops l p m) w
  have hhi := hb.hi
  have r0 : vrest 0 l p m w = w := by unfold vrest; rw [hl]; dsimp only; (repeat' split) <;> first | rfl | omega
  rw [r0, if_pos rfl]
  by_cases h0 : vbst (vstops l p m) w (vstops l p m).length 0 (-1) < 0
  · have r1 : vrest 1 l p m w = w := by unfold vrest; rw [hl]; dsimp only; rw [if_pos h0]
    have r2 : vrest 2 l p m w = w := by unfold vrest; rw [hl]; dsimp only; rw [if_pos h0]
    rw [r1, r2, Int.sub_self, wrap_id (x := 0) (by omega) (by omega), show mx 0 0 = 0 by unfold mx; split <;> rfl, if_neg (by omega), if_neg (by omega)]; simp
  · obtain ⟨j, hj⟩ : ∃ j : Nat, vbst (vstops l p m) w (vstops l p m).length 0 (-1) = j := ⟨(vbst (vstops l p m) w (vstops l p m).length 0 (-1)).toNat, by omega⟩
    have hs := stops_in l p m j (by omega)
    have r1 : vrest 1 l p m w = rd (vstops l p m) j := by unfold vrest; rw [hl]; dsimp only; rw [if_neg h0, if_pos rfl, hj]
    have r2 : vrest 2 l p m w = if vfar (rd (vstops l p m) j) w ≤ 6400 then rd (vstops l p m) j else w := by unfold vrest; rw [hl]; dsimp only; rw [if_neg h0, if_neg (by omega), if_pos rfl, hj]
    rw [r1, r2, wrap_id (x := rd (vstops l p m) j - w) (by omega) (by omega), wrap_id (x := w - rd (vstops l p m) j) (by omega) (by omega), ← vfar_in (by omega) (by omega) (by omega) (by omega)]
    by_cases h6 : vfar (rd (vstops l p m) j) w > 6400
    · rw [if_pos h6, if_neg (show ¬ vfar (rd (vstops l p m) j) w ≤ 6400 by omega), if_pos rfl]
    · rw [if_neg h6, if_neg h6, if_pos (show vfar (rd (vstops l p m) j) w ≤ 6400 by omega)]; simp
end Go.Proofs.Ytnmcefpnpfaklac.Pure
