/- The law SnapEdges holds of the printed functions, for all areas and whole numbers of 64 bits. -/
import Derived.Test.YtnmcefpnpfaklacPlainSnap
import Derived.Test.YtnmcefpnpfaklacVx0
import Derived.Test.YtnmcefpnpfaklacVx1
import Derived.Test.YtnmcefpnpfaklacVx4
import Derived.Test.YtnmcefpnpfaklacVx5
import Derived.Test.YtnmcefpnpfaklacVx27
namespace Go.Proofs.Ytnmcefpnpfaklac.Pure
open Go.RowKit Go.Proofs.Ytnmcefpnpfaklac.V Go.Proofs.Ytnmcefpnpfaklac.Plain Go.Proofs.YtnmcefpnpfaklacW.PrintWords Go.Proofs.YtnmcefpnpfaklacW.PrintLast Go.Proofs.YtnmcefpnpfaklacW.PrintMore
theorem at_eq (lo hi e p : Int) : snap_At.f lo hi e p = some (vatn lo hi e p, vatok e) := snap_At_eq lo hi e p
theorem SnapEdges : valancelaw11_SnapEdges.Pure := by
  intro lo hi p _ _ _
  refine ⟨2, ?_⟩
  unfold valancelaw11_SnapEdges.f
  rw [works_eq]
  simp only [Option.bind_some, if_true]
  have yes : valancelaw11_SnapEdges.j0 2 p true true lo hi = some true := by simp only [valancelaw11_SnapEdges.j0]; rfl
  refine ite_ (fun _ => yes) (fun h1 => ite_ (fun _ => yes) (fun h2 => ite_ (fun _ => yes) (fun h3 => ite_ (fun _ => yes) (fun h4 => ?_))))
  by_cases h5 : p > 1073741824
  · rw [decide_eq_true h5]; exact yes
  rw [decide_eq_false h5]
  simp only [valancelaw11_SnapEdges.j0, at_eq, Option.bind_some, Bool.false_eq_true, if_false, if_true]
  have e1 : vatn lo hi 1 p = lo := by unfold vatn; rw [if_pos rfl, vcut_id (by omega) (by omega)]
  have hp : mx p 0 = p := by unfold mx; split <;> omega
  have e3 : vatn lo hi 3 p = hi - p := by unfold vatn vsub; rw [if_neg (by omega), if_neg (by omega), if_pos rfl, hp, vcut_id (n := hi) (by omega) (by omega), vcut_id (n := p) (by omega) (by omega), vcut_id (by omega) (by omega)]
  have e2 : vatn lo hi 2 p = (lo + hi - p) / 2 := by
    unfold vatn vdivd vsub vadd
    rw [if_neg (by omega), if_pos rfl, hp, if_neg (by omega), vcut_id (n := lo) (by omega) (by omega), vcut_id (n := hi) (by omega) (by omega), vcut_id (n := p) (by omega) (by omega), vcut_id (n := lo + hi) (by omega) (by omega), vcut_id (n := lo + hi) (by omega) (by omega), vcut_id (n := lo + hi - p) (by omega) (by omega), vcut_id (n := lo + hi - p) (by omega) (by omega), vcut_id (n := 2) (by omega) (by omega)]
  rw [e1, e2, e3, show vatok 1 = true from rfl, show vatok 2 = true from rfl, show vatok 3 = true from rfl, show vatok 0 = false from rfl]
  rw [if_pos rfl, if_pos rfl, if_pos rfl, if_neg (by simp), if_pos rfl, wrap_id (x := hi - p + p) (by omega) (by omega), if_pos (by omega), wrap_id (x := lo + hi) (by omega) (by omega), wrap_id (x := (lo + hi - p) / 2 + (lo + hi - p) / 2) (by omega) (by omega), wrap_id (x := (lo + hi - p) / 2 + (lo + hi - p) / 2 + p) (by omega) (by omega), wrap_id (by omega) (by omega), if_pos (by omega)]
  simp; omega
end Go.Proofs.Ytnmcefpnpfaklac.Pure
