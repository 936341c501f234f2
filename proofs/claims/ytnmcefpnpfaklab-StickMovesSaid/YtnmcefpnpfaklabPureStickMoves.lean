/- The law StickMoves holds of the printed functions. -/
import Derived.Test.YtnmcefpnpfaklabPlainStick
import Derived.Test.YtnmcefpnpfaklabVx0
import Derived.Test.YtnmcefpnpfaklabVx7
import Derived.Test.YtnmcefpnpfaklabVx21
namespace Go.Proofs.Ytnmcefpnpfaklab.Pure
open Go.RowKit Go.Proofs.Ytnmcefpnpfaklab.V Go.Proofs.Ytnmcefpnpfaklab.Plain Go.Proofs.YtnmcefpnpfaklabW.PrintWords Go.Proofs.YtnmcefpnpfaklabW.PrintLast Go.Proofs.YtnmcefpnpfaklabW.PrintMore
theorem lsh_moves (bl bh il ih pl ph bn en d : Int) (bo eo : Bool) : lsh bl bh il ih pl ph bo bn eo en = lsh (bl + d) (bh + d) (il + d) (ih + d) (pl + d) (ph + d) bo bn eo en := by
  unfold lsh
  rw [show pl + d + bn - (bl + d) = pl + bn - bl by omega, show ih + d - (bh + d) = ih - bh by omega, show bh + d - (ph + d - en) = bh - (ph - en) by omega, show bl + d - (pl + d + bn) = bl - (pl + bn) by omega, show bl + d - (il + d) = bl - il by omega]
theorem StickMoves : valancelaw10_StickMoves.Pure := by
  intro bl bh il ih pl ph bo bn eo en d _ _ _ _ _ _ _ _ _
  refine ⟨3, ?_⟩
  unfold valancelaw10_StickMoves.f
  simp only [show valancelaw10_works.f = some true from rfl, Option.bind_some, if_true, small_eq]
  have yes : valancelaw10_StickMoves.j0 3 d true true bl bh il ih pl ph bo bn eo en = some true := by simp only [valancelaw10_StickMoves.j0]; rfl
  refine site_ (fun s1 => ?_) (fun _ => yes)
  refine site_ (fun s2 => ?_) (fun _ => yes)
  refine site_ (fun s3 => ?_) (fun _ => yes)
  replace s1 := of_decide_eq_true s1
  replace s2 := of_decide_eq_true s2
  replace s3 := of_decide_eq_true s3
  refine site_ (fun _ => yes) (fun g1 => site_ (fun _ => yes) (fun g2 => site_ (fun _ => yes) (fun g3 => site_ (fun _ => yes) (fun g4 => site_ (fun _ => yes) (fun g5 => ?_)))))
  by_cases g6 : d > 1073741824
  · rw [decide_eq_true g6]; exact yes
  rw [decide_eq_false g6]
  simp only [valancelaw10_StickMoves.j0, shift_eq 2 (by omega), Option.bind_some, Bool.false_eq_true, if_false, if_true]
  rw [swrap_id (x := bl + d) (by omega) (by omega), swrap_id (x := bh + d) (by omega) (by omega), swrap_id (x := il + d) (by omega) (by omega), swrap_id (x := ih + d) (by omega) (by omega), swrap_id (x := pl + d) (by omega) (by omega), swrap_id (x := ph + d) (by omega) (by omega)]
  rw [lsh_eq bo eo (by omega) (by omega) (by omega) (by omega) (by omega) (by omega) (by omega) (by omega) (by omega) (by omega) (by omega) (by omega) (by omega) (by omega) (by omega) (by omega), lsh_eq bo eo (by omega) (by omega) (by omega) (by omega) (by omega) (by omega) (by omega) (by omega) (by omega) (by omega) (by omega) (by omega) (by omega) (by omega) (by omega) (by omega),
    if_pos (lsh_moves bl bh il ih pl ph bn en d bo eo)]
  unfold vshift
  simp
end Go.Proofs.Ytnmcefpnpfaklab.Pure
