/- The law StickMore holds of the printed functions. -/
import Derived.Test.YtnmcefpnpfaklabPlainStick
import Derived.Test.YtnmcefpnpfaklabVx0
import Derived.Test.YtnmcefpnpfaklabVx7
import Derived.Test.YtnmcefpnpfaklabVx20
namespace Go.Proofs.Ytnmcefpnpfaklab.Pure
open Go.RowKit Go.Proofs.Ytnmcefpnpfaklab.V Go.Proofs.Ytnmcefpnpfaklab.Plain Go.Proofs.YtnmcefpnpfaklabW.PrintWords Go.Proofs.YtnmcefpnpfaklabW.PrintLast Go.Proofs.YtnmcefpnpfaklabW.PrintMore
theorem lsh_more (bl bh il ih pl ph bn more : Int) (bo : Bool) (h : 0 ≤ more) : 0 ≤ lsh bl bh il ih pl ph bo bn false 0 ∧ lsh bl bh il ih pl ph bo bn false 0 ≤ lsh bl bh il ih (pl + more) (ph + more) bo bn false 0 ∧ lsh bl bh il ih (pl + more) (ph + more) bo bn false 0 - lsh bl bh il ih pl ph bo bn false 0 ≤ more := by
  have A := lsh_cases bl bh il ih pl ph bn 0 bo false _ rfl
  have B := lsh_cases bl bh il ih (pl + more) (ph + more) bn 0 bo false _ rfl
  cases bo <;> simp at A B <;> omega
theorem StickMore : valancelaw10_StickMore.Pure := by
  intro bl bh il ih pl ph bo bn more _ _ _ _ _ _ _ _
  refine ⟨3, ?_⟩
  unfold valancelaw10_StickMore.f
  simp only [show valancelaw10_works.f = some true from rfl, Option.bind_some, if_true, small_eq]
  have yes : valancelaw10_StickMore.j0 3 more true true bl bh il ih pl ph bo bn = some true := by simp only [valancelaw10_StickMore.j0]; rfl
  refine site_ (fun s1 => ?_) (fun _ => yes)
  refine site_ (fun s2 => ?_) (fun _ => yes)
  refine site_ (fun s3 => ?_) (fun _ => yes)
  replace s1 := of_decide_eq_true s1
  replace s2 := of_decide_eq_true s2
  replace s3 := of_decide_eq_true s3
  refine site_ (fun _ => yes) (fun g1 => site_ (fun _ => yes) (fun g2 => site_ (fun _ => yes) (fun g3 => ?_)))
  by_cases g4 : more > 1073741824
  · rw [decide_eq_true g4]; exact yes
  rw [decide_eq_false g4]
  simp only [valancelaw10_StickMore.j0, shift_eq 2 (by omega), Option.bind_some, Bool.false_eq_true, if_false, if_true]
  rw [swrap_id (x := pl + more) (by omega) (by omega), swrap_id (x := ph + more) (by omega) (by omega)]
  rw [lsh_eq bo false (by omega) (by omega) (by omega) (by omega) (by omega) (by omega) (by omega) (by omega) (by omega) (by omega) (by omega) (by omega) (by omega) (by omega) (by omega) (by omega), lsh_eq bo false (by omega) (by omega) (by omega) (by omega) (by omega) (by omega) (by omega) (by omega) (by omega) (by omega) (by omega) (by omega) (by omega) (by omega) (by omega) (by omega)]
  have hw := lsh_more bl bh il ih pl ph bn more bo (by omega)
  have hb := lsh_bd (bl := bl) (bh := bh) (il := il) (ih := ih) (pl := pl) (ph := ph) (bn := bn) (en := 0) bo false (by omega) (by omega) (by omega) (by omega) (by omega) (by omega) (by omega) (by omega)
  have hb2 := lsh_bd (bl := bl) (bh := bh) (il := il) (ih := ih) (pl := pl + more) (ph := ph + more) (bn := bn) (en := 0) bo false (by omega) (by omega) (by omega) (by omega) (by omega) (by omega) (by omega) (by omega)
  generalize lsh bl bh il ih pl ph bo bn false 0 = s at *
  generalize lsh bl bh il ih (pl + more) (ph + more) bo bn false 0 = t at *
  rw [if_pos hw.1, if_pos hw.2.1, swrap_id (by omega) (by omega), decide_eq_true hw.2.2]
end Go.Proofs.Ytnmcefpnpfaklab.Pure
