/- The law StickWithin holds of the printed functions. -/
import Derived.Test.YtnmcefpnpfaklabPlainStick
import Derived.Test.YtnmcefpnpfaklabVx0
import Derived.Test.YtnmcefpnpfaklabVx7
import Derived.Test.YtnmcefpnpfaklabVx18
namespace Go.Proofs.Ytnmcefpnpfaklab.Pure
open Go.RowKit Go.Proofs.Ytnmcefpnpfaklab.V Go.Proofs.Ytnmcefpnpfaklab.Plain Go.Proofs.YtnmcefpnpfaklabW.PrintWords Go.Proofs.YtnmcefpnpfaklabW.PrintLast Go.Proofs.YtnmcefpnpfaklabW.PrintMore
theorem lsh_within (bl bh il ih pl ph bn en : Int) (bo eo : Bool) : (il ≤ bl → bh ≤ ih → il ≤ bl + lsh bl bh il ih pl ph bo bn eo en ∧ bh + lsh bl bh il ih pl ph bo bn eo en ≤ ih) ∧ (0 < lsh bl bh il ih pl ph bo bn eo en → bo = true) ∧ (lsh bl bh il ih pl ph bo bn eo en < 0 → eo = true) := by
  rcases lsh_cases bl bh il ih pl ph bn en bo eo _ rfl with h | h | h <;> refine ⟨by omega, fun g => ?_, fun g => ?_⟩ <;> first | exact h.1 | omega
theorem within_tail (t : Int) (bo eo : Bool) (h1 : 0 < t → bo = true) (h2 : t < 0 → eo = true) : (if t ≤ 0 then (if t ≥ 0 then some true else some eo) else if bo = true then (if t ≥ 0 then some true else some eo) else none) = some true := by
  by_cases h : t ≤ 0
  · rw [if_pos h]
    by_cases h' : t ≥ 0
    · rw [if_pos h']
    · rw [if_neg h', h2 (by omega)]
  · rw [if_neg h, if_pos (h1 (by omega)), if_pos (by omega)]
theorem StickWithin : valancelaw10_StickWithin.Pure := by
  intro bl bh il ih pl ph bo bn eo en _ _ _ _ _ _ _ _
  refine ⟨3, ?_⟩
  unfold valancelaw10_StickWithin.f
  simp only [show valancelaw10_works.f = some true from rfl, Option.bind_some, if_true, small_eq]
  have yes : valancelaw10_StickWithin.j0 3 true true bl bh il ih pl ph bo bn eo en = some true := by simp only [valancelaw10_StickWithin.j0]; rfl
  refine site_ (fun s1 => ?_) (fun _ => yes)
  refine site_ (fun s2 => ?_) (fun _ => yes)
  refine site_ (fun s3 => ?_) (fun _ => yes)
  replace s1 := of_decide_eq_true s1
  replace s2 := of_decide_eq_true s2
  replace s3 := of_decide_eq_true s3
  refine site_ (fun _ => yes) (fun g1 => site_ (fun _ => yes) (fun g2 => site_ (fun _ => yes) (fun g3 => ?_)))
  by_cases g4 : en > 1073741824
  · rw [decide_eq_true g4]; exact yes
  rw [decide_eq_false g4]
  simp only [valancelaw10_StickWithin.j0, shift_eq 2 (by omega), Option.bind_some, Bool.false_eq_true, if_false, if_true]
  rw [lsh_eq bo eo (by omega) (by omega) (by omega) (by omega) (by omega) (by omega) (by omega) (by omega) (by omega) (by omega) (by omega) (by omega) (by omega) (by omega) (by omega) (by omega)]
  have hw := lsh_within bl bh il ih pl ph bn en bo eo
  have hb := lsh_bd (bl := bl) (bh := bh) (il := il) (ih := ih) (pl := pl) (ph := ph) (bn := bn) (en := en) bo eo (by omega) (by omega) (by omega) (by omega) (by omega) (by omega) (by omega) (by omega)
  generalize lsh bl bh il ih pl ph bo bn eo en = t at *
  have tail := within_tail t bo eo hw.2.1 hw.2.2
  rw [swrap_id (x := bl + t) (by omega) (by omega), swrap_id (x := bh + t) (by omega) (by omega)]
  refine site_ (fun w1 => site_ (fun w2 => ?_) (fun _ => tail)) (fun _ => tail)
  have := hw.1 w1 w2
  rw [if_neg (by omega), if_neg (by omega)]
  exact tail
end Go.Proofs.Ytnmcefpnpfaklab.Pure
