/- The law StickLeast holds of the printed functions. -/
import Derived.Test.YtnmcefpnpfaklabPlainStick
import Derived.Test.YtnmcefpnpfaklabVx0
import Derived.Test.YtnmcefpnpfaklabVx7
import Derived.Test.YtnmcefpnpfaklabVx19
namespace Go.Proofs.Ytnmcefpnpfaklab.Pure
open Go.RowKit Go.Proofs.Ytnmcefpnpfaklab.V Go.Proofs.Ytnmcefpnpfaklab.Plain Go.Proofs.YtnmcefpnpfaklabW.PrintWords Go.Proofs.YtnmcefpnpfaklabW.PrintLast Go.Proofs.YtnmcefpnpfaklabW.PrintMore
theorem lsh_least (bl bh il ih pl ph bn en : Int) (bo eo : Bool) (t : Int) (ht : lsh bl bh il ih pl ph bo bn eo en = t) :
    ((bo = true → pl + bn ≤ bl) → ¬ 0 < t) ∧ ((eo = true → bh ≤ ph - en) → ¬ t < 0) ∧ (0 < t → bh + t = ih ∨ bl + t = pl + bn) ∧ (t < 0 → bl + t = il ∨ bh + t = ph - en ∨ (bo = true ∧ bl + t = pl + bn)) := by
  have A := lsh_cases bl bh il ih pl ph bn en bo eo t ht
  cases bo <;> cases eo <;> simp at A ⊢ <;> omega
/-- What is asked once it is known to be shifted no more than it must. -/
theorem least_j3 (k : Nat) (t bl bh il ih pl ph bn en : Int) (bo eo : Bool) (w1 : wrap64 (bh + t) = bh + t) (w2 : wrap64 (bl + t) = bl + t) (w3 : wrap64 (pl + bn) = pl + bn) (w4 : wrap64 (ph - en) = ph - en)
    (h1 : 0 < t → bh + t = ih ∨ bl + t = pl + bn) (h2 : t < 0 → bl + t = il ∨ bh + t = ph - en ∨ (bo = true ∧ bl + t = pl + bn)) : valancelaw10_StickLeast.j3 (k + 1) true t false bl bh il ih pl ph bo bn eo en = some true := by
  simp only [valancelaw10_StickLeast.j3, w1, w2, w3, w4, Bool.false_eq_true, if_false, if_true]
  have tail : (if bo = true then (if t ≥ 0 then some true else if bl + t = il then some true else if bh + t = ph - en then some true else some (bl + t == pl + bn)) else (if t ≥ 0 then some true else if bl + t = il then some true else if bh + t = ph - en then some true else none)) = some true := by
    by_cases h0 : t ≥ 0
    · rw [if_pos h0, if_pos h0]; split <;> rfl
    rw [if_neg h0, if_neg h0]
    rcases h2 (by omega) with e | e | ⟨eb, e⟩
    · rw [if_pos e, if_pos e]; split <;> rfl
    · rw [if_pos e, if_pos e]; (repeat' split) <;> rfl
    · rw [if_pos eb, e]; (repeat' split) <;> first | rfl | simp
  refine site_ (fun h3 => site_ (fun _ => tail) (fun h4 => site_ (fun _ => tail) (fun h5 => ?_))) (fun _ => tail)
  rcases h1 h3 with e | e
  · exact absurd e h4
  · exact absurd e h5
theorem least_j2 (k : Nat) (t bl bh il ih pl ph bn en : Int) (bo eo far near : Bool) (hf : far = true → ¬ 0 < t) (hn : near = true → ¬ t < 0) (h : valancelaw10_StickLeast.j3 k true t false bl bh il ih pl ph bo bn eo en = some true) :
    valancelaw10_StickLeast.j2 (k + 1) true t far near bl bh il ih pl ph bo bn eo en = some true := by
  simp only [valancelaw10_StickLeast.j2]
  cases far with
  | true =>
    have := hf rfl
    cases near with
    | true =>
      have := hn rfl
      rw [if_pos rfl, if_pos rfl, if_pos (show t = 0 by omega), if_neg (by omega), decide_eq_false (by omega)]; exact h
    | false => rw [if_pos rfl, if_neg (by simp), if_neg (by omega)]; exact h
  | false =>
    rw [if_neg (by simp)]
    cases near with
    | true =>
      have := hn rfl
      rw [if_pos rfl, decide_eq_false (by omega)]; exact h
    | false => rw [if_neg (by simp)]; exact h
theorem StickLeast : valancelaw10_StickLeast.Pure := by
  intro bl bh il ih pl ph bo bn eo en _ _ _ _ _ _ _ _
  refine ⟨6, ?_⟩
  unfold valancelaw10_StickLeast.f
  simp only [show valancelaw10_works.f = some true from rfl, Option.bind_some, if_true, small_eq]
  have yes : valancelaw10_StickLeast.j0 6 true true bl bh il ih pl ph bo bn eo en = some true := by simp only [valancelaw10_StickLeast.j0]; rfl
  refine site_ (fun s1 => ?_) (fun _ => yes)
  refine site_ (fun s2 => ?_) (fun _ => yes)
  refine site_ (fun s3 => ?_) (fun _ => yes)
  replace s1 := of_decide_eq_true s1
  replace s2 := of_decide_eq_true s2
  replace s3 := of_decide_eq_true s3
  refine site_ (fun _ => yes) (fun g1 => site_ (fun _ => yes) (fun g2 => site_ (fun _ => yes) (fun g3 => ?_)))
  by_cases g4 : en > 1073741824
  · rw [decide_eq_true g4]; exact yes
  rw [decide_eq_false g4]
  clear yes
  simp only [valancelaw10_StickLeast.j0, shift_eq 5 (by omega), Option.bind_some, Bool.false_eq_true, if_false]
  rw [lsh_eq bo eo (by omega) (by omega) (by omega) (by omega) (by omega) (by omega) (by omega) (by omega) (by omega) (by omega) (by omega) (by omega) (by omega) (by omega) (by omega) (by omega)]
  have hw := lsh_least bl bh il ih pl ph bn en bo eo _ rfl
  have hb := lsh_bd (bl := bl) (bh := bh) (il := il) (ih := ih) (pl := pl) (ph := ph) (bn := bn) (en := en) bo eo (by omega) (by omega) (by omega) (by omega) (by omega) (by omega) (by omega) (by omega)
  generalize lsh bl bh il ih pl ph bo bn eo en = t at *
  have w3 : wrap64 (pl + bn) = pl + bn := swrap_id (by omega) (by omega)
  have w4 : wrap64 (ph - en) = ph - en := swrap_id (by omega) (by omega)
  have j3 := fun k => least_j3 k t bl bh il ih pl ph bn en bo eo (swrap_id (by omega) (by omega)) (swrap_id (by omega) (by omega)) w3 w4 hw.2.2.1 hw.2.2.2
  have j1 : ∀ far : Bool, (far = true → ¬ 0 < t) → valancelaw10_StickLeast.j1 5 true t far bl bh il ih pl ph bo bn eo en = some true := by
    intro far hf
    simp only [valancelaw10_StickLeast.j1]
    refine site_ (fun he => least_j2 3 t bl bh il ih pl ph bn en bo eo far _ hf (fun h => hw.2.1 (fun _ => ?_)) (j3 2)) (fun he => least_j2 3 t bl bh il ih pl ph bn en bo eo far _ hf (fun _ => hw.2.1 (fun h => absurd h he)) (j3 2))
    have := of_decide_eq_true h
    rw [w4] at this
    exact this
  refine site_ (fun hb => j1 _ (fun h => hw.1 (fun _ => ?_))) (fun hb => j1 _ (fun _ => hw.1 (fun h => absurd h hb)))
  have := of_decide_eq_true h
  rw [w3] at this
  exact this
end Go.Proofs.Ytnmcefpnpfaklab.Pure
