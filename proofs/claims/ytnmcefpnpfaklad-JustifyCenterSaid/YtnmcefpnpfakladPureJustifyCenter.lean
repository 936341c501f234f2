/- The law JustifyCenter holds of the printed functions, for all sizes and whole numbers of 64 bits. -/
import Derived.Test.YtnmcefpnpfakladPlainFlip
import Derived.Test.YtnmcefpnpfakladPlainShare
import Derived.Test.YtnmcefpnpfakladVx0
import Derived.Test.YtnmcefpnpfakladVx2
import Derived.Test.YtnmcefpnpfakladVx11
import Derived.Test.YtnmcefpnpfakladVx29
namespace Go.Proofs.Ytnmcefpnpfaklad.Pure
open Go.RowKit Go.Proofs.Ytnmcefpnpfaklad.V Go.Proofs.Ytnmcefpnpfaklad.Plain Go.Proofs.YtnmcefpnpfakladW.PrintWords Go.Proofs.YtnmcefpnpfakladW.PrintLast Go.Proofs.YtnmcefpnpfakladW.PrintMore
theorem center_l0 (l : List Int) (gap : Int) (hl : l.length ≤ 64) (hg : 0 ≤ gap) (hg2 : gap ≤ 1048576) (hn : 0 < l.length) (room size : Int) (hr : 0 ≤ room) (hr2 : room ≤ 1073741824) (hs : 0 ≤ size) (hs2 : size ≤ 1048576) :
    ∀ (d i k : Nat), i + d = l.length → (∀ j : Nat, j < i → 0 ≤ rd l j ∧ rd l j ≤ 1048576) → 400 + d < k → valancelaw09_JustifyCenter.l0 k l room gap size true i = some true := by
  intro d
  induction d with
  | zero =>
    intro i k hd he hk
    obtain ⟨k, rfl⟩ : ∃ m, k = m + 1 := ⟨k - 1, by omega⟩
    simp only [valancelaw09_JustifyCenter.l0]
    have h : Small l gap := ⟨hl, hg, hg2, fun j hj => he j (by omega)⟩
    have hb := ns_bd h
    obtain ⟨a, ha, ha1, hrd⟩ := starts_small h 2 room (by omega) (by omega) k (by omega)
    have hk2 : ∀ left n : Int, vkind 2 left n = 2 := fun left n => by unfold vkind; rw [if_neg (by omega), if_neg (by omega)]
    have hsh : ∀ (left n : Int) (k : Nat), shr_ 2 left n k = left / 2 := fun left n k => by unfold shr_; rw [if_neg (by omega), if_pos rfl]
    have e1 : wrap64 ((l.length : Int) - 1) = ((l.length - 1 : Nat) : Int) := by rw [wrap_id (by omega) (by omega)]; omega
    have hr0 := hrd 0 hn
    have hrl := hrd (l.length - 1) (by omega)
    rw [hk2, hsh] at hr0 hrl
    have hlast := ns_last (gap := gap) hn
    have hp := ps_bd h (l.length - 1) (by omega)
    have hel := h.each (l.length - 1) (by omega)
    rw [show ps l gap 0 = 0 from rfl, Int.zero_add, show ((0 : Nat) : Int) = 0 from rfl] at hr0
    generalize hL : ns l gap l.length = L at *
    rw [if_neg (by omega), ha]
    simp only [Option.bind_some, if_true]
    rw [ha1, e1, if_pos (by omega), if_pos (by omega), if_pos (by omega), if_pos (by omega), if_pos (by omega)]
    simp only [across_eq, Option.bind_some]
    have hv : vsub room size = room - size := by unfold vsub; rw [vcut_id (n := room) (by omega) (by omega), vcut_id (n := size) (by omega) (by omega), vcut_id (by omega) (by omega)]
    have ac2 : vacross 2 size room = (room - size) / 2 := by
      unfold vacross vdivd; rw [if_pos rfl, hv, if_neg (by omega), vcut_id (n := room - size) (by omega) (by omega), vcut_id (n := 2) (by omega) (by omega)]
    have ac1 : vacross 1 size room = 0 := by unfold vacross; rw [if_neg (by omega), if_neg (by omega)]
    have ac3 : vacross 3 size room = room - size := by unfold vacross; rw [if_neg (by omega), if_pos rfl, hv]
    rw [ac2, ac1, ac3, hr0, hrl, wrap_id (x := room - (ps l gap (l.length - 1) + (room - L) / 2)) (by omega) (by omega), wrap_id (x := room - (ps l gap (l.length - 1) + (room - L) / 2) - rd l ((l.length - 1 : Nat) : Int)) (by omega) (by omega),
      wrap_id (x := room - (ps l gap (l.length - 1) + (room - L) / 2) - rd l ((l.length - 1 : Nat) : Int) - (room - L) / 2) (by omega) (by omega), wrap_id (x := room - size) (by omega) (by omega), wrap_id (x := room - size - (room - size) / 2) (by omega) (by omega), wrap_id (x := room - size - (room - size) / 2 - (room - size) / 2) (by omega) (by omega),
      if_pos (by omega), if_pos (by omega), if_pos (by omega), if_pos (by omega)]
    simp
  | succ d ih =>
    intro i k hd he hk
    obtain ⟨k, rfl⟩ : ∃ m, k = m + 1 := ⟨k - 1, by omega⟩
    simp only [valancelaw09_JustifyCenter.l0]
    rw [if_pos (by omega), if_pos (by omega)]
    refine ite_ (fun _ => rfl) (fun h1 => ite_ (fun _ => rfl) (fun h2 => ?_))
    rw [wrap_id (by omega) (by omega)]
    exact ih (i + 1) k (by omega) (fun j hj => by
      by_cases e : j = i
      · subst e; omega
      · exact he j (by omega)) (by omega)
theorem JustifyCenter : valancelaw09_JustifyCenter.Pure := by
  intro l room gap size _ _ _ _ _ _
  refine ⟨1000, ?_⟩
  unfold valancelaw09_JustifyCenter.f
  rw [works_eq 1000 (by omega)]
  simp only [Option.bind_some, if_true]
  have yes : valancelaw09_JustifyCenter.j0 1000 l room gap size true true = some true := by simp only [valancelaw09_JustifyCenter.j0]; rfl
  refine ite_ (fun _ => yes) (fun h1 => ite_ (fun _ => yes) (fun h2 => ite_ (fun _ => yes) (fun h3 => ite_ (fun _ => yes) (fun h4 => ite_ (fun _ => yes) (fun h5 => ite_ (fun _ => yes) (fun h6 => ite_ (fun _ => yes) (fun h7 => ?_)))))))
  by_cases h8 : size > 1048576
  · rw [decide_eq_true h8]; exact yes
  rw [decide_eq_false h8]
  simp only [valancelaw09_JustifyCenter.j0, Bool.false_eq_true, if_false]
  exact center_l0 l gap (by omega) (by omega) (by omega) (by omega) room size (by omega) (by omega) (by omega) (by omega) l.length 0 999 (by omega) (fun j hj => by omega) (by omega)
end Go.Proofs.Ytnmcefpnpfaklad.Pure
