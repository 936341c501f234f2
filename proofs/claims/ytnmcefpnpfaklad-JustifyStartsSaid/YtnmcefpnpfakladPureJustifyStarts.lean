/- The law JustifyStarts holds of the printed functions, for all sizes and whole numbers of 64 bits. -/
import Derived.Test.YtnmcefpnpfakladPlainFlip
import Derived.Test.YtnmcefpnpfakladVx0
import Derived.Test.YtnmcefpnpfakladVx2
import Derived.Test.YtnmcefpnpfakladVx11
import Derived.Test.YtnmcefpnpfakladVx16
import Derived.Test.YtnmcefpnpfakladVx18
import Derived.Test.YtnmcefpnpfakladVx19
import Derived.Test.YtnmcefpnpfakladVx20
import Derived.Test.YtnmcefpnpfakladVx21
import Derived.Test.YtnmcefpnpfakladVx22
import Derived.Test.YtnmcefpnpfakladVx23
import Derived.Test.YtnmcefpnpfakladVx24
import Derived.Test.YtnmcefpnpfakladVx25
import Derived.Test.YtnmcefpnpfakladVx26
namespace Go.Proofs.Ytnmcefpnpfaklad.Pure
open Go.RowKit Go.Proofs.Ytnmcefpnpfaklad.V Go.Proofs.Ytnmcefpnpfaklad.Plain Go.Proofs.YtnmcefpnpfakladW.PrintWords Go.Proofs.YtnmcefpnpfakladW.PrintLast Go.Proofs.YtnmcefpnpfakladW.PrintMore
theorem ref_part_eq (a b c : Int) : valanceref09_part.f a b c = some (vjpart a b c) := by
  unfold valanceref09_part.f vjpart
  rw [show valanceref01_Mul.f a b = some (vmul a b) from rfl]
  simp only [Option.bind_some, ref_Div_eq]
theorem vjpart_0 (left m : Int) : vjpart left 0 m = 0 := by
  unfold vjpart vmul vdivd
  simp [show vcut 0 = 0 by decide]
theorem wjp (a b c x y z : Int) : wrap64 (vjpart a b c - vjpart x y z) = vjpart a b c - vjpart x y z := by
  have h1 := vdivd_bd (vmul a b) c
  have h2 := vdivd_bd (vmul x y) z
  unfold vjpart
  exact wrap_id (by omega) (by omega)
theorem ahead_j3 (k : Nat) (hk : 1 ≤ k) (kd left : Int) (i n : Nat) (hin : i < n) (hn : n ≤ 200) : valanceref09_ahead.j3 k kd left i n = some (vshare kd left n i - if i = 0 then 0 else vshare kd left n ((i : Int) - 1)) := by
  obtain ⟨k, rfl⟩ : ∃ m, k = m + 1 := ⟨k - 1, by omega⟩
  simp only [valanceref09_ahead.j3, ref_part_eq, ref_Div_eq, Option.bind_some, wjp]
  rw [wrap_id (x := 2 * (n : Int)) (by omega) (by omega), wrap_id (x := (n : Int) + 1) (by omega) (by omega), wrap_id (x := (n : Int) - 1) (by omega) (by omega), wrap_id (x := (i : Int) - 1) (by omega) (by omega), wrap_id (x := 2 * (i : Int)) (by omega) (by omega), wrap_id (x := 2 * (i : Int) + 1) (by omega) (by omega), wrap_id (x := 2 * (i : Int) - 1) (by omega) (by omega), wrap_id (x := (i : Int) + 1) (by omega) (by omega)]
  unfold vshare
  by_cases h0 : i = 0
  · subst h0
    rw [if_pos rfl, if_pos (show ((0 : Nat) : Int) = 0 from rfl)]
    by_cases h1 : kd = 1
    · simp only [h1, if_true, Int.sub_zero]
    by_cases h2 : kd = 2
    · simp [h2]
    by_cases h3 : kd = 3
    · simp [h3, vjpart_0]
    by_cases h4 : kd = 4
    · simp [h4]
    by_cases h5 : kd = 5
    · simp [h5]
    simp [h1, h2, h3, h4, h5]
  · rw [if_neg h0, if_neg (by omega)]
    by_cases h1 : kd = 1
    · simp [h1]
    by_cases h2 : kd = 2
    · simp [h2]
    by_cases h3 : kd = 3
    · simp [h3]
    by_cases h4 : kd = 4
    · simp only [h4, if_true]
      simp only [show ¬ ((4 : Int) = 3) by omega, show ¬ ((4 : Int) = 1) by omega, show ¬ ((4 : Int) = 2) by omega, if_false]
      rw [show 2 * ((i : Int) - 1) + 1 = 2 * (i : Int) - 1 by omega]
    by_cases h5 : kd = 5
    · simp only [h5, if_true]
      simp only [show ¬ ((5 : Int) = 3) by omega, show ¬ ((5 : Int) = 1) by omega, show ¬ ((5 : Int) = 2) by omega, show ¬ ((5 : Int) = 4) by omega, if_false]
      rw [show (i : Int) - 1 + 1 = (i : Int) by omega]
    simp [h1, h2, h3, h4, h5]
theorem ahead_eq (k : Nat) (hk : 10 ≤ k) (kind left : Int) (i n : Nat) (hin : i < n) (hn : n ≤ 200) : valanceref09_ahead.f k kind left i n = some (vshare (vkind kind left n) left n i - if i = 0 then 0 else vshare (vkind kind left n) left n ((i : Int) - 1)) := by
  have hj : ∀ m kd, 7 ≤ m → valanceref09_ahead.j1 m kd left i n = valanceref09_ahead.j3 (m - 2) (if kd = 3 ∧ (left ≤ 0 ∨ (n : Int) < 2) then 0 else kd) left i n := by
    intro m kd hm
    obtain ⟨m, rfl⟩ : ∃ q, m = q + 2 := ⟨m - 2, by omega⟩
    simp only [valanceref09_ahead.j1, valanceref09_ahead.j2, Nat.add_sub_cancel]
    by_cases h3 : kd = 3
    · rw [if_pos h3]
      by_cases h1 : left ≤ 0
      · rw [if_pos h1, if_pos trivial, if_pos ⟨h3, .inl h1⟩]
      · rw [if_neg h1]
        by_cases h2 : (n : Int) < 2
        · rw [decide_eq_true h2, if_pos rfl, if_pos ⟨h3, .inr h2⟩]
        · rw [decide_eq_false h2, if_neg (by simp), if_neg (by omega)]
    · rw [if_neg h3, if_neg (by simp), if_neg (fun h => h3 h.1)]
  obtain ⟨k, rfl⟩ : ∃ m, k = m + 1 := ⟨k - 1, by omega⟩
  have fin : ∀ kd, (if kd = 3 ∧ (left ≤ 0 ∨ (n : Int) < 2) then 0 else kd) = vkind kind left n → valanceref09_ahead.j1 k kd left i n = some (vshare (vkind kind left n) left n i - if i = 0 then 0 else vshare (vkind kind left n) left n ((i : Int) - 1)) := by
    intro kd h
    rw [hj k kd (by omega), h, ahead_j3 (k - 2) (by omega) _ left i n hin hn]
  unfold valanceref09_ahead.f
  simp only [valanceref09_ahead.j0]
  by_cases h4 : kind = 4
  · rw [if_pos h4]
    by_cases h1 : left ≤ 0
    · rw [decide_eq_true h1, if_pos rfl]
      exact fin 2 (by unfold vkind; simp [h4, h1])
    · rw [decide_eq_false h1, if_neg (by simp)]
      exact fin kind (by unfold vkind; simp [h4, h1])
  rw [if_neg h4]
  by_cases h5 : kind = 5
  · rw [if_pos h5]
    by_cases h1 : left ≤ 0
    · rw [decide_eq_true h1, if_pos rfl]
      exact fin 2 (by unfold vkind; simp [h5, h1])
    · rw [decide_eq_false h1, if_neg (by simp)]
      exact fin kind (by unfold vkind; simp [h5, h1])
  rw [if_neg h5, if_neg (by simp)]
  refine fin kind ?_
  unfold vkind
  by_cases h3 : kind = 3
  · subst h3
    by_cases h6 : left > 0 ∧ (n : Int) > 1
    · have : ¬ (left ≤ 0 ∨ (n : Int) < 2) := by omega
      simp [h6, this]
    · have : left ≤ 0 ∨ (n : Int) < 2 := by omega
      simp only [this, and_self, if_true]
      rw [if_neg (by omega), if_neg h6]
  · simp [h3, h4, h5]
theorem ref_starts_l0 (l : List Int) (kind left gap : Int) (hl : l.length ≤ 200) : ∀ (d i k : Nat) (at_ : Int) (out : List Int), i + d = l.length → out.length = i → 20 + d < k →
    valanceref09_Starts.l0 k kind l gap out left at_ i = some (vst (vkind kind left l.length) left l.length gap l d i at_ (if i = 0 then 0 else vshare (vkind kind left l.length) left l.length ((i : Int) - 1)) out) := by
  intro d
  induction d with
  | zero =>
    intro i k at_ out hd ho hk
    obtain ⟨k, rfl⟩ : ∃ m, k = m + 1 := ⟨k - 1, by omega⟩
    simp only [valanceref09_Starts.l0]
    rw [if_neg (by omega)]; rfl
  | succ d ih =>
    intro i k at_ out hd ho hk
    obtain ⟨k, rfl⟩ : ∃ m, k = m + 1 := ⟨k - 1, by omega⟩
    have step := fun at2 out2 h2 => ih (i + 1) k at2 out2 (by omega) h2 (by omega)
    simp only [show ¬ (i + 1 = 0) by omega, if_false, show (((i + 1 : Nat) : Int) - 1) = (i : Int) by omega] at step
    simp only [valanceref09_Starts.l0, vst, ref_Add_eq, Option.bind_some]
    rw [ahead_eq k (by omega) kind left i l.length (by omega) hl, wrap_id (x := (i : Int) + 1) (by omega) (by omega)]
    simp only [Option.bind_some]
    generalize (if i = 0 then (0 : Int) else vshare (vkind kind left l.length) left l.length ((i : Int) - 1)) = was
    rw [if_pos (by omega)]
    by_cases h0 : (i : Int) > 0
    · simp only [if_pos h0, if_pos (show out.length < 17592186044416 by omega), if_pos (show 0 ≤ (i : Int) by omega)]
      refine step _ _ ?_
      rw [List.length_append, ho]; rfl
    · simp only [if_neg h0, if_pos (show out.length < 17592186044416 by omega), if_pos (show 0 ≤ (i : Int) by omega)]
      refine step _ _ ?_
      rw [List.length_append, ho]; rfl
theorem ref_flip_l0 (a l : List Int) (room : Int) (hl : a.length = l.length) (hn : l.length ≤ 200) : ∀ (d i k : Nat) (out : List Int), i + d = l.length → out.length = i → 2 * d + 2 < k → valanceref09_Flip.l0 k a l room out i = some (vfl a l room d i out) := by
  intro d
  induction d with
  | zero =>
    intro i k out hd ho hk
    obtain ⟨k, rfl⟩ : ∃ m, k = m + 2 := ⟨k - 2, by omega⟩
    simp only [valanceref09_Flip.l0, valanceref09_Flip.j1]
    rw [if_neg (by omega), if_neg (by simp)]; rfl
  | succ d ih =>
    intro i k out hd ho hk
    obtain ⟨k, rfl⟩ : ∃ m, k = m + 2 := ⟨k - 2, by omega⟩
    simp only [valanceref09_Flip.l0, valanceref09_Flip.j1, ref_Add_eq, ref_Sub_eq, Option.bind_some]
    rw [if_pos (by omega), if_pos (by rw [hl]; simp), if_pos (by omega), if_pos (by omega), if_pos (by omega), if_pos (by omega), wrap_id (by omega) (by omega)]
    exact ih (i + 1) k _ (by omega) (by rw [List.length_append, ho]; rfl) (by omega)
theorem ref_across_eq (kind size room : Int) : valanceref09_Across.f kind size room = some (vacross kind size room) := by
  unfold valanceref09_Across.f vacross
  simp only [ref_Sub_eq, ref_Div_eq, Option.bind_some]
  by_cases h2 : kind = 2
  · rw [if_pos h2, if_pos h2]
  · rw [if_neg h2, if_neg h2]
    by_cases h3 : kind = 3
    · rw [if_pos h3, if_pos h3]
    · rw [if_neg h3, if_neg h3]
theorem JustifyStarts : valancelaw09_JustifyStarts.Pure := by
  intro kind l room gap align _ _ _ _ _ _ _
  refine ⟨1000, ?_⟩
  unfold valancelaw09_JustifyStarts.f
  rw [works_eq 1000 (by omega)]
  simp only [Option.bind_some, if_true]
  refine ite_ (fun _ => rfl) (fun h1 => ?_)
  unfold justify_Starts.f valanceref09_Starts.f
  rw [long_eq l gap (by omega) 1000 (by omega), ref_long_eq l gap (by omega) 1000 (by omega)]
  simp only [Option.bind_some, ref_Sub_eq]
  rw [if_pos (by omega)]
  have hs := ref_starts_l0 l kind (vsub room (vlg l gap l.length 0 0)) gap (by omega) l.length 0 1000 0 [] (by omega) rfl (by omega)
  rw [if_pos rfl] at hs
  rw [show valanceref09_Starts.l0 1000 kind l gap [] (vsub room (vlg l gap l.length 0 0)) 0 0 = some _ from hs]
  simp only [Option.bind_some]
  have hlen : (vst (vkind kind (vsub room (vlg l gap l.length 0 0)) l.length) (vsub room (vlg l gap l.length 0 0)) l.length gap l l.length 0 0 0 []).length = l.length := by rw [vst_len]; simp
  generalize vst (vkind kind (vsub room (vlg l gap l.length 0 0)) l.length) (vsub room (vlg l gap l.length 0 0)) l.length gap l l.length 0 0 0 [] = a at hlen ⊢
  rw [flip_eq a l room hlen (by omega) 1000 (by omega)]
  simp only [Option.bind_some]
  rw [row_eq a a rfl (by omega) (fun _ _ => rfl) 1000 (by omega)]
  simp only [Option.bind_some, if_true]
  unfold valanceref09_Flip.f
  have hf := ref_flip_l0 a l room hlen (by omega) l.length 0 1000 [] (by omega) rfl (by omega)
  rw [show valanceref09_Flip.l0 1000 a l room [] 0 = some _ from hf]
  simp only [Option.bind_some]
  rw [row_eq _ _ rfl (by rw [flip_len]; omega) (fun _ _ => rfl) 1000 (by rw [flip_len]; omega)]
  simp only [Option.bind_some, if_true, across_eq, ref_across_eq, beq_self_eq_true]
end Go.Proofs.Ytnmcefpnpfaklad.Pure
