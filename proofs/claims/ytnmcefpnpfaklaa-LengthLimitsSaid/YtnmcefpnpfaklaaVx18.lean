/- What the functions of this seat answer, as plain Lean functions, and that the calls come to just that (written by a program of this repo, over the kit's printer; Lean checks it). -/
import Derived.Test.YtnmcefpnpfaklaaVx0
import Derived.Test.YtnmcefpnpfaklaaVx10
import Derived.Test.YtnmcefpnpfaklaaVx12
import Derived.Test.YtnmcefpnpfaklaaVx13
namespace Go.Proofs.Ytnmcefpnpfaklaa.V
open Go.RowKit Go.Proofs.YtnmcefpnpfaklaaW.PrintWords Go.Proofs.YtnmcefpnpfaklaaW.PrintLast Go.Proofs.YtnmcefpnpfaklaaW.PrintMore
attribute [local go_sem] max2_int min2_int max_two min_two max_three min_three max_four min_four   -- for this text's walks alone
set_option linter.unusedVariables false
set_option linter.unusedSimpArgs false

/-! ### valanceref05_Limit: function 22 -/
def valanceref05_Limit.j0 : Nat → Int → Int → Int → Int → Option (Int)
  | 0, _, _, _, _ => none
  | k + 1, x0, x3, x163000, x163001 => (valanceref05_Fixed.f x163000 x163001 x3).bind fun t167 => (if t167 = true then ((valanceref05_Of.f k x163000 x163001 x3 0).bind fun t168 => (some (mx (mx x0 t168) 0))) else (some (mx x0 0)))
def valanceref05_Limit.f (k : Nat) (a0 : Int) (a1_0 : Int) (a1_1 : Int) (a2_0 : Int) (a2_1 : Int) (a3 : Int) : Option (Int) := (valanceref01_Cut.f a0).bind fun t164 => ((valanceref05_Fixed.f a2_0 a2_1 a3).bind fun t165 => (if t165 = true then ((valanceref05_Of.f k a2_0 a2_1 a3 0).bind fun t166 => (valanceref05_Limit.j0 k (mn t164 t166) a3 a1_0 a1_1)) else (valanceref05_Limit.j0 k t164 a3 a1_0 a1_1)))
theorem valanceref05_Limit.mono_l : ∀ k, (∀ y0 y1 y2 y3, LeO (valanceref05_Limit.j0 k y0 y1 y2 y3) (valanceref05_Limit.j0 (k + 1) y0 y1 y2 y3))
  | 0 => fun _ _ _ _ r h => by simp [valanceref05_Limit.j0] at h
  | k + 1 => by
    have ih0 := valanceref05_Limit.mono_l k
    · intro y0 y1 y2 y3
      unfold valanceref05_Limit.j0
      repeat' first
      | (with_reducible exact ih0 _ _ _ _)
      | (with_reducible exact valanceref05_Of.mono _ _ _ _ _)
      | (with_reducible exact LeO.refl _)
      | (with_reducible exact LeO.none _)
      | (with_reducible refine LeO.ite ?_ ?_)
      | (with_reducible refine LeO.bind ?_ (fun _ => ?_))
      | exact ih0 _ _ _ _
      | exact valanceref05_Of.mono _ _ _ _ _
      | exact LeO.none _
      | refine LeO.ite ?_ ?_
      | refine LeO.bind ?_ (fun _ => ?_)
theorem valanceref05_Limit.mono : ∀ a0 a1 a2 a3 a4 a5 k, LeO (valanceref05_Limit.f k a0 a1 a2 a3 a4 a5) (valanceref05_Limit.f (k + 1) a0 a1 a2 a3 a4 a5) := by
  intro a0 a1 a2 a3 a4 a5 k
  have ih0 := valanceref05_Limit.mono_l k
  unfold valanceref05_Limit.f
  repeat' first
      | (with_reducible exact ih0 _ _ _ _)
      | (with_reducible exact valanceref05_Of.mono _ _ _ _ _)
      | (with_reducible exact LeO.refl _)
      | (with_reducible exact LeO.none _)
      | (with_reducible refine LeO.ite ?_ ?_)
      | (with_reducible refine LeO.bind ?_ (fun _ => ?_))
      | exact ih0 _ _ _ _
      | exact valanceref05_Of.mono _ _ _ _ _
      | exact LeO.none _
      | refine LeO.ite ?_ ?_
      | refine LeO.bind ?_ (fun _ => ?_)
set_option maxHeartbeats 8000000 in
set_option maxRecDepth 100000 in
theorem valanceref05_Limit.calls (k : Nat) (a0 : Int) (a1_0 : Int) (a1_1 : Int) (a2_0 : Int) (a2_1 : Int) (a3 : Int) (r : Int) (w : World) (h : valanceref05_Limit.f k a0 a1_0 a1_1 a2_0 a2_1 a3 = some r) :
    Calls Try.prog 22 #[.int .i64 a0, .agg #[.int .i64 a1_0, .int .i64 a1_1], .agg #[.int .i64 a2_0, .int .i64 a2_1], .int .i64 a3] w fun e w' => e = .returned (.int .i64 r) ∧ Below w.heap.size w w' := by
  have hu24 := Try.underlying24
  have HB := Aside0.mk (Below.refl w.heap.size w)
  have H : ((valanceref01_Cut.f a0).bind fun t164 => ((valanceref05_Fixed.f a2_0 a2_1 a3).bind fun t165 => (if t165 = true then ((valanceref05_Of.f k a2_0 a2_1 a3 0).bind fun t166 => (valanceref05_Limit.j0 k (mn t164 t166) a3 a1_0 a1_1)) else (valanceref05_Limit.j0 k t164 a3 a1_0 a1_1)))) = some r := h
  clear h
  replace H := Option.bind_eq_some_iff.mp H
  obtain ⟨t164, A50, H⟩ := H
  replace H : ((valanceref05_Fixed.f a2_0 a2_1 a3).bind fun t165 => (if t165 = true then ((valanceref05_Of.f k a2_0 a2_1 a3 0).bind fun t166 => (valanceref05_Limit.j0 k (mn t164 t166) a3 a1_0 a1_1)) else (valanceref05_Limit.j0 k t164 a3 a1_0 a1_1))) = some r := H
  have A5 := Aside0.mk A50
  clear A50
  replace H := Option.bind_eq_some_iff.mp H
  obtain ⟨t165, A60, H⟩ := H
  replace H : (if t165 = true then ((valanceref05_Of.f k a2_0 a2_1 a3 0).bind fun t166 => (valanceref05_Limit.j0 k (mn t164 t166) a3 a1_0 a1_1)) else (valanceref05_Limit.j0 k t164 a3 a1_0 a1_1)) = some r := H
  have A6 := Aside0.mk A60
  clear A60
  have HC7 := Aside0.mk H
  clear H
  go_enter Try.func22, Try.ntmps22
  go_upto_if 13 with (first | ((with_reducible refine gate_dst (N := 5) rfl ?_); refine box_event ?hg (N := 5) ?hd (cs := #[.int .i64 a1_0, .int .i64 a1_1]) (t := 24) ?hr ?_; (case hd => rfl); (case hg => rfl); (case hr => first | (go_simp; done) | (go_simp; rfl)); intro gb162 hg w8 hbox hb; have n0_ := Aside0.mk (below_step (by repeat (first | (with_reducible first | exact HB.out | apply below_alloc | apply pw_below_drewN | apply below_drew1) | exact HB.out)) hb); have n1_ := Aside0.mk (hbox); have n2_ := Aside0.mk ((by rw [hg]; exact (below_size (by repeat (first | (with_reducible first | exact HB.out | apply below_alloc | apply pw_below_drewN | apply below_drew1) | exact HB.out))) : w.heap.size ≤ gb162)); have n3_ := Aside0.mk ((by rw [hg]; exact (below_size (by repeat (first | (with_reducible first | exact HB.out | apply below_alloc | apply pw_below_drewN | apply below_drew1) | exact HB.out))) : w.heap.size ≤ gb162)); clear HB; have HB := n0_; have BK162 := n1_; have GW162 := n2_; have GE162 := n3_; clear n0_ n1_ n2_ n3_; clear hb hbox hg) | ((with_reducible refine gate_dst (N := 6) rfl ?_); refine box_event ?hg (N := 6) ?hd (cs := #[.int .i64 a2_0, .int .i64 a2_1]) (t := 24) ?hr ?_; (case hd => rfl); (case hg => rfl); (case hr => first | (go_simp; done) | (go_simp; rfl)); intro gb163 hg w9 hbox hb; have n0_ := Aside0.mk (blk_below (g := gb162) (o := .cells #[.int .i64 a1_0, .int .i64 a1_1] 24 (0, 0)) (by (with_reducible repeat (first | refine blk_drewN ?_ _ | refine blk_drew ?_ | refine blk_alloc ?_ _)); exact BK162.out) hb); have n1_ := Aside0.mk (below_step (by repeat (first | (with_reducible first | exact HB.out | apply below_alloc | apply pw_below_drewN | apply below_drew1 | refine below_set ?_ GE162.out) | exact HB.out)) hb); have n2_ := Aside0.mk (hbox); have n3_ := Aside0.mk ((by rw [hg]; exact (below_size (by repeat (first | (with_reducible first | exact HB.out | apply below_alloc | apply pw_below_drewN | apply below_drew1 | refine below_set ?_ GE162.out) | exact HB.out))) : w.heap.size ≤ gb163)); have n4_ := Aside0.mk ((by rw [hg]; exact (below_size (by repeat (first | (with_reducible first | exact HB.out | apply below_alloc | apply pw_below_drewN | apply below_drew1 | refine below_set ?_ GE162.out) | exact HB.out))) : w.heap.size ≤ gb163)); have n5_ := Aside0.mk ((by rw [hg]; exact Nat.ne_of_lt (blk_lt (g := gb162) (o := .cells #[.int .i64 a1_0, .int .i64 a1_1] 24 (0, 0)) (by (with_reducible repeat (first | refine blk_drewN ?_ _ | refine blk_drew ?_ | refine blk_alloc ?_ _)); exact BK162.out)) : gb162 ≠ gb163)); have n6_ := Aside0.mk ((by rw [hg]; exact Nat.ne_of_gt (blk_lt (g := gb162) (o := .cells #[.int .i64 a1_0, .int .i64 a1_1] 24 (0, 0)) (by (with_reducible repeat (first | refine blk_drewN ?_ _ | refine blk_drew ?_ | refine blk_alloc ?_ _)); exact BK162.out)) : gb163 ≠ gb162)); clear BK162; clear HB; have BK162 := n0_; have HB := n1_; have BK163 := n2_; have GW163 := n3_; have GE163 := n4_; have NB162_163 := n5_; have NB163_162 := n6_; clear n0_ n1_ n2_ n3_ n4_ n5_ n6_; clear hb hbox hg) | ((with_reducible refine gate_callee (f := 33) rfl ?_); refine goesL_ (some 10) rfl rfl Try.func33 (by kernel_rfl) rfl #[.int .i64 a0] rfl (by (try simp only [List.map_toArray, List.map_cons, List.map_nil]); first | done | rfl | (simp only [List.length_drop, List.length_take]; rfl)) ?_; (with_reducible refine (valanceref01_Cut.calls a0 t164 _ A5.out).mono ?_); rintro e w' ⟨rfl, ⟨nd, rfl⟩⟩; refine ⟨_, rfl, ?_⟩; have hnb10 := NB163_162.out; have hnc10 := NB162_163.out; have hcz11_0 : w9.cell? ⟨gb163, 0, none⟩ = some (.int .i64 a2_0) := (blk_cell BK163.out 0).trans rfl; have hcz11_1 : w9.cell? ⟨gb163, 1, none⟩ = some (.int .i64 a2_1) := (blk_cell BK163.out 1).trans rfl; have hfz11_0 := blk_frozen BK163.out 0; have hfz11_1 := blk_frozen BK163.out 1) | ((with_reducible refine gate_callee (f := 16) rfl ?_); refine goesL_ (some 13) rfl rfl Try.func16 (by kernel_rfl) rfl #[.agg #[.int .i64 a2_0, .int .i64 a2_1], .int .i64 a3] rfl (by (try simp only [List.map_toArray, List.map_cons, List.map_nil]); first | done | rfl | (simp only [List.length_drop, List.length_take]; rfl)) ?_; (with_reducible refine (valanceref05_Fixed.calls a2_0 a2_1 a3 t165 _ A6.out).mono ?_); rintro e w12 ⟨rfl, hb⟩; refine ⟨_, rfl, ?_⟩; have n0_ := Aside0.mk (blk_below (g := gb162) (o := .cells #[.int .i64 a1_0, .int .i64 a1_1] 24 (0, 0)) (by (with_reducible repeat (first | refine blk_drewN ?_ _ | refine blk_drew ?_ | refine blk_alloc ?_ _)); exact BK162.out) hb); have n1_ := Aside0.mk (blk_below (g := gb163) (o := .cells #[.int .i64 a2_0, .int .i64 a2_1] 24 (0, 0)) (by (with_reducible repeat (first | refine blk_drewN ?_ _ | refine blk_drew ?_ | refine blk_alloc ?_ _)); exact BK163.out) hb); have n2_ := Aside0.mk (below_step (by repeat (first | (with_reducible first | exact HB.out | apply below_alloc | apply pw_below_drewN | apply below_drew1 | refine below_set ?_ GE162.out | refine below_set ?_ GE163.out) | exact HB.out)) hb); clear BK162; clear BK163; clear HB; have BK162 := n0_; have BK163 := n1_; have HB := n2_; clear n0_ n1_ n2_; (try clear hb); (try clear hb2); (try clear hk); (try clear hi)))
  (try simp only [Act.put, List.setIfInBounds_toArray, List.set_cons_zero, List.set_cons_succ])
  go_cut [0] (fun v0 wc => ∃ (kq : Nat) (x0_6 : Int), v0 = .int .i64 x0_6 ∧ Aside0 (valanceref05_Limit.j0 kq x0_6 a3 a1_0 a1_1 = some r) ∧ Aside0 (kq ≤ k) ∧ Aside0 (wc.heap[gb162]? = some (.cells #[.int .i64 a1_0, .int .i64 a1_1] 24 (0, 0))) ∧ Aside0 (wc.heap[gb163]? = some (.cells #[.int .i64 a2_0, .int .i64 a2_1] 24 (0, 0))) ∧ Aside0 (Below w.heap.size w wc))
  case first =>
    have H := HC7.out
    clear HC7
    by_cases c13 : t165 = true
    · subst c13
      have H1 : ((valanceref05_Of.f k a2_0 a2_1 a3 0).bind fun t166 => (valanceref05_Limit.j0 k (mn t164 t166) a3 a1_0 a1_1)) = some r := by rw [if_pos rfl] at H; exact H
      clear H
      have H := H1
      clear H1
      replace H := Option.bind_eq_some_iff.mp H
      obtain ⟨t166, A140, H⟩ := H
      replace H : (valanceref05_Limit.j0 k (mn t164 t166) a3 a1_0 a1_1) = some r := H
      have A14 := Aside0.mk A140
      clear A140
      obtain ⟨ji15, hji15⟩ : ∃ j_ : Int, (mn t164 t166) = j_ := ⟨_, rfl⟩
      replace H : (valanceref05_Limit.j0 k ji15 a3 a1_0 a1_1) = some r := by first | (rw [hji15] at H; exact H) | (simp only [hji15] at H ⊢; exact H)
      (try rw [hji15] at A14)
      have hji15_ : (if t166 < t164 then t166 else t164) = ji15 := hji15
      have H' := Aside0.mk H
      clear H
      have hnb16 := NB163_162.out
      have hnc16 := NB162_163.out
      have hcz17_0 : w12.cell? ⟨gb163, 0, none⟩ = some (.int .i64 a2_0) := (blk_cell BK163.out 0).trans rfl
      have hcz17_1 : w12.cell? ⟨gb163, 1, none⟩ = some (.int .i64 a2_1) := (blk_cell BK163.out 1).trans rfl
      have hfz17_0 := blk_frozen BK163.out 0
      have hfz17_1 := blk_frozen BK163.out 1
      go_wp2_with (first | ((with_reducible refine gate_callee (f := 14) rfl ?_); refine goesL_ (some 17) rfl rfl Try.func14 (by kernel_rfl) rfl #[.agg #[.int .i64 a2_0, .int .i64 a2_1], .int .i64 a3, .int .i64 0] rfl (by (try simp only [List.map_toArray, List.map_cons, List.map_nil]); first | done | rfl | (simp only [List.length_drop, List.length_take]; rfl)) ?_; (with_reducible refine (valanceref05_Of.calls k a2_0 a2_1 a3 0 t166 _ A14.out).mono ?_); rintro e w18 ⟨rfl, hb⟩; refine ⟨_, rfl, ?_⟩; have n0_ := Aside0.mk (blk_below (g := gb162) (o := .cells #[.int .i64 a1_0, .int .i64 a1_1] 24 (0, 0)) (by (with_reducible repeat (first | refine blk_drewN ?_ _ | refine blk_drew ?_ | refine blk_alloc ?_ _)); exact BK162.out) hb); have n1_ := Aside0.mk (blk_below (g := gb163) (o := .cells #[.int .i64 a2_0, .int .i64 a2_1] 24 (0, 0)) (by (with_reducible repeat (first | refine blk_drewN ?_ _ | refine blk_drew ?_ | refine blk_alloc ?_ _)); exact BK163.out) hb); have n2_ := Aside0.mk (below_step (by repeat (first | (with_reducible first | exact HB.out | apply below_alloc | apply pw_below_drewN | apply below_drew1 | refine below_set ?_ GE162.out | refine below_set ?_ GE163.out) | exact HB.out)) hb); clear BK162; clear BK163; clear HB; have BK162 := n0_; have BK163 := n1_; have HB := n2_; clear n0_ n1_ n2_; (try clear hb); (try clear hb2); (try clear hk); (try clear hi)))
      go_meet
      case rel => exact ⟨_, (ji15), (by first | rfl | (simp; done) | (simp only [← hji15] <;> (first | rfl | simp)) | (simp [*]; done)), H', ⟨by first | omega | exact Nat.le_refl _⟩, ⟨by (with_reducible repeat (first | refine blk_drewN ?_ _ | refine blk_drew ?_ | refine blk_alloc ?_ _)); exact BK162.out⟩, ⟨by (with_reducible repeat (first | refine blk_drewN ?_ _ | refine blk_drew ?_ | refine blk_alloc ?_ _)); exact BK163.out⟩, ⟨by repeat (first | (with_reducible first | exact HB.out | apply below_alloc | apply pw_below_drewN | apply below_drew1 | refine below_set ?_ GE162.out | refine below_set ?_ GE163.out) | exact HB.out)⟩⟩
    · replace c13 := Bool.eq_false_iff.mpr c13
      subst c13
      have H1 : (valanceref05_Limit.j0 k t164 a3 a1_0 a1_1) = some r := by rw [if_neg (show ¬ (false = true) by decide)] at H; exact H
      clear H
      have H := H1
      clear H1
      have H' := Aside0.mk H
      clear H
      go_wp2
      go_meet
      case rel => exact ⟨_, (t164), (by first | rfl | (simp; done) | (simp [*]; done)), H', ⟨by first | omega | exact Nat.le_refl _⟩, ⟨by (with_reducible repeat (first | refine blk_drewN ?_ _ | refine blk_drew ?_ | refine blk_alloc ?_ _)); exact BK162.out⟩, ⟨by (with_reducible repeat (first | refine blk_drewN ?_ _ | refine blk_drew ?_ | refine blk_alloc ?_ _)); exact BK163.out⟩, ⟨by repeat (first | (with_reducible first | exact HB.out | apply below_alloc | apply pw_below_drewN | apply below_drew1 | refine below_set ?_ GE162.out | refine below_set ?_ GE163.out) | exact HB.out)⟩⟩
  case rest =>
    clear HC7
    try clear c1
    try clear c2
    try clear p2
    try clear c3
    try clear c10
    try clear c13
    try clear c14
    try clear c16
    try clear hcz11_0
    try clear hcz11_1
    try clear hcz17_0
    try clear hcz17_1
    try clear hfz11_0
    try clear hfz11_1
    try clear hfz17_0
    try clear hfz17_1
    obtain ⟨kq, x0_6, rfl, HA, HJ6, BK162, BK163, HB⟩ := hcut
    cases kq with
    | zero => exact absurd HA.out (by simp [valanceref05_Limit.j0])
    | succ kj6 =>
      have H := HA.out
      clear HA
      simp only [valanceref05_Limit.j0] at H
      replace H := Option.bind_eq_some_iff.mp H
      obtain ⟨t167, A190, H⟩ := H
      replace H : (if t167 = true then ((valanceref05_Of.f kj6 a1_0 a1_1 a3 0).bind fun t168 => (some (mx (mx x0_6 t168) 0))) else (some (mx x0_6 0))) = some r := H
      have A19 := Aside0.mk A190
      clear A190
      by_cases c20 : t167 = true
      · subst c20
        have H1 : ((valanceref05_Of.f kj6 a1_0 a1_1 a3 0).bind fun t168 => (some (mx (mx x0_6 t168) 0))) = some r := by rw [if_pos rfl] at H; exact H
        clear H
        have H := H1
        clear H1
        replace H := Option.bind_eq_some_iff.mp H
        obtain ⟨t168, A210, H⟩ := H
        replace H : (some (mx (mx x0_6 t168) 0)) = some r := H
        have A21 := Aside0.mk A210
        clear A210
        obtain ⟨ji22, hji22⟩ : ∃ j_ : Int, (mx x0_6 t168) = j_ := ⟨_, rfl⟩
        replace H : (some (mx (ji22) 0)) = some r := by first | (rw [hji22] at H; exact H) | (simp only [hji22] at H ⊢; exact H)
        (try rw [hji22] at A19)
        (try rw [hji22] at A21)
        have hji22_ : (if x0_6 < t168 then t168 else x0_6) = ji22 := hji22
        obtain ⟨ji23, hji23⟩ : ∃ j_ : Int, (mx (ji22) 0) = j_ := ⟨_, rfl⟩
        replace H : (some ji23) = some r := by first | (rw [hji23] at H; exact H) | (simp only [hji23] at H ⊢; exact H)
        (try rw [hji23] at A19)
        (try rw [hji23] at A21)
        have hji23_ : (if (ji22) < 0 then 0 else (ji22)) = ji23 := hji23
        obtain rfl := Option.some.inj H
        have hnb24 := NB162_163.out
        have hnc24 := NB163_162.out
        have hcz25_0 : wc.cell? ⟨gb162, 0, none⟩ = some (.int .i64 a1_0) := (blk_cell BK162.out 0).trans rfl
        have hcz25_1 : wc.cell? ⟨gb162, 1, none⟩ = some (.int .i64 a1_1) := (blk_cell BK162.out 1).trans rfl
        have hfz25_0 := blk_frozen BK162.out 0
        have hfz25_1 := blk_frozen BK162.out 1
        go_wp2_with (first | ((with_reducible refine gate_callee (f := 16) rfl ?_); refine goesL_ (some 21) rfl rfl Try.func16 (by kernel_rfl) rfl #[.agg #[.int .i64 a1_0, .int .i64 a1_1], .int .i64 a3] rfl (by (try simp only [List.map_toArray, List.map_cons, List.map_nil]); first | done | rfl | (simp only [List.length_drop, List.length_take]; rfl)) ?_; (with_reducible refine (valanceref05_Fixed.calls a1_0 a1_1 a3 true _ A19.out).mono ?_); rintro e w26 ⟨rfl, hb⟩; refine ⟨_, rfl, ?_⟩; have n0_ := Aside0.mk (blk_below (g := gb162) (o := .cells #[.int .i64 a1_0, .int .i64 a1_1] 24 (0, 0)) (by (with_reducible repeat (first | refine blk_drewN ?_ _ | refine blk_drew ?_ | refine blk_alloc ?_ _)); exact BK162.out) hb); have n1_ := Aside0.mk (blk_below (g := gb163) (o := .cells #[.int .i64 a2_0, .int .i64 a2_1] 24 (0, 0)) (by (with_reducible repeat (first | refine blk_drewN ?_ _ | refine blk_drew ?_ | refine blk_alloc ?_ _)); exact BK163.out) hb); have n2_ := Aside0.mk (below_step (by repeat (first | (with_reducible first | exact HB.out | apply below_alloc | apply pw_below_drewN | apply below_drew1 | refine below_set ?_ GE162.out | refine below_set ?_ GE163.out) | exact HB.out)) hb); clear BK162; clear BK163; clear HB; have BK162 := n0_; have BK163 := n1_; have HB := n2_; clear n0_ n1_ n2_; (try clear hb); (try clear hb2); (try clear hk); (try clear hi); have hcz27_0 : w26.cell? ⟨gb162, 0, none⟩ = some (.int .i64 a1_0) := (blk_cell BK162.out 0).trans rfl; have hcz27_1 : w26.cell? ⟨gb162, 1, none⟩ = some (.int .i64 a1_1) := (blk_cell BK162.out 1).trans rfl; have hfz27_0 := blk_frozen BK162.out 0; have hfz27_1 := blk_frozen BK162.out 1) | ((with_reducible refine gate_callee (f := 14) rfl ?_); refine goesL_ (some 25) rfl rfl Try.func14 (by kernel_rfl) rfl #[.agg #[.int .i64 a1_0, .int .i64 a1_1], .int .i64 a3, .int .i64 0] rfl (by (try simp only [List.map_toArray, List.map_cons, List.map_nil]); first | done | rfl | (simp only [List.length_drop, List.length_take]; rfl)) ?_; (with_reducible refine (valanceref05_Of.calls kj6 a1_0 a1_1 a3 0 t168 _ A21.out).mono ?_); rintro e w28 ⟨rfl, hb⟩; refine ⟨_, rfl, ?_⟩; have n0_ := Aside0.mk (blk_below (g := gb162) (o := .cells #[.int .i64 a1_0, .int .i64 a1_1] 24 (0, 0)) (by (with_reducible repeat (first | refine blk_drewN ?_ _ | refine blk_drew ?_ | refine blk_alloc ?_ _)); exact BK162.out) hb); have n1_ := Aside0.mk (blk_below (g := gb163) (o := .cells #[.int .i64 a2_0, .int .i64 a2_1] 24 (0, 0)) (by (with_reducible repeat (first | refine blk_drewN ?_ _ | refine blk_drew ?_ | refine blk_alloc ?_ _)); exact BK163.out) hb); have n2_ := Aside0.mk (below_step (by repeat (first | (with_reducible first | exact HB.out | apply below_alloc | apply pw_below_drewN | apply below_drew1 | refine below_set ?_ GE162.out | refine below_set ?_ GE163.out) | exact HB.out)) hb); clear BK162; clear BK163; clear HB; have BK162 := n0_; have BK163 := n1_; have HB := n2_; clear n0_ n1_ n2_; (try clear hb); (try clear hb2); (try clear hk); (try clear hi)))
        go_ret
        exact ⟨by first | rfl | (simp [errW_none, errW_some] <;> rfl) | (simp only [← hji22, ← hji23]; first | rfl | (simp [errW_none, errW_some] <;> rfl)) | (simp [*, errW_none, errW_some] <;> rfl), by repeat (first | (with_reducible first | exact HB.out | apply below_alloc | apply pw_below_drewN | apply below_drew1 | refine below_set ?_ GE162.out | refine below_set ?_ GE163.out) | exact HB.out)⟩
      · replace c20 := Bool.eq_false_iff.mpr c20
        subst c20
        have H1 : (some (mx x0_6 0)) = some r := by rw [if_neg (show ¬ (false = true) by decide)] at H; exact H
        clear H
        have H := H1
        clear H1
        obtain ⟨ji29, hji29⟩ : ∃ j_ : Int, (mx x0_6 0) = j_ := ⟨_, rfl⟩
        replace H : (some ji29) = some r := by first | (rw [hji29] at H; exact H) | (simp only [hji29] at H ⊢; exact H)
        (try rw [hji29] at A19)
        have hji29_ : (if x0_6 < 0 then 0 else x0_6) = ji29 := hji29
        obtain rfl := Option.some.inj H
        have hnb30 := NB162_163.out
        have hnc30 := NB163_162.out
        have hcz31_0 : wc.cell? ⟨gb162, 0, none⟩ = some (.int .i64 a1_0) := (blk_cell BK162.out 0).trans rfl
        have hcz31_1 : wc.cell? ⟨gb162, 1, none⟩ = some (.int .i64 a1_1) := (blk_cell BK162.out 1).trans rfl
        have hfz31_0 := blk_frozen BK162.out 0
        have hfz31_1 := blk_frozen BK162.out 1
        go_wp2_with (first | ((with_reducible refine gate_callee (f := 16) rfl ?_); refine goesL_ (some 21) rfl rfl Try.func16 (by kernel_rfl) rfl #[.agg #[.int .i64 a1_0, .int .i64 a1_1], .int .i64 a3] rfl (by (try simp only [List.map_toArray, List.map_cons, List.map_nil]); first | done | rfl | (simp only [List.length_drop, List.length_take]; rfl)) ?_; (with_reducible refine (valanceref05_Fixed.calls a1_0 a1_1 a3 false _ A19.out).mono ?_); rintro e w32 ⟨rfl, hb⟩; refine ⟨_, rfl, ?_⟩; have n0_ := Aside0.mk (blk_below (g := gb162) (o := .cells #[.int .i64 a1_0, .int .i64 a1_1] 24 (0, 0)) (by (with_reducible repeat (first | refine blk_drewN ?_ _ | refine blk_drew ?_ | refine blk_alloc ?_ _)); exact BK162.out) hb); have n1_ := Aside0.mk (blk_below (g := gb163) (o := .cells #[.int .i64 a2_0, .int .i64 a2_1] 24 (0, 0)) (by (with_reducible repeat (first | refine blk_drewN ?_ _ | refine blk_drew ?_ | refine blk_alloc ?_ _)); exact BK163.out) hb); have n2_ := Aside0.mk (below_step (by repeat (first | (with_reducible first | exact HB.out | apply below_alloc | apply pw_below_drewN | apply below_drew1 | refine below_set ?_ GE162.out | refine below_set ?_ GE163.out) | exact HB.out)) hb); clear BK162; clear BK163; clear HB; have BK162 := n0_; have BK163 := n1_; have HB := n2_; clear n0_ n1_ n2_; (try clear hb); (try clear hb2); (try clear hk); (try clear hi)))
        go_ret
        exact ⟨by first | rfl | (simp [errW_none, errW_some] <;> rfl) | (simp only [← hji29]; first | rfl | (simp [errW_none, errW_some] <;> rfl)) | (simp [*, errW_none, errW_some] <;> rfl), by repeat (first | (with_reducible first | exact HB.out | apply below_alloc | apply pw_below_drewN | apply below_drew1 | refine below_set ?_ GE162.out | refine below_set ?_ GE163.out) | exact HB.out)⟩

end Go.Proofs.Ytnmcefpnpfaklaa.V
