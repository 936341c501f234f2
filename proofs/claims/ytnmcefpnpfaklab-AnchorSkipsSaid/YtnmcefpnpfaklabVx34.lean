/- What the functions of this seat answer, as plain Lean functions, and that the calls come to just that (written by a program of this repo, over the kit's printer; Lean checks it). -/
import Derived.Test.YtnmcefpnpfaklabVx0
import Derived.Test.YtnmcefpnpfaklabVx17
import Derived.Test.YtnmcefpnpfaklabVx19
import Derived.Test.YtnmcefpnpfaklabVx21
namespace Go.Proofs.Ytnmcefpnpfaklab.V
open Go.RowKit Go.Proofs.YtnmcefpnpfaklabW.PrintWords Go.Proofs.YtnmcefpnpfaklabW.PrintLast Go.Proofs.YtnmcefpnpfaklabW.PrintMore
attribute [local go_sem] max2_int min2_int max_two min_two max_three min_three max_four min_four   -- for this text's walks alone
set_option linter.unusedVariables false
set_option linter.unusedSimpArgs false

/-! ### valancelaw12_AnchorSkips: function 13 -/
mutual
def valancelaw12_AnchorSkips.j0 : Nat → List (S56) → Bool → Bool → Int → Int → Option (Bool)
  | 0, _, _, _, _, _ => none
  | k + 1, x0, x5, x24, x349000, x349001 => if x24 = true then (some x5) else (if 0 ≤ (x0.length : Int) then (if ((x0.length : Int) : Int).toNat ≤ 35184372088832 then (valancelaw12_AnchorSkips.l0 k x0 x5 ([] : List (S56)) (List.replicate ((x0.length : Int) : Int).toNat 0) ([] : List Int) 0 x349000 x349001) else (none)) else (none))
def valancelaw12_AnchorSkips.l0 : Nat → List (S56) → Bool → List (S56) → List Int → List Int → Int → Int → Int → Option (Bool)
  | 0, _, _, _, _, _, _, _, _ => none
  | k + 1, x0, x5, x6, x7, x8, x9, x349000, x349001 => if x9 < (x0.length : Int) then (if 0 ≤ x9 then (if x9 < (x7.length : Int) then ((some (x7.set (x9 : Int).toNat (-1) : List Int)).bind fun y354 => (if (rd_T56 x0 x9).f2 = true then (valancelaw12_AnchorSkips.j2 k x0 x5 x6 y354 x8 x9 true x349000 x349001) else (if ((rd_T56 x0 x9).f0) ≥ 0 then (if 0 ≤ ((rd_T56 x0 x9).f0) then (if ((rd_T56 x0 x9).f0) < (x7.length : Int) then (valancelaw12_AnchorSkips.j2 k x0 x5 x6 y354 x8 x9 (decide ((rd y354 ((rd_T56 x0 x9).f0)) < 0)) x349000 x349001) else (none)) else (none)) else (valancelaw12_AnchorSkips.j2 k x0 x5 x6 y354 x8 x9 false x349000 x349001)))) else (none)) else (none)) else ((anchor_Pick.f k x0 x349000 x349001).bind fun t378 => ((anchor_Pick.f k x6 x349000 x349001).bind fun t379 => (if t379 ≥ (x8.length : Int) then (none) else (if x5 = true then (if t378 < 0 then (if t379 < 0 then (some true) else (if t378 ≥ 0 then (if t379 ≥ 0 then (if 0 ≤ t379 then (if t379 < (x8.length : Int) then (some ((rd x8 t379) == t378)) else (none)) else (none)) else (none)) else (none))) else (if t378 ≥ 0 then (if t379 ≥ 0 then (if 0 ≤ t379 then (if t379 < (x8.length : Int) then (some ((rd x8 t379) == t378)) else (none)) else (none)) else (none)) else (none))) else (none)))))
def valancelaw12_AnchorSkips.j2 : Nat → List (S56) → Bool → List (S56) → List Int → List Int → Int → Bool → Int → Int → Option (Bool)
  | 0, _, _, _, _, _, _, _, _, _ => none
  | k + 1, x0, x5, x6, x7, x8, x9, x10, x349000, x349001 => if x10 = true then (valancelaw12_AnchorSkips.l0 k x0 x5 x6 x7 x8 (wrap64 (x9 + 1)) x349000 x349001) else (if 0 ≤ x9 then (if x9 < (x0.length : Int) then (if ((rd_T56 x0 x9).f0) ≥ 0 then (if 0 ≤ ((rd_T56 x0 x9).f0) then (if ((rd_T56 x0 x9).f0) < (x7.length : Int) then (if x9 < (x7.length : Int) then (if x6.length < 4398046511104 then (if x8.length < 17592186044416 then (valancelaw12_AnchorSkips.l0 k x0 x5 (x6 ++ [(⟨rd x7 ((rd_T56 x0 x9).f0), (⟨(rd_T56 x0 x9).f1.f0, (rd_T56 x0 x9).f1.f1⟩ : S23), false⟩ : S56)]) (x7.set (x9 : Int).toNat (x6.length : Int)) (x8 ++ [x9]) (wrap64 (x9 + 1)) x349000 x349001) else (none)) else (none)) else (none)) else (none)) else (none)) else (if x9 < (x7.length : Int) then (if x6.length < 4398046511104 then (if x8.length < 17592186044416 then (valancelaw12_AnchorSkips.l0 k x0 x5 (x6 ++ [(⟨(-1), (⟨(rd_T56 x0 x9).f1.f0, (rd_T56 x0 x9).f1.f1⟩ : S23), false⟩ : S56)]) (x7.set (x9 : Int).toNat (x6.length : Int)) (x8 ++ [x9]) (wrap64 (x9 + 1)) x349000 x349001) else (none)) else (none)) else (none))) else (none)) else (none))
end
def valancelaw12_AnchorSkips.f (k : Nat) (l0 : List (S56)) (a1_0 : Int) (a1_1 : Int) : Option (Bool) := (valancelaw12_works.f k).bind fun t349 => (if t349 = true then (if (l0.length : Int) > 60 then (valancelaw12_AnchorSkips.j0 k l0 t349 true a1_0 a1_1) else ((anchor_Valid.f k l0).bind fun t350 => (valancelaw12_AnchorSkips.j0 k l0 t349 (!t350) a1_0 a1_1))) else (none))
theorem valancelaw12_AnchorSkips.mono_l : ∀ k, (∀ y0 y1 y2 y3 y4, LeO (valancelaw12_AnchorSkips.j0 k y0 y1 y2 y3 y4) (valancelaw12_AnchorSkips.j0 (k + 1) y0 y1 y2 y3 y4)) ∧ (∀ y0 y1 y2 y3 y4 y5 y6 y7, LeO (valancelaw12_AnchorSkips.l0 k y0 y1 y2 y3 y4 y5 y6 y7) (valancelaw12_AnchorSkips.l0 (k + 1) y0 y1 y2 y3 y4 y5 y6 y7)) ∧ (∀ y0 y1 y2 y3 y4 y5 y6 y7 y8, LeO (valancelaw12_AnchorSkips.j2 k y0 y1 y2 y3 y4 y5 y6 y7 y8) (valancelaw12_AnchorSkips.j2 (k + 1) y0 y1 y2 y3 y4 y5 y6 y7 y8))
  | 0 => ⟨fun _ _ _ _ _ r h => by simp [valancelaw12_AnchorSkips.j0] at h, fun _ _ _ _ _ _ _ _ r h => by simp [valancelaw12_AnchorSkips.l0] at h, fun _ _ _ _ _ _ _ _ _ r h => by simp [valancelaw12_AnchorSkips.j2] at h⟩
  | k + 1 => by
    obtain ⟨ih0, ih1, ih2⟩ := valancelaw12_AnchorSkips.mono_l k
    refine ⟨?_, ?_, ?_⟩
    · intro y0 y1 y2 y3 y4
      unfold valancelaw12_AnchorSkips.j0
      repeat' first
      | (with_reducible exact ih0 _ _ _ _ _)
      | (with_reducible exact ih1 _ _ _ _ _ _ _ _)
      | (with_reducible exact ih2 _ _ _ _ _ _ _ _ _)
      | (with_reducible exact anchor_Pick.mono _ _ _ _)
      | (with_reducible exact anchor_Valid.mono _ _)
      | (with_reducible exact valancelaw12_works.mono _)
      | (with_reducible exact LeO.refl _)
      | (with_reducible exact LeO.none _)
      | (with_reducible refine LeO.ite ?_ ?_)
      | (with_reducible refine LeO.bind ?_ (fun _ => ?_))
      | exact ih0 _ _ _ _ _
      | exact ih1 _ _ _ _ _ _ _ _
      | exact ih2 _ _ _ _ _ _ _ _ _
      | exact anchor_Pick.mono _ _ _ _
      | exact anchor_Valid.mono _ _
      | exact valancelaw12_works.mono _
      | exact LeO.none _
      | refine LeO.ite ?_ ?_
      | refine LeO.bind ?_ (fun _ => ?_)
    · intro y0 y1 y2 y3 y4 y5 y6 y7
      unfold valancelaw12_AnchorSkips.l0
      repeat' first
      | (with_reducible exact ih0 _ _ _ _ _)
      | (with_reducible exact ih1 _ _ _ _ _ _ _ _)
      | (with_reducible exact ih2 _ _ _ _ _ _ _ _ _)
      | (with_reducible exact anchor_Pick.mono _ _ _ _)
      | (with_reducible exact anchor_Valid.mono _ _)
      | (with_reducible exact valancelaw12_works.mono _)
      | (with_reducible exact LeO.refl _)
      | (with_reducible exact LeO.none _)
      | (with_reducible refine LeO.ite ?_ ?_)
      | (with_reducible refine LeO.bind ?_ (fun _ => ?_))
      | exact ih0 _ _ _ _ _
      | exact ih1 _ _ _ _ _ _ _ _
      | exact ih2 _ _ _ _ _ _ _ _ _
      | exact anchor_Pick.mono _ _ _ _
      | exact anchor_Valid.mono _ _
      | exact valancelaw12_works.mono _
      | exact LeO.none _
      | refine LeO.ite ?_ ?_
      | refine LeO.bind ?_ (fun _ => ?_)
    · intro y0 y1 y2 y3 y4 y5 y6 y7 y8
      unfold valancelaw12_AnchorSkips.j2
      repeat' first
      | (with_reducible exact ih0 _ _ _ _ _)
      | (with_reducible exact ih1 _ _ _ _ _ _ _ _)
      | (with_reducible exact ih2 _ _ _ _ _ _ _ _ _)
      | (with_reducible exact anchor_Pick.mono _ _ _ _)
      | (with_reducible exact anchor_Valid.mono _ _)
      | (with_reducible exact valancelaw12_works.mono _)
      | (with_reducible exact LeO.refl _)
      | (with_reducible exact LeO.none _)
      | (with_reducible refine LeO.ite ?_ ?_)
      | (with_reducible refine LeO.bind ?_ (fun _ => ?_))
      | exact ih0 _ _ _ _ _
      | exact ih1 _ _ _ _ _ _ _ _
      | exact ih2 _ _ _ _ _ _ _ _ _
      | exact anchor_Pick.mono _ _ _ _
      | exact anchor_Valid.mono _ _
      | exact valancelaw12_works.mono _
      | exact LeO.none _
      | refine LeO.ite ?_ ?_
      | refine LeO.bind ?_ (fun _ => ?_)
theorem valancelaw12_AnchorSkips.mono : ∀ a0 a1 a2 k, LeO (valancelaw12_AnchorSkips.f k a0 a1 a2) (valancelaw12_AnchorSkips.f (k + 1) a0 a1 a2) := by
  intro a0 a1 a2 k
  obtain ⟨ih0, ih1, ih2⟩ := valancelaw12_AnchorSkips.mono_l k
  unfold valancelaw12_AnchorSkips.f
  repeat' first
      | (with_reducible exact ih0 _ _ _ _ _)
      | (with_reducible exact ih1 _ _ _ _ _ _ _ _)
      | (with_reducible exact ih2 _ _ _ _ _ _ _ _ _)
      | (with_reducible exact anchor_Pick.mono _ _ _ _)
      | (with_reducible exact anchor_Valid.mono _ _)
      | (with_reducible exact valancelaw12_works.mono _)
      | (with_reducible exact LeO.refl _)
      | (with_reducible exact LeO.none _)
      | (with_reducible refine LeO.ite ?_ ?_)
      | (with_reducible refine LeO.bind ?_ (fun _ => ?_))
      | exact ih0 _ _ _ _ _
      | exact ih1 _ _ _ _ _ _ _ _
      | exact ih2 _ _ _ _ _ _ _ _ _
      | exact anchor_Pick.mono _ _ _ _
      | exact anchor_Valid.mono _ _
      | exact valancelaw12_works.mono _
      | exact LeO.none _
      | refine LeO.ite ?_ ?_
      | refine LeO.bind ?_ (fun _ => ?_)
set_option maxHeartbeats 8000000 in
set_option maxRecDepth 100000 in
theorem valancelaw12_AnchorSkips.calls (k : Nat) (A0 : Option Addr) (c0 : Nat) (l0 : List (S56)) (a1_0 : Int) (a1_1 : Int) (r : Bool) (w : World) (hr0 : Kd.C k56 w A0 l0.length l0) (hc0 : l0.length ≤ c0) (h : valancelaw12_AnchorSkips.f k l0 a1_0 a1_1 = some r) :
    Calls Try.prog 13 #[.slice A0 l0.length c0, .agg #[.int .i64 a1_0, .int .i64 a1_1]] w fun e w' => e = .returned (.bool r) ∧ Below w.heap.size w w' := by
  have hu23 := Try.underlying23
  have hu56 := Try.underlying56
  have HR0 := Aside0.mk hr0
  have HC0 := Aside0.mk hc0
  clear hr0 hc0
  have HB := Aside0.mk (Below.refl w.heap.size w)
  have H : ((valancelaw12_works.f k).bind fun t349 => (if t349 = true then (if (l0.length : Int) > 60 then (valancelaw12_AnchorSkips.j0 k l0 t349 true a1_0 a1_1) else ((anchor_Valid.f k l0).bind fun t350 => (valancelaw12_AnchorSkips.j0 k l0 t349 (!t350) a1_0 a1_1))) else (none))) = some r := h
  clear h
  replace H := Option.bind_eq_some_iff.mp H
  obtain ⟨t349, A30, H⟩ := H
  replace H : (if t349 = true then (if (l0.length : Int) > 60 then (valancelaw12_AnchorSkips.j0 k l0 t349 true a1_0 a1_1) else ((anchor_Valid.f k l0).bind fun t350 => (valancelaw12_AnchorSkips.j0 k l0 t349 (!t350) a1_0 a1_1))) else (none)) = some r := H
  have A3 := Aside0.mk A30
  clear A30
  by_cases c4 : t349 = true
  · subst c4
    have H1 : (if (l0.length : Int) > 60 then (valancelaw12_AnchorSkips.j0 k l0 true true a1_0 a1_1) else ((anchor_Valid.f k l0).bind fun t350 => (valancelaw12_AnchorSkips.j0 k l0 true (!t350) a1_0 a1_1))) = some r := by rw [if_pos rfl] at H; exact H
    clear H
    have H := H1
    clear H1
    have HC5 := Aside0.mk H
    clear H
    go_enter Try.func13, Try.ntmps13
    go_upto_region 4 with (first | ((with_reducible refine gate_dst (N := 3) rfl ?_); refine box_event ?hg (N := 3) ?hd (cs := #[.int .i64 a1_0, .int .i64 a1_1]) (t := 23) ?hr ?_; (case hd => rfl); (case hg => rfl); (case hr => first | (go_simp; done) | (go_simp; rfl)); intro gb348 hg w6 hbox hb; have n0_ := Aside0.mk (below_step (by repeat (first | (with_reducible first | exact HB.out | apply below_alloc | apply pw_below_drewN | apply below_drew1) | exact HB.out)) hb); have n1_ := Aside0.mk (hbox); have n2_ := Aside0.mk ((by rw [hg]; exact (below_size (by repeat (first | (with_reducible first | exact HB.out | apply below_alloc | apply pw_below_drewN | apply below_drew1) | exact HB.out))) : w.heap.size ≤ gb348)); have n3_ := Aside0.mk ((by rw [hg]; exact (below_size (by repeat (first | (with_reducible first | exact HB.out | apply below_alloc | apply pw_below_drewN | apply below_drew1) | exact HB.out))) : w.heap.size ≤ gb348)); clear HB; have HB := n0_; have BK348 := n1_; have GW348 := n2_; have GE348 := n3_; clear n0_ n1_ n2_ n3_; clear hb hbox hg) | ((with_reducible refine gate_callee (f := 24) rfl ?_); refine goesL_ (some 14) rfl rfl Try.func24 (by kernel_rfl) rfl #[] rfl (by (try simp only [List.map_toArray, List.map_cons, List.map_nil]); first | done | rfl | (simp only [List.length_drop, List.length_take]; rfl)) ?_; (with_reducible refine (valancelaw12_works.calls k  true _ A3.out).mono ?_); rintro e w7 ⟨rfl, hb⟩; refine ⟨_, rfl, ?_⟩; have n0_ := Aside0.mk (blk_below (g := gb348) (o := .cells #[.int .i64 a1_0, .int .i64 a1_1] 23 (0, 0)) (by (with_reducible repeat (first | refine blk_drewN ?_ _ | refine blk_drew ?_ | refine blk_alloc ?_ _)); exact BK348.out) hb); have n1_ := Aside0.mk (below_step (by repeat (first | (with_reducible first | exact HB.out | apply below_alloc | apply pw_below_drewN | apply below_drew1 | refine below_set ?_ GE348.out) | exact HB.out)) hb); clear BK348; clear HB; have BK348 := n0_; have HB := n1_; clear n0_ n1_; (try clear hb); (try clear hb2); (try clear hk); (try clear hi)))
    (try simp only [Act.put, List.setIfInBounds_toArray, List.set_cons_zero, List.set_cons_succ])
    go_cut [24] (fun v24 wc => ∃ (kq : Nat) (x24_4 : Bool), v24 = .bool x24_4 ∧ Aside0 (valancelaw12_AnchorSkips.j0 kq l0 true x24_4 a1_0 a1_1 = some r) ∧ Aside0 (kq ≤ k) ∧ Aside0 (wc.heap[gb348]? = some (.cells #[.int .i64 a1_0, .int .i64 a1_1] 23 (0, 0))) ∧ Aside0 (Below w.heap.size w wc))
    case first =>
      have H := HC5.out
      clear HC5
      by_cases c8 : (l0.length : Int) > 60
      · rw [if_pos c8] at H
        have c8b0 : decide (60 < (l0.length : Int)) = true := decide_eq_true c8
        have c8b1 : decide (60 < l0.length) = true := decide_eq_true (by omega)
        clear c8
        (first | rw [c8b0] | (simp only [i64_w, i32_w]; rw [c8b0]) | skip)
        have H' := Aside0.mk H
        clear H
        go_wp2
        go_meet
        case rel => exact ⟨_, (true), (by first | rfl | (simp; done) | (simp [*]; done)), H', ⟨by first | omega | exact Nat.le_refl _⟩, ⟨by (with_reducible repeat (first | refine blk_drewN ?_ _ | refine blk_drew ?_ | refine blk_alloc ?_ _)); exact BK348.out⟩, ⟨by repeat (first | (with_reducible first | exact HB.out | apply below_alloc | apply pw_below_drewN | apply below_drew1 | refine below_set ?_ GE348.out) | exact HB.out)⟩⟩
      · rw [if_neg c8] at H
        have c8b0 : decide (60 < (l0.length : Int)) = false := decide_eq_false c8
        have c8b1 : decide (60 < l0.length) = false := decide_eq_false (by omega)
        clear c8
        (first | rw [c8b0] | (simp only [i64_w, i32_w]; rw [c8b0]) | skip)
        replace H := Option.bind_eq_some_iff.mp H
        obtain ⟨t350, A90, H⟩ := H
        replace H : (valancelaw12_AnchorSkips.j0 k l0 true (!t350) a1_0 a1_1) = some r := H
        have A9 := Aside0.mk A90
        clear A90
        have H' := Aside0.mk H
        clear H
        go_wp2_with (first | (go_at_call 30; (with_reducible refine (anchor_Valid.calls k _ _ l0 t350 _ ?side1 ?side2 A9.out).mono ?_); (case side1 => repeat (first | exact (Kd.C_below HR0.out HB.out) | (with_reducible refine Kd.C_alloc ?_ _) | (with_reducible refine Kd.C_drewN ?_ _) | (with_reducible refine Kd.C_drew ?_))); (case side2 => exact HC0.out); rintro e w10 ⟨rfl, hb⟩; have n0_ := Aside0.mk (blk_below (g := gb348) (o := .cells #[.int .i64 a1_0, .int .i64 a1_1] 23 (0, 0)) (by (with_reducible repeat (first | refine blk_drewN ?_ _ | refine blk_drew ?_ | refine blk_alloc ?_ _)); exact BK348.out) hb); have n1_ := Aside0.mk (below_step (by repeat (first | (with_reducible first | exact HB.out | apply below_alloc | apply pw_below_drewN | apply below_drew1 | refine below_set ?_ GE348.out) | exact HB.out)) hb); clear BK348; clear HB; have BK348 := n0_; have HB := n1_; clear n0_ n1_; (try clear hb); (try clear hb2); (try clear hk); (try clear hi)))
        go_meet
        case rel => exact ⟨_, (!t350), (by first | rfl | (simp; done) | (simp [*]; done)), H', ⟨by first | omega | exact Nat.le_refl _⟩, ⟨by (with_reducible repeat (first | refine blk_drewN ?_ _ | refine blk_drew ?_ | refine blk_alloc ?_ _)); exact BK348.out⟩, ⟨by repeat (first | (with_reducible first | exact HB.out | apply below_alloc | apply pw_below_drewN | apply below_drew1 | refine below_set ?_ GE348.out) | exact HB.out)⟩⟩
    case rest =>
      clear HC5
      try clear c1
      try clear c2
      try clear p2
      try clear c4
      try clear c8
      try clear c8b0
      try clear c8b1
      obtain ⟨kq, x24_4, rfl, HA, HJ4, BK348, HB⟩ := hcut
      cases kq with
      | zero => exact absurd HA.out (by simp [valancelaw12_AnchorSkips.j0])
      | succ kj4 =>
        have H := HA.out
        clear HA
        simp only [valancelaw12_AnchorSkips.j0] at H
        by_cases c11 : x24_4 = true
        · subst c11
          have H1 : (some true) = some r := by rw [if_pos rfl] at H; exact H
          clear H
          have H := H1
          clear H1
          obtain rfl := Option.some.inj H
          go_wp2
          go_ret
          exact ⟨by first | rfl | (simp [errW_none, errW_some] <;> rfl) | (simp [*, errW_none, errW_some] <;> rfl), by repeat (first | (with_reducible first | exact HB.out | apply below_alloc | apply pw_below_drewN | apply below_drew1 | refine below_set ?_ GE348.out) | exact HB.out)⟩
        · replace c11 := Bool.eq_false_iff.mpr c11
          subst c11
          have H1 : (if 0 ≤ (l0.length : Int) then (if ((l0.length : Int) : Int).toNat ≤ 35184372088832 then (valancelaw12_AnchorSkips.l0 kj4 l0 true ([] : List (S56)) (List.replicate ((l0.length : Int) : Int).toNat 0) ([] : List Int) 0 a1_0 a1_1) else (none)) else (none)) = some r := by rw [if_neg (show ¬ (false = true) by decide)] at H; exact H
          clear H
          have H := H1
          clear H1
          by_cases c12 : 0 ≤ (l0.length : Int)
          · rw [if_pos c12] at H
            have c12b0 := eq_true c12
            have c12b1 : decide (0 ≤ (l0.length : Int)) = true := decide_eq_true c12
            clear c12
            by_cases c13 : ((l0.length : Int) : Int).toNat ≤ 35184372088832
            · rw [if_pos c13] at H
              have c13b0 := eq_true c13
              have c13b1 : decide (((l0.length : Int) : Int).toNat ≤ 35184372088832) = true := decide_eq_true c13
              clear c13
              obtain ⟨y351, hy351⟩ : ∃ y_ : List Int, y_ = (List.replicate ((l0.length : Int) : Int).toNat 0) := ⟨_, rfl⟩
              replace H : (valancelaw12_AnchorSkips.l0 kj4 l0 true ([] : List (S56)) y351 ([] : List Int) 0 a1_0 a1_1) = some r := by first | (rw [hy351]; with_reducible exact H) | (have H2_ := (Option.bind_some _ _).symm.trans H; rw [hy351]; with_reducible exact H2_) | (have H2_ := (Option.bind_some _ _).symm.trans H; with_reducible exact H2_) | with_reducible exact H | (rw [hy351]; exact H) | exact H
              have Ny351 := Aside0.mk hy351
              clear hy351
              have H' := Aside0.mk H
              clear H
              go_wp2_with (first | ((with_reducible refine gate_dst (N := 28) rfl ?_); refine Kd.R_make (Kd.int .i64) _ 3 rfl (N := 28) rfl 63 _ _ rfl (l0.length : Int) rfl rfl Try.underlying63 (.int .i64 0) 8 info3 rfl (by decide) (by omega) 0 (ok := fun _ => True) (okp := fun _ => True) rfl (fun _ hk => hk) trivial (of_decide_eq_true (by first | (with_reducible assumption) | assumption)) (Nat.le_trans (Nat.mul_le_mul_right _ (of_decide_eq_true (by first | (with_reducible assumption) | assumption) : (l0.length : Int).toNat ≤ 35184372088832)) (by omega)) (Below.refl _ _) (Nat.le_refl _) ?_; intro v352 w14 ho15 hb hg_ hnew_; clear hg_ hnew_; (first | rw [← Ny351.out] at ho15 | (simp only [Int.reduceToNat] at ho15; rw [← Ny351.out] at ho15)); have n0_ := Aside0.mk (Kd.R_lower ho15 (below_size (by repeat (first | (with_reducible first | exact HB.out | apply below_alloc | apply pw_below_drewN | apply below_drew1 | refine below_set ?_ GE348.out) | exact HB.out)))); have n1_ := Aside0.mk (blk_below (g := gb348) (o := .cells #[.int .i64 a1_0, .int .i64 a1_1] 23 (0, 0)) (by (with_reducible repeat (first | refine blk_drewN ?_ _ | refine blk_drew ?_ | refine blk_alloc ?_ _)); exact BK348.out) hb); have n2_ := Aside0.mk (below_step (by repeat (first | (with_reducible first | exact HB.out | apply below_alloc | apply pw_below_drewN | apply below_drew1 | refine below_set ?_ GE348.out) | exact HB.out)) hb); clear BK348; clear HB; have HO353 := n0_; have BK348 := n1_; have HB := n2_; clear n0_ n1_ n2_; clear hb ho15))
              go_loopg [6, 8, 9] kj4 (fun kq v6 v8 v9 w' => ∃ (x6_2 : List (S56)) (x7_2 : List Int) (x8_2 : List Int) (x9_2 : Int), v9 = .int .i64 x9_2 ∧ Aside0 (valancelaw12_AnchorSkips.l0 kq l0 true x6_2 x7_2 x8_2 x9_2 a1_0 a1_1 = some r) ∧ Aside0 (kq ≤ kj4) ∧ Aside0 (Kd.R k56 56 w' w.heap.size (fun _ => True) v6 x6_2) ∧ Aside0 (Kd.R (Kd.int .i64) 3 w' w.heap.size (fun k_ => some k_ ≠ (v8 : Value).ownBlock) v352 x7_2) ∧ Aside0 (Kd.R (Kd.int .i64) 3 w' w.heap.size (fun k_ => some k_ ≠ (v352 : Value).ownBlock) v8 x8_2) ∧ Aside0 (w'.heap[gb348]? = some (.cells #[.int .i64 a1_0, .int .i64 a1_1] 23 (0, 0))) ∧ Aside0 (Below w.heap.size w w'))
              case atStart => exact ⟨(([] : List (S56))), (y351), (([] : List Int)), (0), (by first | rfl | (simp; done) | (simp [*]; done)), H', ⟨Nat.le_refl _⟩, ⟨by first | exact Kd.R_nil _ _ _ _ _ | exact Kd.N_nil _ _ _ _ _ | exact Kd.V_nil _ _ _ _ _ | exact Kd.Q_nil _ _ _ _ _ | exact Kd.S_nil _ _ _ _ _⟩, ⟨by (with_reducible repeat (first | apply Kd.R_alloc | apply Kd.R_drewN | apply Kd.R_drew)); exact Kd.R_mono HO353.out (fun _ hk => (by simp [Value.ownBlock]))⟩, ⟨by first | exact Kd.R_nil _ _ _ _ _ | exact Kd.N_nil _ _ _ _ _ | exact Kd.V_nil _ _ _ _ _ | exact Kd.Q_nil _ _ _ _ _ | exact Kd.S_nil _ _ _ _ _⟩, ⟨by (with_reducible repeat (first | refine blk_drewN ?_ _ | refine blk_drew ?_ | refine blk_alloc ?_ _)); exact BK348.out⟩, ⟨by repeat (first | (with_reducible first | exact HB.out | apply below_alloc | apply pw_below_drewN | apply below_drew1 | refine below_set ?_ GE348.out) | exact HB.out)⟩⟩
              case round =>
                clear H'
                try clear c1
                try clear c2
                try clear p2
                try clear c4
                try clear c8
                try clear c8b0
                try clear c8b1
                try clear c11
                try clear c12
                try clear c12b0
                try clear c12b1
                try clear c13
                try clear c13b0
                try clear c13b1
                try clear p2
                obtain ⟨x6_2, x7_2, x8_2, x9_2, rfl, HA, HK2, HO_6, HO_7, HO_8, BK348, HB⟩ := hrel
                cases gk with
                | zero => exact absurd HA.out (by simp [valancelaw12_AnchorSkips.l0])
                | succ k2 =>
                  have H := HA.out
                  clear HA
                  simp only [valancelaw12_AnchorSkips.l0] at H
                  by_cases c16 : x9_2 < (l0.length : Int)
                  · rw [if_pos c16] at H
                    have c16b0 : decide (x9_2 < (l0.length : Int)) = true := decide_eq_true c16
                    clear c16
                    by_cases c17 : 0 ≤ x9_2
                    · rw [if_pos c17] at H
                      have c17b0 : decide (0 ≤ x9_2) = true := decide_eq_true c17
                      clear c17
                      by_cases c18 : x9_2 < (x7_2.length : Int)
                      · rw [if_pos c18] at H
                        have c18b0 : decide (x9_2 < (x7_2.length : Int)) = true := decide_eq_true c18
                        clear c18
                        obtain ⟨y354, hy354⟩ : ∃ y_ : List Int, y_ = (x7_2.set (x9_2 : Int).toNat (-1)) := ⟨_, rfl⟩
                        replace H : (if (rd_T56 l0 x9_2).f2 = true then (valancelaw12_AnchorSkips.j2 k2 l0 true x6_2 y354 x8_2 x9_2 true a1_0 a1_1) else (if ((rd_T56 l0 x9_2).f0) ≥ 0 then (if 0 ≤ ((rd_T56 l0 x9_2).f0) then (if ((rd_T56 l0 x9_2).f0) < (x7_2.length : Int) then (valancelaw12_AnchorSkips.j2 k2 l0 true x6_2 y354 x8_2 x9_2 (decide ((rd y354 ((rd_T56 l0 x9_2).f0)) < 0)) a1_0 a1_1) else (none)) else (none)) else (valancelaw12_AnchorSkips.j2 k2 l0 true x6_2 y354 x8_2 x9_2 false a1_0 a1_1))) = some r := by first | (rw [hy354]; with_reducible exact H) | (have H2_ := (Option.bind_some _ _).symm.trans H; rw [hy354]; with_reducible exact H2_) | (have H2_ := (Option.bind_some _ _).symm.trans H; with_reducible exact H2_) | with_reducible exact H | (rw [hy354]; exact H) | exact H
                        have Ny354 := Aside0.mk hy354
                        clear hy354
                        have HC20 := Aside0.mk H
                        clear H
                        have p19 : 0 ≤ (x9_2 : Int) := of_decide_eq_true (by first | (with_reducible assumption) | assumption)
                        have q19 : (x9_2 : Int) < ((x7_2.length : Int) : Int) := of_decide_eq_true (by first | (with_reducible assumption) | assumption)
                        obtain ⟨go19, co19, eo19, gb19, gl19, cl19, HG19⟩ := Kd.R_form HO_7.out (by omega)
                        (first | cases eo19 | (injection eo19 with ea_ en_ ec_; (first | subst ea_ | (injection ea_ with ea_; subst ea_)); subst ec_; clear en_))
                        have GB19 := Aside0.mk gb19
                        have GG19 := Aside0.mk HG19
                        clear gb19 gl19 HG19
                        obtain ⟨hx19_0, hf19_0⟩ := Kd.R_celln 0 HO_7.out (x9_2 : Int) p19 q19
                        replace p19 := eq_true p19
                        replace q19 := eq_true q19
                        have HP21 := Kd.R_putg HO_7.out (x9_2 : Int) (-1)
                        go_upto_region 13 with (first | ((with_reducible refine gate_store (t := 3) (p := 37) rfl ?_); refine store_event (t := 3) (p := 37) (v := ?vo_w22) (w1 := (wr.setCell ⟨go19, (x9_2 : Int).toNat, none⟩ (.int .i64 (-1)))) ?hg ?ho ?hn ?hr ?_; (case ho => rfl); (case hg => rfl); (case hn => rfl); (case hr => first | (go_simp; done) | (go_simp; rfl)); intro w22 hw; have hg : wr.grownBy w22 (some go19) := (by rw [hw]; exact HP21.2); have hp_ : Kd.R (Kd.int .i64) 3 w22 w.heap.size (fun k_ => some k_ ≠ (u8 : Value).ownBlock) (.slice (some ⟨go19, 0, none⟩) x7_2.length co19) y354 := (by rw [hw, Ny354.out]; exact HP21.1); clear HP21; have n0_ := Aside0.mk (Kd.R_over' (v := (.slice (some ⟨go19, 0, none⟩) x7_2.length co19)) (by (with_reducible repeat (first | apply Kd.R_alloc | apply Kd.R_drewN | apply Kd.R_drew)); exact HO_6.out) (Kd.R_typed HO_7.out) (by decide) hg); have n1_ := Aside0.mk (hp_); have n2_ := Aside0.mk (Kd.R_after (v := (.slice (some ⟨go19, 0, none⟩) x7_2.length co19)) (v1 := (.slice (some ⟨go19, 0, none⟩) x7_2.length co19)) (ok := (fun _ => True)) (by (with_reducible repeat (first | apply Kd.R_alloc | apply Kd.R_drewN | apply Kd.R_drew)); exact Kd.R_mono HO_8.out (fun _ hk => ⟨trivial, hk⟩)) hg (.inl rfl)); have n3_ := Aside0.mk (blk_grown (g := gb348) (o := .cells #[.int .i64 a1_0, .int .i64 a1_1] 23 (0, 0)) (by (with_reducible repeat (first | refine blk_drewN ?_ _ | refine blk_drew ?_ | refine blk_alloc ?_ _)); exact BK348.out) hg (Kd.R_ne HO_7.out BK348.out (by decide))); have n4_ := Aside0.mk ((by rw [hw]; exact below_set (HB.out) GB19.out : Below w.heap.size w w22)); clear HO_6; clear HO_7; clear HO_8; clear BK348; clear HB; have HO_6 := n0_; have HO_7 := n1_; have HO_8 := n2_; have BK348 := n3_; have HB := n4_; clear n0_ n1_ n2_ n3_ n4_; clear hg hw hp_))
                        (try simp only [Act.put, List.setIfInBounds_toArray, List.set_cons_zero, List.set_cons_succ])
                        go_cut [10] (fun v10 wc => ∃ (kq : Nat) (x10_19 : Bool), v10 = .bool x10_19 ∧ Aside0 (valancelaw12_AnchorSkips.j2 kq l0 true x6_2 y354 x8_2 x9_2 x10_19 a1_0 a1_1 = some r) ∧ Aside0 (kq ≤ k2) ∧ Aside0 (Kd.R k56 56 wc w.heap.size (fun _ => True) u6 x6_2) ∧ Aside0 (Kd.R (Kd.int .i64) 3 wc w.heap.size (fun k_ => some k_ ≠ (u8 : Value).ownBlock) (.slice (some ⟨go19, 0, none⟩) x7_2.length co19) y354) ∧ Aside0 (Kd.R (Kd.int .i64) 3 wc w.heap.size (fun k_ => some k_ ≠ ((.slice (some ⟨go19, 0, none⟩) x7_2.length co19) : Value).ownBlock) u8 x8_2) ∧ Aside0 (wc.heap[gb348]? = some (.cells #[.int .i64 a1_0, .int .i64 a1_1] 23 (0, 0))) ∧ Aside0 (Below w.heap.size w wc))
                        case first =>
                          have H := HC20.out
                          clear HC20
                          obtain ⟨bq23, hbq23⟩ : ∃ b_ : Bool, b_ = ((rd_T56 l0 x9_2).f2) := ⟨_, rfl⟩
                          replace H : (if bq23 = true then (valancelaw12_AnchorSkips.j2 k2 l0 true x6_2 y354 x8_2 x9_2 true a1_0 a1_1) else (if ((rd_T56 l0 x9_2).f0) ≥ 0 then (if 0 ≤ ((rd_T56 l0 x9_2).f0) then (if ((rd_T56 l0 x9_2).f0) < (x7_2.length : Int) then (valancelaw12_AnchorSkips.j2 k2 l0 true x6_2 y354 x8_2 x9_2 (decide ((rd y354 ((rd_T56 l0 x9_2).f0)) < 0)) a1_0 a1_1) else (none)) else (none)) else (valancelaw12_AnchorSkips.j2 k2 l0 true x6_2 y354 x8_2 x9_2 false a1_0 a1_1))) = some r := by rw [← hbq23] at H; exact H
                          have Nbq23 := Aside0.mk hbq23
                          clear hbq23
                          (try rw [← Nbq23.out])
                          (try rw [← Nbq23.out] at hHeld)
                          by_cases c24 : bq23 = true
                          · subst c24
                            have H1 : (valancelaw12_AnchorSkips.j2 k2 l0 true x6_2 y354 x8_2 x9_2 true a1_0 a1_1) = some r := by rw [if_pos rfl] at H; exact H
                            clear H
                            have H := H1
                            clear H1
                            have H' := Aside0.mk H
                            clear H
                            have p355 : 0 ≤ (x9_2 : Int) := of_decide_eq_true (by first | (with_reducible assumption) | assumption)
                            have q355 : x9_2 < (l0.length : Int) := of_decide_eq_true (by first | (with_reducible assumption) | assumption)
                            obtain ⟨ad355, e355, hx355_0, hx355_1, hx355_2, hx355_3⟩ := at_T56 HR0.out x9_2 p355 q355
                            (try rw [← Nbq23.out] at hx355_3)
                            cases e355
                            replace hx355_0 := (HB.out.cell (World.block_lt_of_cell? w _ hx355_0)).trans hx355_0
                            replace hx355_1 := (HB.out.cell (World.block_lt_of_cell? w _ hx355_1)).trans hx355_1
                            replace hx355_2 := (HB.out.cell (World.block_lt_of_cell? w _ hx355_2)).trans hx355_2
                            replace hx355_3 := (HB.out.cell (World.block_lt_of_cell? w _ hx355_3)).trans hx355_3
                            replace p355 := eq_true p355
                            replace q355 := eq_true q355
                            go_wp2
                            go_meet
                            case rel => exact ⟨_, (true), (by first | rfl | (simp; done) | (simp [*]; done)), H', ⟨by have := HJ4.out; have := HK2.out; first | omega | exact Nat.le_refl _⟩, ⟨by (with_reducible repeat (first | apply Kd.R_alloc | apply Kd.R_drewN | apply Kd.R_drew)); exact HO_6.out⟩, ⟨by (with_reducible repeat (first | apply Kd.R_alloc | apply Kd.R_drewN | apply Kd.R_drew)); exact HO_7.out⟩, ⟨by (with_reducible repeat (first | apply Kd.R_alloc | apply Kd.R_drewN | apply Kd.R_drew)); exact Kd.R_mono HO_8.out (fun _ hk => hk.2)⟩, ⟨by (with_reducible repeat (first | refine blk_drewN ?_ _ | refine blk_drew ?_ | refine blk_alloc ?_ _)); exact BK348.out⟩, ⟨by repeat (first | (with_reducible first | exact HB.out | apply below_alloc | apply pw_below_drewN | apply below_drew1 | refine below_set ?_ GE348.out) | exact HB.out)⟩⟩
                          · replace c24 := Bool.eq_false_iff.mpr c24
                            subst c24
                            have H1 : (if ((rd_T56 l0 x9_2).f0) ≥ 0 then (if 0 ≤ ((rd_T56 l0 x9_2).f0) then (if ((rd_T56 l0 x9_2).f0) < (x7_2.length : Int) then (valancelaw12_AnchorSkips.j2 k2 l0 true x6_2 y354 x8_2 x9_2 (decide ((rd y354 ((rd_T56 l0 x9_2).f0)) < 0)) a1_0 a1_1) else (none)) else (none)) else (valancelaw12_AnchorSkips.j2 k2 l0 true x6_2 y354 x8_2 x9_2 false a1_0 a1_1)) = some r := by rw [if_neg (show ¬ (false = true) by decide)] at H; exact H
                            clear H
                            have H := H1
                            clear H1
                            by_cases c25 : ((rd_T56 l0 x9_2).f0) ≥ 0
                            · rw [if_pos c25] at H
                              have c25b0 : decide (0 ≤ ((rd_T56 l0 x9_2).f0)) = true := decide_eq_true c25
                              clear c25
                              by_cases c26 : 0 ≤ ((rd_T56 l0 x9_2).f0)
                              · rw [if_pos c26] at H
                                have c26b0 : decide (0 ≤ ((rd_T56 l0 x9_2).f0)) = true := decide_eq_true c26
                                clear c26
                                by_cases c27 : ((rd_T56 l0 x9_2).f0) < (x7_2.length : Int)
                                · rw [if_pos c27] at H
                                  have c27b0 : decide (((rd_T56 l0 x9_2).f0) < (x7_2.length : Int)) = true := decide_eq_true c27
                                  clear c27
                                  have H' := Aside0.mk H
                                  clear H
                                  have p355 : 0 ≤ (x9_2 : Int) := of_decide_eq_true (by first | (with_reducible assumption) | assumption)
                                  have q355 : x9_2 < (l0.length : Int) := of_decide_eq_true (by first | (with_reducible assumption) | assumption)
                                  obtain ⟨ad355, e355, hx355_0, hx355_1, hx355_2, hx355_3⟩ := at_T56 HR0.out x9_2 p355 q355
                                  (try rw [← Nbq23.out] at hx355_3)
                                  cases e355
                                  replace hx355_0 := (HB.out.cell (World.block_lt_of_cell? w _ hx355_0)).trans hx355_0
                                  replace hx355_1 := (HB.out.cell (World.block_lt_of_cell? w _ hx355_1)).trans hx355_1
                                  replace hx355_2 := (HB.out.cell (World.block_lt_of_cell? w _ hx355_2)).trans hx355_2
                                  replace hx355_3 := (HB.out.cell (World.block_lt_of_cell? w _ hx355_3)).trans hx355_3
                                  replace p355 := eq_true p355
                                  replace q355 := eq_true q355
                                  have p356 : 0 ≤ (x9_2 : Int) := of_decide_eq_true (by first | (with_reducible assumption) | assumption)
                                  have q356 : x9_2 < (l0.length : Int) := of_decide_eq_true (by first | (with_reducible assumption) | assumption)
                                  obtain ⟨ad356, e356, hx356_0, hx356_1, hx356_2, hx356_3⟩ := at_T56 HR0.out x9_2 p356 q356
                                  (try rw [← Nbq23.out] at hx356_3)
                                  obtain rfl : ad355 = ad356 := (by injection e356)
                                  replace hx356_0 := (HB.out.cell (World.block_lt_of_cell? w _ hx356_0)).trans hx356_0
                                  replace hx356_1 := (HB.out.cell (World.block_lt_of_cell? w _ hx356_1)).trans hx356_1
                                  replace hx356_2 := (HB.out.cell (World.block_lt_of_cell? w _ hx356_2)).trans hx356_2
                                  replace hx356_3 := (HB.out.cell (World.block_lt_of_cell? w _ hx356_3)).trans hx356_3
                                  replace p356 := eq_true p356
                                  replace q356 := eq_true q356
                                  have p357 : 0 ≤ (x9_2 : Int) := of_decide_eq_true (by first | (with_reducible assumption) | assumption)
                                  have q357 : x9_2 < (l0.length : Int) := of_decide_eq_true (by first | (with_reducible assumption) | assumption)
                                  obtain ⟨ad357, e357, hx357_0, hx357_1, hx357_2, hx357_3⟩ := at_T56 HR0.out x9_2 p357 q357
                                  (try rw [← Nbq23.out] at hx357_3)
                                  obtain rfl : ad355 = ad357 := (by injection e357)
                                  replace hx357_0 := (HB.out.cell (World.block_lt_of_cell? w _ hx357_0)).trans hx357_0
                                  replace hx357_1 := (HB.out.cell (World.block_lt_of_cell? w _ hx357_1)).trans hx357_1
                                  replace hx357_2 := (HB.out.cell (World.block_lt_of_cell? w _ hx357_2)).trans hx357_2
                                  replace hx357_3 := (HB.out.cell (World.block_lt_of_cell? w _ hx357_3)).trans hx357_3
                                  replace p357 := eq_true p357
                                  replace q357 := eq_true q357
                                  have p358 : 0 ≤ (((rd_T56 l0 x9_2).f0) : Int) := of_decide_eq_true (by first | (with_reducible assumption) | assumption)
                                  have q358 : ((rd_T56 l0 x9_2).f0) < (y354.length : Int) := (by have h_ : (((rd_T56 l0 x9_2).f0) : Int) < ((x7_2.length : Int) : Int) := of_decide_eq_true (by first | (with_reducible assumption) | assumption); first | (have e_ := (Kd.R_reads' HO_7.out).1; omega) | simpa only [Ny354.out, List.length_set] using h_)
                                  have ql358 : ((((rd_T56 l0 x9_2).f0) : Int) < ((x7_2.length : Int) : Int)) = True := eq_true (of_decide_eq_true (by first | (with_reducible assumption) | assumption))
                                  obtain ⟨ad358, e358, hx358_0⟩ := Kd.at_int (Kd.R_reads' HO_7.out).2.2 ((rd_T56 l0 x9_2).f0) p358 q358
                                  obtain rfl : (⟨go19, 0, none⟩ : Addr) = ad358 := (by injection e358)
                                  (first | simp only [add_plain] at hx358_0 | simp only [add_at] at hx358_0 | simp only [Addr.add, Nat.zero_add] at hx358_0 | skip)
                                  replace p358 := eq_true p358
                                  replace q358 := eq_true q358
                                  go_wp2
                                  go_meet
                                  case rel => exact ⟨_, (decide ((rd y354 ((rd_T56 l0 x9_2).f0)) < 0)), (by first | rfl | (simp; done) | (simp [*]; done)), H', ⟨by have := HJ4.out; have := HK2.out; first | omega | exact Nat.le_refl _⟩, ⟨by (with_reducible repeat (first | apply Kd.R_alloc | apply Kd.R_drewN | apply Kd.R_drew)); exact HO_6.out⟩, ⟨by (with_reducible repeat (first | apply Kd.R_alloc | apply Kd.R_drewN | apply Kd.R_drew)); exact HO_7.out⟩, ⟨by (with_reducible repeat (first | apply Kd.R_alloc | apply Kd.R_drewN | apply Kd.R_drew)); exact Kd.R_mono HO_8.out (fun _ hk => hk.2)⟩, ⟨by (with_reducible repeat (first | refine blk_drewN ?_ _ | refine blk_drew ?_ | refine blk_alloc ?_ _)); exact BK348.out⟩, ⟨by repeat (first | (with_reducible first | exact HB.out | apply below_alloc | apply pw_below_drewN | apply below_drew1 | refine below_set ?_ GE348.out) | exact HB.out)⟩⟩
                                · rw [if_neg c27] at H
                                  exact absurd H (by simp)
                              · rw [if_neg c26] at H
                                exact absurd H (by simp)
                            · rw [if_neg c25] at H
                              have c25b0 : decide (0 ≤ ((rd_T56 l0 x9_2).f0)) = false := decide_eq_false c25
                              clear c25
                              have H' := Aside0.mk H
                              clear H
                              have p355 : 0 ≤ (x9_2 : Int) := of_decide_eq_true (by first | (with_reducible assumption) | assumption)
                              have q355 : x9_2 < (l0.length : Int) := of_decide_eq_true (by first | (with_reducible assumption) | assumption)
                              obtain ⟨ad355, e355, hx355_0, hx355_1, hx355_2, hx355_3⟩ := at_T56 HR0.out x9_2 p355 q355
                              (try rw [← Nbq23.out] at hx355_3)
                              cases e355
                              replace hx355_0 := (HB.out.cell (World.block_lt_of_cell? w _ hx355_0)).trans hx355_0
                              replace hx355_1 := (HB.out.cell (World.block_lt_of_cell? w _ hx355_1)).trans hx355_1
                              replace hx355_2 := (HB.out.cell (World.block_lt_of_cell? w _ hx355_2)).trans hx355_2
                              replace hx355_3 := (HB.out.cell (World.block_lt_of_cell? w _ hx355_3)).trans hx355_3
                              replace p355 := eq_true p355
                              replace q355 := eq_true q355
                              have p356 : 0 ≤ (x9_2 : Int) := of_decide_eq_true (by first | (with_reducible assumption) | assumption)
                              have q356 : x9_2 < (l0.length : Int) := of_decide_eq_true (by first | (with_reducible assumption) | assumption)
                              obtain ⟨ad356, e356, hx356_0, hx356_1, hx356_2, hx356_3⟩ := at_T56 HR0.out x9_2 p356 q356
                              (try rw [← Nbq23.out] at hx356_3)
                              obtain rfl : ad355 = ad356 := (by injection e356)
                              replace hx356_0 := (HB.out.cell (World.block_lt_of_cell? w _ hx356_0)).trans hx356_0
                              replace hx356_1 := (HB.out.cell (World.block_lt_of_cell? w _ hx356_1)).trans hx356_1
                              replace hx356_2 := (HB.out.cell (World.block_lt_of_cell? w _ hx356_2)).trans hx356_2
                              replace hx356_3 := (HB.out.cell (World.block_lt_of_cell? w _ hx356_3)).trans hx356_3
                              replace p356 := eq_true p356
                              replace q356 := eq_true q356
                              go_wp2
                              go_meet
                              case rel => exact ⟨_, (false), (by first | rfl | (simp; done) | (simp [*]; done)), H', ⟨by have := HJ4.out; have := HK2.out; first | omega | exact Nat.le_refl _⟩, ⟨by (with_reducible repeat (first | apply Kd.R_alloc | apply Kd.R_drewN | apply Kd.R_drew)); exact HO_6.out⟩, ⟨by (with_reducible repeat (first | apply Kd.R_alloc | apply Kd.R_drewN | apply Kd.R_drew)); exact HO_7.out⟩, ⟨by (with_reducible repeat (first | apply Kd.R_alloc | apply Kd.R_drewN | apply Kd.R_drew)); exact Kd.R_mono HO_8.out (fun _ hk => hk.2)⟩, ⟨by (with_reducible repeat (first | refine blk_drewN ?_ _ | refine blk_drew ?_ | refine blk_alloc ?_ _)); exact BK348.out⟩, ⟨by repeat (first | (with_reducible first | exact HB.out | apply below_alloc | apply pw_below_drewN | apply below_drew1 | refine below_set ?_ GE348.out) | exact HB.out)⟩⟩
                        case rest =>
                          clear HC20
                          try clear c1
                          try clear p1
                          try clear q1
                          try clear hx1
                          try clear c2
                          try clear p2
                          try clear q2
                          try clear p3
                          try clear q3
                          try clear hx3
                          try clear c4
                          try clear c8
                          try clear c8b0
                          try clear c8b1
                          try clear c11
                          try clear c12
                          try clear c12b0
                          try clear c12b1
                          try clear c13
                          try clear c13b0
                          try clear c13b1
                          try clear c16
                          try clear c16b0
                          try clear c17
                          try clear c17b0
                          try clear c18
                          try clear c18b0
                          try clear p19
                          try clear q19
                          try clear hx19
                          try clear hf19
                          try clear q23
                          try clear c24
                          try clear c25
                          try clear c25b0
                          try clear c26
                          try clear c26b0
                          try clear c27
                          try clear c27b0
                          try clear hx19_0
                          try clear hx355_0
                          try clear hx355_1
                          try clear hx355_2
                          try clear hx355_3
                          try clear hx356_0
                          try clear hx356_1
                          try clear hx356_2
                          try clear hx356_3
                          try clear hx357_0
                          try clear hx357_1
                          try clear hx357_2
                          try clear hx357_3
                          try clear hx358_0
                          try clear p19
                          try clear p2
                          try clear p355
                          try clear p356
                          try clear p357
                          try clear p358
                          try clear q19
                          try clear q355
                          try clear q356
                          try clear q357
                          try clear q358
                          obtain ⟨kq, x10_19, rfl, HA, HJ19, HO_6, HO_7, HO_8, BK348, HB⟩ := hcut
                          have hl7_19 := (Kd.R_reads' HO_7.out).1
                          rw [hl7_19] at HO_7
                          (try simp only [hl7_19])
                          (try simp only [hl7_19] at BK348)
                          (try simp only [hl7_19] at HO_6)
                          (try simp only [hl7_19] at HO_8)
                          cases kq with
                          | zero => exact absurd HA.out (by simp [valancelaw12_AnchorSkips.j2])
                          | succ kj19 =>
                            have H := HA.out
                            clear HA
                            simp only [valancelaw12_AnchorSkips.j2] at H
                            by_cases c28 : x10_19 = true
                            · subst c28
                              have H1 : (valancelaw12_AnchorSkips.l0 kj19 l0 true x6_2 y354 x8_2 (wrap64 (x9_2 + 1)) a1_0 a1_1) = some r := by rw [if_pos rfl] at H; exact H
                              clear H
                              have H := H1
                              clear H1
                              have H' := Aside0.mk H
                              clear H
                              go_wp2
                              (try simp only [← hl7_19])
                              go_roundg kj19
                              case measure => have := HJ4.out; have := HK2.out; have := HJ19.out; omega
                              case rel => exact ⟨(x6_2), (y354), (x8_2), (wrap64 (x9_2 + 1)), (by first | rfl | (simp; done) | (simp [*]; done)), H', ⟨by have := HJ4.out; have := HK2.out; have := HJ19.out; omega⟩, ⟨by (try simp only [hl7_19]); (with_reducible repeat (first | apply Kd.R_alloc | apply Kd.R_drewN | apply Kd.R_drew)); exact HO_6.out⟩, ⟨by (try simp only [hl7_19]); (with_reducible repeat (first | apply Kd.R_alloc | apply Kd.R_drewN | apply Kd.R_drew)); exact HO_7.out⟩, ⟨by (try simp only [hl7_19]); (with_reducible repeat (first | apply Kd.R_alloc | apply Kd.R_drewN | apply Kd.R_drew)); exact HO_8.out⟩, ⟨by (try simp only [hl7_19]); (with_reducible repeat (first | refine blk_drewN ?_ _ | refine blk_drew ?_ | refine blk_alloc ?_ _)); exact BK348.out⟩, ⟨by repeat (first | (with_reducible first | exact HB.out | apply below_alloc | apply pw_below_drewN | apply below_drew1 | refine below_set ?_ GE348.out) | exact HB.out)⟩⟩
                            · replace c28 := Bool.eq_false_iff.mpr c28
                              subst c28
                              have H1 : (if 0 ≤ x9_2 then (if x9_2 < (l0.length : Int) then (if ((rd_T56 l0 x9_2).f0) ≥ 0 then (if 0 ≤ ((rd_T56 l0 x9_2).f0) then (if ((rd_T56 l0 x9_2).f0) < (y354.length : Int) then (if x9_2 < (y354.length : Int) then (if x6_2.length < 4398046511104 then (if x8_2.length < 17592186044416 then (valancelaw12_AnchorSkips.l0 kj19 l0 true (x6_2 ++ [(⟨rd y354 ((rd_T56 l0 x9_2).f0), (⟨(rd_T56 l0 x9_2).f1.f0, (rd_T56 l0 x9_2).f1.f1⟩ : S23), false⟩ : S56)]) (y354.set (x9_2 : Int).toNat (x6_2.length : Int)) (x8_2 ++ [x9_2]) (wrap64 (x9_2 + 1)) a1_0 a1_1) else (none)) else (none)) else (none)) else (none)) else (none)) else (if x9_2 < (y354.length : Int) then (if x6_2.length < 4398046511104 then (if x8_2.length < 17592186044416 then (valancelaw12_AnchorSkips.l0 kj19 l0 true (x6_2 ++ [(⟨(-1), (⟨(rd_T56 l0 x9_2).f1.f0, (rd_T56 l0 x9_2).f1.f1⟩ : S23), false⟩ : S56)]) (y354.set (x9_2 : Int).toNat (x6_2.length : Int)) (x8_2 ++ [x9_2]) (wrap64 (x9_2 + 1)) a1_0 a1_1) else (none)) else (none)) else (none))) else (none)) else (none)) = some r := by rw [if_neg (show ¬ (false = true) by decide)] at H; exact H
                              clear H
                              have H := H1
                              clear H1
                              by_cases c29 : 0 ≤ x9_2
                              · rw [if_pos c29] at H
                                have c29b0 : decide (0 ≤ x9_2) = true := decide_eq_true c29
                                clear c29
                                by_cases c30 : x9_2 < (l0.length : Int)
                                · rw [if_pos c30] at H
                                  have c30b0 : decide (x9_2 < (l0.length : Int)) = true := decide_eq_true c30
                                  clear c30
                                  by_cases c31 : ((rd_T56 l0 x9_2).f0) ≥ 0
                                  · rw [if_pos c31] at H
                                    have c31b0 : decide (0 ≤ ((rd_T56 l0 x9_2).f0)) = true := decide_eq_true c31
                                    clear c31
                                    by_cases c32 : 0 ≤ ((rd_T56 l0 x9_2).f0)
                                    · rw [if_pos c32] at H
                                      have c32b0 : decide (0 ≤ ((rd_T56 l0 x9_2).f0)) = true := decide_eq_true c32
                                      clear c32
                                      by_cases c33 : ((rd_T56 l0 x9_2).f0) < (y354.length : Int)
                                      · rw [if_pos c33] at H
                                        have c33b0 : decide (((rd_T56 l0 x9_2).f0) < (y354.length : Int)) = true := decide_eq_true c33
                                        clear c33
                                        by_cases c34 : x9_2 < (y354.length : Int)
                                        · rw [if_pos c34] at H
                                          have c34b0 : decide (x9_2 < (y354.length : Int)) = true := decide_eq_true c34
                                          clear c34
                                          obtain ⟨y362, hy362⟩ : ∃ y_ : List Int, y_ = (y354.set (x9_2 : Int).toNat (x6_2.length : Int)) := ⟨_, rfl⟩
                                          replace H : (if x6_2.length < 4398046511104 then (if x8_2.length < 17592186044416 then (valancelaw12_AnchorSkips.l0 kj19 l0 true (x6_2 ++ [(⟨rd y354 ((rd_T56 l0 x9_2).f0), (⟨(rd_T56 l0 x9_2).f1.f0, (rd_T56 l0 x9_2).f1.f1⟩ : S23), false⟩ : S56)]) y362 (x8_2 ++ [x9_2]) (wrap64 (x9_2 + 1)) a1_0 a1_1) else (none)) else (none)) = some r := by first | (rw [hy362]; with_reducible exact H) | (have H2_ := (Option.bind_some _ _).symm.trans H; rw [hy362]; with_reducible exact H2_) | (have H2_ := (Option.bind_some _ _).symm.trans H; with_reducible exact H2_) | with_reducible exact H | (rw [hy362]; exact H) | exact H
                                          have Ny362 := Aside0.mk hy362
                                          clear hy362
                                          by_cases c36 : x6_2.length < 4398046511104
                                          · rw [if_pos c36] at H
                                            have LMc36 := Aside0.mk c36
                                            clear c36
                                            obtain ⟨y364, hy364⟩ : ∃ y_ : List (S56), y_ = (x6_2 ++ [(⟨rd y354 ((rd_T56 l0 x9_2).f0), (⟨(rd_T56 l0 x9_2).f1.f0, (rd_T56 l0 x9_2).f1.f1⟩ : S23), false⟩ : S56)]) := ⟨_, rfl⟩
                                            replace H : (if x8_2.length < 17592186044416 then (valancelaw12_AnchorSkips.l0 kj19 l0 true y364 y362 (x8_2 ++ [x9_2]) (wrap64 (x9_2 + 1)) a1_0 a1_1) else (none)) = some r := by first | (rw [hy364]; with_reducible exact H) | (have H2_ := (Option.bind_some _ _).symm.trans H; rw [hy364]; with_reducible exact H2_) | (have H2_ := (Option.bind_some _ _).symm.trans H; with_reducible exact H2_) | with_reducible exact H | (rw [hy364]; exact H) | exact H
                                            have Ny364 := Aside0.mk hy364
                                            clear hy364
                                            by_cases c37 : x8_2.length < 17592186044416
                                            · rw [if_pos c37] at H
                                              have LMc37 := Aside0.mk c37
                                              clear c37
                                              obtain ⟨y367, hy367⟩ : ∃ y_ : List Int, y_ = (x8_2 ++ [x9_2]) := ⟨_, rfl⟩
                                              replace H : (valancelaw12_AnchorSkips.l0 kj19 l0 true y364 y362 y367 (wrap64 (x9_2 + 1)) a1_0 a1_1) = some r := by first | (rw [hy367]; with_reducible exact H) | (have H2_ := (Option.bind_some _ _).symm.trans H; rw [hy367]; with_reducible exact H2_) | (have H2_ := (Option.bind_some _ _).symm.trans H; with_reducible exact H2_) | with_reducible exact H | (rw [hy367]; exact H) | exact H
                                              have Ny367 := Aside0.mk hy367
                                              clear hy367
                                              have H' := Aside0.mk H
                                              clear H
                                              have p359 : 0 ≤ (x9_2 : Int) := of_decide_eq_true (by first | (with_reducible assumption) | assumption)
                                              have q359 : x9_2 < (l0.length : Int) := of_decide_eq_true (by first | (with_reducible assumption) | assumption)
                                              obtain ⟨ad359, e359, hx359_0, hx359_1, hx359_2, hx359_3⟩ := at_T56 HR0.out x9_2 p359 q359
                                              cases e359
                                              replace hx359_0 := (HB.out.cell (World.block_lt_of_cell? w _ hx359_0)).trans hx359_0
                                              replace hx359_1 := (HB.out.cell (World.block_lt_of_cell? w _ hx359_1)).trans hx359_1
                                              replace hx359_2 := (HB.out.cell (World.block_lt_of_cell? w _ hx359_2)).trans hx359_2
                                              replace hx359_3 := (HB.out.cell (World.block_lt_of_cell? w _ hx359_3)).trans hx359_3
                                              replace p359 := eq_true p359
                                              replace q359 := eq_true q359
                                              have p360 : 0 ≤ (x9_2 : Int) := of_decide_eq_true (by first | (with_reducible assumption) | assumption)
                                              have q360 : x9_2 < (l0.length : Int) := of_decide_eq_true (by first | (with_reducible assumption) | assumption)
                                              obtain ⟨ad360, e360, hx360_0, hx360_1, hx360_2, hx360_3⟩ := at_T56 HR0.out x9_2 p360 q360
                                              obtain rfl : ad359 = ad360 := (by injection e360)
                                              replace hx360_0 := (HB.out.cell (World.block_lt_of_cell? w _ hx360_0)).trans hx360_0
                                              replace hx360_1 := (HB.out.cell (World.block_lt_of_cell? w _ hx360_1)).trans hx360_1
                                              replace hx360_2 := (HB.out.cell (World.block_lt_of_cell? w _ hx360_2)).trans hx360_2
                                              replace hx360_3 := (HB.out.cell (World.block_lt_of_cell? w _ hx360_3)).trans hx360_3
                                              replace p360 := eq_true p360
                                              replace q360 := eq_true q360
                                              have p361 : 0 ≤ (((rd_T56 l0 x9_2).f0) : Int) := of_decide_eq_true (by first | (with_reducible assumption) | assumption)
                                              have q361 : ((rd_T56 l0 x9_2).f0) < (y354.length : Int) := of_decide_eq_true (by first | (with_reducible assumption) | assumption)
                                              obtain ⟨ad361, e361, hx361_0⟩ := Kd.at_int (Kd.R_reads' HO_7.out).2.2 ((rd_T56 l0 x9_2).f0) p361 q361
                                              obtain rfl : (⟨go19, 0, none⟩ : Addr) = ad361 := (by injection e361)
                                              (first | simp only [add_plain] at hx361_0 | simp only [add_at] at hx361_0 | simp only [Addr.add, Nat.zero_add] at hx361_0 | skip)
                                              replace p361 := eq_true p361
                                              replace q361 := eq_true q361
                                              obtain ⟨Ao38, co38, eo38⟩ := Kd.R_slice HO_6.out
                                              subst eo38
                                              have p35 : 0 ≤ (x9_2 : Int) := of_decide_eq_true (by first | (with_reducible assumption) | assumption)
                                              have q35 : (x9_2 : Int) < ((y354.length : Int) : Int) := of_decide_eq_true (by first | (with_reducible assumption) | assumption)
                                              obtain ⟨hx35_0, hf35_0⟩ := Kd.R_celln 0 HO_7.out (x9_2 : Int) p35 q35
                                              replace p35 := eq_true p35
                                              replace q35 := eq_true q35
                                              have HP39 := Kd.R_putg HO_7.out (x9_2 : Int) (x6_2.length : Int)
                                              go_wp2_with (first | ((with_reducible refine gate_store (t := 3) (p := 81) rfl ?_); refine store_event (t := 3) (p := 81) (v := ?vo_w40) (w1 := (wc.setCell ⟨go19, (x9_2 : Int).toNat, none⟩ (.int .i64 (x6_2.length : Int)))) ?hg ?ho ?hn ?hr ?_; (case ho => rfl); (case hg => rfl); (case hn => rfl); (case hr => first | (go_simp; done) | (go_simp; rfl)); intro w40 hw; have hg : wc.grownBy w40 (some go19) := (by rw [hw]; exact HP39.2); have hp_ : Kd.R (Kd.int .i64) 3 w40 w.heap.size (fun k_ => some k_ ≠ (u8 : Value).ownBlock) (.slice (some ⟨go19, 0, none⟩) y354.length co19) y362 := (by rw [hw, Ny362.out]; exact HP39.1); clear HP39; have n0_ := Aside0.mk (Kd.R_over' (v := (.slice (some ⟨go19, 0, none⟩) y354.length co19)) (by (with_reducible repeat (first | apply Kd.R_alloc | apply Kd.R_drewN | apply Kd.R_drew)); exact HO_6.out) (Kd.R_typed HO_7.out) (by decide) hg); have n1_ := Aside0.mk (hp_); have n2_ := Aside0.mk (Kd.R_after (v := (.slice (some ⟨go19, 0, none⟩) y354.length co19)) (v1 := (.slice (some ⟨go19, 0, none⟩) y354.length co19)) (ok := (fun _ => True)) (by (with_reducible repeat (first | apply Kd.R_alloc | apply Kd.R_drewN | apply Kd.R_drew)); exact Kd.R_mono HO_8.out (fun _ hk => ⟨trivial, hk⟩)) hg (.inl rfl)); have n3_ := Aside0.mk (blk_grown (g := gb348) (o := .cells #[.int .i64 a1_0, .int .i64 a1_1] 23 (0, 0)) (by (with_reducible repeat (first | refine blk_drewN ?_ _ | refine blk_drew ?_ | refine blk_alloc ?_ _)); exact BK348.out) hg (Kd.R_ne HO_7.out BK348.out (by decide))); have n4_ := Aside0.mk ((by rw [hw]; exact below_set (HB.out) GB19.out : Below w.heap.size w w40)); clear HO_6; clear HO_7; clear HO_8; clear BK348; clear HB; have HO_6 := n0_; have HO_7 := n1_; have HO_8 := n2_; have BK348 := n3_; have HB := n4_; clear n0_ n1_ n2_ n3_ n4_; clear hg hw hp_; have p363 : 0 ≤ (x9_2 : Int) := of_decide_eq_true (by first | (with_reducible assumption) | assumption); have q363 : x9_2 < (l0.length : Int) := of_decide_eq_true (by first | (with_reducible assumption) | assumption); obtain ⟨ad363, e363, hx363_0, hx363_1, hx363_2, hx363_3⟩ := at_T56 HR0.out x9_2 p363 q363; obtain rfl : ad359 = ad363 := (by injection e363); replace hx363_0 := (HB.out.cell (World.block_lt_of_cell? w _ hx363_0)).trans hx363_0; replace hx363_1 := (HB.out.cell (World.block_lt_of_cell? w _ hx363_1)).trans hx363_1; replace hx363_2 := (HB.out.cell (World.block_lt_of_cell? w _ hx363_2)).trans hx363_2; replace hx363_3 := (HB.out.cell (World.block_lt_of_cell? w _ hx363_3)).trans hx363_3; replace p363 := eq_true p363; replace q363 := eq_true q363) | ((with_reducible refine gate_builtin (b := .append) (xs := #[.tmp 82, .tmp 90]) rfl ?_); at_builtin; refine Kd.R_append k56 (w0 := w) w.heap.size rfl (.tmp 82) (.tmp 90) 49 56 (.agg #[(.int .i64 0), (.int .i64 0), (.int .i64 0), (.bool false)]) 32 rfl Try.underlying49 info56 rfl (by decide) (by omega) (.slice Ao38 x6_2.length co38) x6_2 (⟨rd y354 ((rd_T56 l0 x9_2).f0), (⟨(rd_T56 l0 x9_2).f1.f0, (rd_T56 l0 x9_2).f1.f1⟩ : S23), false⟩ : S56) [.int .i64 (rd y354 ((rd_T56 l0 x9_2).f0)), .int .i64 ((rd_T56 l0 x9_2).f1.f0), .int .i64 ((rd_T56 l0 x9_2).f1.f1), .bool false] (fun _ => True) (fun _ => False) rfl rfl ?aP (fun _ hk => hk.elim) ?aF ?aO ?aB ?aS ?aL ?_; (case aP => exact k56_mkM _ _ _ (⟨rd y354 ((rd_T56 l0 x9_2).f0), (⟨(rd_T56 l0 x9_2).f1.f0, (rd_T56 l0 x9_2).f1.f1⟩ : S23), false⟩ : S56)); (case aB => exact (by repeat (first | (with_reducible first | exact HB.out | apply below_alloc | apply pw_below_drewN | apply below_drew1 | refine below_set ?_ GE348.out) | exact HB.out))); (case aF => exact (fun _ _ => trivial)); (case aO => exact (by (with_reducible repeat (first | apply Kd.R_alloc | apply Kd.R_drewN | apply Kd.R_drew)); exact HO_6.out)); (case aS => exact (below_size (by repeat (first | (with_reducible first | exact HB.out | apply below_alloc | apply pw_below_drewN | apply below_drew1 | refine below_set ?_ GE348.out) | exact HB.out)))); (case aL => have := LMc36.out; omega); intro v365 w41 ho hb hg hat; rw [← Ny364.out] at ho; have n0_ := Aside0.mk (Kd.R_over' (by (with_reducible repeat (first | apply Kd.R_alloc | apply Kd.R_drewN | apply Kd.R_drew)); exact HO_7.out) (Kd.R_typed (by (with_reducible repeat (first | apply Kd.R_alloc | apply Kd.R_drewN | apply Kd.R_drew)); exact HO_6.out)) (by decide) hg); have n1_ := Aside0.mk (Kd.R_over' (by (with_reducible repeat (first | apply Kd.R_alloc | apply Kd.R_drewN | apply Kd.R_drew)); exact HO_8.out) (Kd.R_typed (by (with_reducible repeat (first | apply Kd.R_alloc | apply Kd.R_drewN | apply Kd.R_drew)); exact HO_6.out)) (by decide) hg); have n2_ := Aside0.mk (blk_grown (g := gb348) (o := .cells #[.int .i64 a1_0, .int .i64 a1_1] 23 (0, 0)) (by (with_reducible repeat (first | refine blk_drewN ?_ _ | refine blk_drew ?_ | refine blk_alloc ?_ _)); exact BK348.out) hg (Kd.R_ne HO_6.out BK348.out (by decide))); have n3_ := Aside0.mk (hb); have n4_ := Aside0.mk (ho); clear HO_7; clear HO_8; clear BK348; clear HB; clear HO_6; have HO_7 := n0_; have HO_8 := n1_; have BK348 := n2_; have HB := n3_; have HO366 := n4_; clear n0_ n1_ n2_ n3_ n4_; clear ho hb hg hat) | ((with_reducible refine gate_builtin (b := .append) (xs := #[.tmp 92, .tmp 94]) rfl ?_); at_builtin; refine Kd.R_append (Kd.int .i64) (w0 := w) w.heap.size rfl (.tmp 92) (.tmp 94) 63 3 (.int .i64 0) 8 rfl Try.underlying63 info3 rfl (by decide) (by omega) u8 x8_2 x9_2 [.int .i64 x9_2] (fun k_ => some k_ ≠ (.slice (some ⟨go19, 0, none⟩) y354.length co19 : Value).ownBlock) (fun _ => False) rfl rfl ?aP (fun _ hk => hk.elim) ?aF ?aO ?aB ?aS ?aL ?_; (case aP => exact rfl); (case aB => exact (by repeat (first | (with_reducible first | exact HB.out | apply below_alloc | apply pw_below_drewN | apply below_drew1 | refine below_set ?_ GE348.out) | exact HB.out))); (case aF => exact (fun k_ hk => Kd.fresh' (Kd.R_lt (by (with_reducible repeat (first | apply Kd.R_alloc | apply Kd.R_drewN | apply Kd.R_drew)); exact HO_7.out)) k_ hk)); (case aO => exact (by (with_reducible repeat (first | apply Kd.R_alloc | apply Kd.R_drewN | apply Kd.R_drew)); exact Kd.R_mono HO_8.out (fun _ hk => hk.2))); (case aS => exact (below_size (by repeat (first | (with_reducible first | exact HB.out | apply below_alloc | apply pw_below_drewN | apply below_drew1 | refine below_set ?_ GE348.out) | exact HB.out)))); (case aL => have := LMc37.out; omega); intro v368 w42 ho hb hg hat; rw [← Ny367.out] at ho; have n0_ := Aside0.mk (Kd.R_after (ok := (fun _ => True)) (by (with_reducible repeat (first | apply Kd.R_alloc | apply Kd.R_drewN | apply Kd.R_drew)); exact Kd.R_mono HO_7.out (fun _ hk => ⟨trivial, hk⟩)) hg hat); have n1_ := Aside0.mk (blk_grown (g := gb348) (o := .cells #[.int .i64 a1_0, .int .i64 a1_1] 23 (0, 0)) (by (with_reducible repeat (first | refine blk_drewN ?_ _ | refine blk_drew ?_ | refine blk_alloc ?_ _)); exact BK348.out) hg (Kd.R_ne HO_8.out BK348.out (by decide))); have n2_ := Aside0.mk (Kd.R_over' (by (with_reducible repeat (first | apply Kd.R_alloc | apply Kd.R_drewN | apply Kd.R_drew)); exact HO366.out) (Kd.R_typed (by (with_reducible repeat (first | apply Kd.R_alloc | apply Kd.R_drewN | apply Kd.R_drew)); exact HO_8.out)) (by decide) hg); have n3_ := Aside0.mk (hb); have n4_ := Aside0.mk (ho); clear HO_7; clear BK348; clear HO366; clear HB; clear HO_8; have HO_7 := n0_; have BK348 := n1_; have HO366 := n2_; have HB := n3_; have HO369 := n4_; clear n0_ n1_ n2_ n3_ n4_; clear ho hb hg hat))
                                              (try simp only [← hl7_19])
                                              go_roundg kj19
                                              case measure => have := HJ4.out; have := HK2.out; have := HJ19.out; omega
                                              case rel => exact ⟨(y364), (y362), (y367), (wrap64 (x9_2 + 1)), (by first | rfl | (simp; done) | (simp [*]; done)), H', ⟨by have := HJ4.out; have := HK2.out; have := HJ19.out; omega⟩, ⟨by (try simp only [hl7_19]); (with_reducible repeat (first | apply Kd.R_alloc | apply Kd.R_drewN | apply Kd.R_drew)); exact HO366.out⟩, ⟨by (try simp only [hl7_19]); (with_reducible repeat (first | apply Kd.R_alloc | apply Kd.R_drewN | apply Kd.R_drew)); exact Kd.R_mono HO_7.out (fun _ hk => hk.2)⟩, ⟨by (try simp only [hl7_19]); (with_reducible repeat (first | apply Kd.R_alloc | apply Kd.R_drewN | apply Kd.R_drew)); exact HO369.out⟩, ⟨by (try simp only [hl7_19]); (with_reducible repeat (first | refine blk_drewN ?_ _ | refine blk_drew ?_ | refine blk_alloc ?_ _)); exact BK348.out⟩, ⟨by repeat (first | (with_reducible first | exact HB.out | apply below_alloc | apply pw_below_drewN | apply below_drew1 | refine below_set ?_ GE348.out) | exact HB.out)⟩⟩
                                            · rw [if_neg c37] at H
                                              exact absurd H (by simp)
                                          · rw [if_neg c36] at H
                                            exact absurd H (by simp)
                                        · rw [if_neg c34] at H
                                          exact absurd H (by simp)
                                      · rw [if_neg c33] at H
                                        exact absurd H (by simp)
                                    · rw [if_neg c32] at H
                                      exact absurd H (by simp)
                                  · rw [if_neg c31] at H
                                    have c31b0 : decide (0 ≤ ((rd_T56 l0 x9_2).f0)) = false := decide_eq_false c31
                                    clear c31
                                    by_cases c43 : x9_2 < (y354.length : Int)
                                    · rw [if_pos c43] at H
                                      have c43b0 : decide (x9_2 < (y354.length : Int)) = true := decide_eq_true c43
                                      clear c43
                                      obtain ⟨y370, hy370⟩ : ∃ y_ : List Int, y_ = (y354.set (x9_2 : Int).toNat (x6_2.length : Int)) := ⟨_, rfl⟩
                                      replace H : (if x6_2.length < 4398046511104 then (if x8_2.length < 17592186044416 then (valancelaw12_AnchorSkips.l0 kj19 l0 true (x6_2 ++ [(⟨(-1), (⟨(rd_T56 l0 x9_2).f1.f0, (rd_T56 l0 x9_2).f1.f1⟩ : S23), false⟩ : S56)]) y370 (x8_2 ++ [x9_2]) (wrap64 (x9_2 + 1)) a1_0 a1_1) else (none)) else (none)) = some r := by first | (rw [hy370]; with_reducible exact H) | (have H2_ := (Option.bind_some _ _).symm.trans H; rw [hy370]; with_reducible exact H2_) | (have H2_ := (Option.bind_some _ _).symm.trans H; with_reducible exact H2_) | with_reducible exact H | (rw [hy370]; exact H) | exact H
                                      have Ny370 := Aside0.mk hy370
                                      clear hy370
                                      by_cases c45 : x6_2.length < 4398046511104
                                      · rw [if_pos c45] at H
                                        have LMc45 := Aside0.mk c45
                                        clear c45
                                        obtain ⟨y372, hy372⟩ : ∃ y_ : List (S56), y_ = (x6_2 ++ [(⟨(-1), (⟨(rd_T56 l0 x9_2).f1.f0, (rd_T56 l0 x9_2).f1.f1⟩ : S23), false⟩ : S56)]) := ⟨_, rfl⟩
                                        replace H : (if x8_2.length < 17592186044416 then (valancelaw12_AnchorSkips.l0 kj19 l0 true y372 y370 (x8_2 ++ [x9_2]) (wrap64 (x9_2 + 1)) a1_0 a1_1) else (none)) = some r := by first | (rw [hy372]; with_reducible exact H) | (have H2_ := (Option.bind_some _ _).symm.trans H; rw [hy372]; with_reducible exact H2_) | (have H2_ := (Option.bind_some _ _).symm.trans H; with_reducible exact H2_) | with_reducible exact H | (rw [hy372]; exact H) | exact H
                                        have Ny372 := Aside0.mk hy372
                                        clear hy372
                                        by_cases c46 : x8_2.length < 17592186044416
                                        · rw [if_pos c46] at H
                                          have LMc46 := Aside0.mk c46
                                          clear c46
                                          obtain ⟨y375, hy375⟩ : ∃ y_ : List Int, y_ = (x8_2 ++ [x9_2]) := ⟨_, rfl⟩
                                          replace H : (valancelaw12_AnchorSkips.l0 kj19 l0 true y372 y370 y375 (wrap64 (x9_2 + 1)) a1_0 a1_1) = some r := by first | (rw [hy375]; with_reducible exact H) | (have H2_ := (Option.bind_some _ _).symm.trans H; rw [hy375]; with_reducible exact H2_) | (have H2_ := (Option.bind_some _ _).symm.trans H; with_reducible exact H2_) | with_reducible exact H | (rw [hy375]; exact H) | exact H
                                          have Ny375 := Aside0.mk hy375
                                          clear hy375
                                          have H' := Aside0.mk H
                                          clear H
                                          have p359 : 0 ≤ (x9_2 : Int) := of_decide_eq_true (by first | (with_reducible assumption) | assumption)
                                          have q359 : x9_2 < (l0.length : Int) := of_decide_eq_true (by first | (with_reducible assumption) | assumption)
                                          obtain ⟨ad359, e359, hx359_0, hx359_1, hx359_2, hx359_3⟩ := at_T56 HR0.out x9_2 p359 q359
                                          cases e359
                                          replace hx359_0 := (HB.out.cell (World.block_lt_of_cell? w _ hx359_0)).trans hx359_0
                                          replace hx359_1 := (HB.out.cell (World.block_lt_of_cell? w _ hx359_1)).trans hx359_1
                                          replace hx359_2 := (HB.out.cell (World.block_lt_of_cell? w _ hx359_2)).trans hx359_2
                                          replace hx359_3 := (HB.out.cell (World.block_lt_of_cell? w _ hx359_3)).trans hx359_3
                                          replace p359 := eq_true p359
                                          replace q359 := eq_true q359
                                          obtain ⟨Ao47, co47, eo47⟩ := Kd.R_slice HO_6.out
                                          subst eo47
                                          have p44 : 0 ≤ (x9_2 : Int) := of_decide_eq_true (by first | (with_reducible assumption) | assumption)
                                          have q44 : (x9_2 : Int) < ((y354.length : Int) : Int) := of_decide_eq_true (by first | (with_reducible assumption) | assumption)
                                          obtain ⟨hx44_0, hf44_0⟩ := Kd.R_celln 0 HO_7.out (x9_2 : Int) p44 q44
                                          replace p44 := eq_true p44
                                          replace q44 := eq_true q44
                                          have HP48 := Kd.R_putg HO_7.out (x9_2 : Int) (x6_2.length : Int)
                                          go_wp2_with (first | ((with_reducible refine gate_store (t := 3) (p := 81) rfl ?_); refine store_event (t := 3) (p := 81) (v := ?vo_w49) (w1 := (wc.setCell ⟨go19, (x9_2 : Int).toNat, none⟩ (.int .i64 (x6_2.length : Int)))) ?hg ?ho ?hn ?hr ?_; (case ho => rfl); (case hg => rfl); (case hn => rfl); (case hr => first | (go_simp; done) | (go_simp; rfl)); intro w49 hw; have hg : wc.grownBy w49 (some go19) := (by rw [hw]; exact HP48.2); have hp_ : Kd.R (Kd.int .i64) 3 w49 w.heap.size (fun k_ => some k_ ≠ (u8 : Value).ownBlock) (.slice (some ⟨go19, 0, none⟩) y354.length co19) y370 := (by rw [hw, Ny370.out]; exact HP48.1); clear HP48; have n0_ := Aside0.mk (Kd.R_over' (v := (.slice (some ⟨go19, 0, none⟩) y354.length co19)) (by (with_reducible repeat (first | apply Kd.R_alloc | apply Kd.R_drewN | apply Kd.R_drew)); exact HO_6.out) (Kd.R_typed HO_7.out) (by decide) hg); have n1_ := Aside0.mk (hp_); have n2_ := Aside0.mk (Kd.R_after (v := (.slice (some ⟨go19, 0, none⟩) y354.length co19)) (v1 := (.slice (some ⟨go19, 0, none⟩) y354.length co19)) (ok := (fun _ => True)) (by (with_reducible repeat (first | apply Kd.R_alloc | apply Kd.R_drewN | apply Kd.R_drew)); exact Kd.R_mono HO_8.out (fun _ hk => ⟨trivial, hk⟩)) hg (.inl rfl)); have n3_ := Aside0.mk (blk_grown (g := gb348) (o := .cells #[.int .i64 a1_0, .int .i64 a1_1] 23 (0, 0)) (by (with_reducible repeat (first | refine blk_drewN ?_ _ | refine blk_drew ?_ | refine blk_alloc ?_ _)); exact BK348.out) hg (Kd.R_ne HO_7.out BK348.out (by decide))); have n4_ := Aside0.mk ((by rw [hw]; exact below_set (HB.out) GB19.out : Below w.heap.size w w49)); clear HO_6; clear HO_7; clear HO_8; clear BK348; clear HB; have HO_6 := n0_; have HO_7 := n1_; have HO_8 := n2_; have BK348 := n3_; have HB := n4_; clear n0_ n1_ n2_ n3_ n4_; clear hg hw hp_; have p371 : 0 ≤ (x9_2 : Int) := of_decide_eq_true (by first | (with_reducible assumption) | assumption); have q371 : x9_2 < (l0.length : Int) := of_decide_eq_true (by first | (with_reducible assumption) | assumption); obtain ⟨ad371, e371, hx371_0, hx371_1, hx371_2, hx371_3⟩ := at_T56 HR0.out x9_2 p371 q371; obtain rfl : ad359 = ad371 := (by injection e371); replace hx371_0 := (HB.out.cell (World.block_lt_of_cell? w _ hx371_0)).trans hx371_0; replace hx371_1 := (HB.out.cell (World.block_lt_of_cell? w _ hx371_1)).trans hx371_1; replace hx371_2 := (HB.out.cell (World.block_lt_of_cell? w _ hx371_2)).trans hx371_2; replace hx371_3 := (HB.out.cell (World.block_lt_of_cell? w _ hx371_3)).trans hx371_3; replace p371 := eq_true p371; replace q371 := eq_true q371) | ((with_reducible refine gate_builtin (b := .append) (xs := #[.tmp 82, .tmp 90]) rfl ?_); at_builtin; refine Kd.R_append k56 (w0 := w) w.heap.size rfl (.tmp 82) (.tmp 90) 49 56 (.agg #[(.int .i64 0), (.int .i64 0), (.int .i64 0), (.bool false)]) 32 rfl Try.underlying49 info56 rfl (by decide) (by omega) (.slice Ao47 x6_2.length co47) x6_2 (⟨(-1), (⟨(rd_T56 l0 x9_2).f1.f0, (rd_T56 l0 x9_2).f1.f1⟩ : S23), false⟩ : S56) [.int .i64 (-1), .int .i64 ((rd_T56 l0 x9_2).f1.f0), .int .i64 ((rd_T56 l0 x9_2).f1.f1), .bool false] (fun _ => True) (fun _ => False) rfl rfl ?aP (fun _ hk => hk.elim) ?aF ?aO ?aB ?aS ?aL ?_; (case aP => exact k56_mkM _ _ _ (⟨(-1), (⟨(rd_T56 l0 x9_2).f1.f0, (rd_T56 l0 x9_2).f1.f1⟩ : S23), false⟩ : S56)); (case aB => exact (by repeat (first | (with_reducible first | exact HB.out | apply below_alloc | apply pw_below_drewN | apply below_drew1 | refine below_set ?_ GE348.out) | exact HB.out))); (case aF => exact (fun _ _ => trivial)); (case aO => exact (by (with_reducible repeat (first | apply Kd.R_alloc | apply Kd.R_drewN | apply Kd.R_drew)); exact HO_6.out)); (case aS => exact (below_size (by repeat (first | (with_reducible first | exact HB.out | apply below_alloc | apply pw_below_drewN | apply below_drew1 | refine below_set ?_ GE348.out) | exact HB.out)))); (case aL => have := LMc45.out; omega); intro v373 w50 ho hb hg hat; rw [← Ny372.out] at ho; have n0_ := Aside0.mk (Kd.R_over' (by (with_reducible repeat (first | apply Kd.R_alloc | apply Kd.R_drewN | apply Kd.R_drew)); exact HO_7.out) (Kd.R_typed (by (with_reducible repeat (first | apply Kd.R_alloc | apply Kd.R_drewN | apply Kd.R_drew)); exact HO_6.out)) (by decide) hg); have n1_ := Aside0.mk (Kd.R_over' (by (with_reducible repeat (first | apply Kd.R_alloc | apply Kd.R_drewN | apply Kd.R_drew)); exact HO_8.out) (Kd.R_typed (by (with_reducible repeat (first | apply Kd.R_alloc | apply Kd.R_drewN | apply Kd.R_drew)); exact HO_6.out)) (by decide) hg); have n2_ := Aside0.mk (blk_grown (g := gb348) (o := .cells #[.int .i64 a1_0, .int .i64 a1_1] 23 (0, 0)) (by (with_reducible repeat (first | refine blk_drewN ?_ _ | refine blk_drew ?_ | refine blk_alloc ?_ _)); exact BK348.out) hg (Kd.R_ne HO_6.out BK348.out (by decide))); have n3_ := Aside0.mk (hb); have n4_ := Aside0.mk (ho); clear HO_7; clear HO_8; clear BK348; clear HB; clear HO_6; have HO_7 := n0_; have HO_8 := n1_; have BK348 := n2_; have HB := n3_; have HO374 := n4_; clear n0_ n1_ n2_ n3_ n4_; clear ho hb hg hat) | ((with_reducible refine gate_builtin (b := .append) (xs := #[.tmp 92, .tmp 94]) rfl ?_); at_builtin; refine Kd.R_append (Kd.int .i64) (w0 := w) w.heap.size rfl (.tmp 92) (.tmp 94) 63 3 (.int .i64 0) 8 rfl Try.underlying63 info3 rfl (by decide) (by omega) u8 x8_2 x9_2 [.int .i64 x9_2] (fun k_ => some k_ ≠ (.slice (some ⟨go19, 0, none⟩) y354.length co19 : Value).ownBlock) (fun _ => False) rfl rfl ?aP (fun _ hk => hk.elim) ?aF ?aO ?aB ?aS ?aL ?_; (case aP => exact rfl); (case aB => exact (by repeat (first | (with_reducible first | exact HB.out | apply below_alloc | apply pw_below_drewN | apply below_drew1 | refine below_set ?_ GE348.out) | exact HB.out))); (case aF => exact (fun k_ hk => Kd.fresh' (Kd.R_lt (by (with_reducible repeat (first | apply Kd.R_alloc | apply Kd.R_drewN | apply Kd.R_drew)); exact HO_7.out)) k_ hk)); (case aO => exact (by (with_reducible repeat (first | apply Kd.R_alloc | apply Kd.R_drewN | apply Kd.R_drew)); exact Kd.R_mono HO_8.out (fun _ hk => hk.2))); (case aS => exact (below_size (by repeat (first | (with_reducible first | exact HB.out | apply below_alloc | apply pw_below_drewN | apply below_drew1 | refine below_set ?_ GE348.out) | exact HB.out)))); (case aL => have := LMc46.out; omega); intro v376 w51 ho hb hg hat; rw [← Ny375.out] at ho; have n0_ := Aside0.mk (Kd.R_after (ok := (fun _ => True)) (by (with_reducible repeat (first | apply Kd.R_alloc | apply Kd.R_drewN | apply Kd.R_drew)); exact Kd.R_mono HO_7.out (fun _ hk => ⟨trivial, hk⟩)) hg hat); have n1_ := Aside0.mk (blk_grown (g := gb348) (o := .cells #[.int .i64 a1_0, .int .i64 a1_1] 23 (0, 0)) (by (with_reducible repeat (first | refine blk_drewN ?_ _ | refine blk_drew ?_ | refine blk_alloc ?_ _)); exact BK348.out) hg (Kd.R_ne HO_8.out BK348.out (by decide))); have n2_ := Aside0.mk (Kd.R_over' (by (with_reducible repeat (first | apply Kd.R_alloc | apply Kd.R_drewN | apply Kd.R_drew)); exact HO374.out) (Kd.R_typed (by (with_reducible repeat (first | apply Kd.R_alloc | apply Kd.R_drewN | apply Kd.R_drew)); exact HO_8.out)) (by decide) hg); have n3_ := Aside0.mk (hb); have n4_ := Aside0.mk (ho); clear HO_7; clear BK348; clear HO374; clear HB; clear HO_8; have HO_7 := n0_; have BK348 := n1_; have HO374 := n2_; have HB := n3_; have HO377 := n4_; clear n0_ n1_ n2_ n3_ n4_; clear ho hb hg hat))
                                          (try simp only [← hl7_19])
                                          go_roundg kj19
                                          case measure => have := HJ4.out; have := HK2.out; have := HJ19.out; omega
                                          case rel => exact ⟨(y372), (y370), (y375), (wrap64 (x9_2 + 1)), (by first | rfl | (simp; done) | (simp [*]; done)), H', ⟨by have := HJ4.out; have := HK2.out; have := HJ19.out; omega⟩, ⟨by (try simp only [hl7_19]); (with_reducible repeat (first | apply Kd.R_alloc | apply Kd.R_drewN | apply Kd.R_drew)); exact HO374.out⟩, ⟨by (try simp only [hl7_19]); (with_reducible repeat (first | apply Kd.R_alloc | apply Kd.R_drewN | apply Kd.R_drew)); exact Kd.R_mono HO_7.out (fun _ hk => hk.2)⟩, ⟨by (try simp only [hl7_19]); (with_reducible repeat (first | apply Kd.R_alloc | apply Kd.R_drewN | apply Kd.R_drew)); exact HO377.out⟩, ⟨by (try simp only [hl7_19]); (with_reducible repeat (first | refine blk_drewN ?_ _ | refine blk_drew ?_ | refine blk_alloc ?_ _)); exact BK348.out⟩, ⟨by repeat (first | (with_reducible first | exact HB.out | apply below_alloc | apply pw_below_drewN | apply below_drew1 | refine below_set ?_ GE348.out) | exact HB.out)⟩⟩
                                        · rw [if_neg c46] at H
                                          exact absurd H (by simp)
                                      · rw [if_neg c45] at H
                                        exact absurd H (by simp)
                                    · rw [if_neg c43] at H
                                      exact absurd H (by simp)
                                · rw [if_neg c30] at H
                                  exact absurd H (by simp)
                              · rw [if_neg c29] at H
                                exact absurd H (by simp)
                      · rw [if_neg c18] at H
                        exact absurd H (by simp)
                    · rw [if_neg c17] at H
                      exact absurd H (by simp)
                  · rw [if_neg c16] at H
                    have c16b0 : decide (x9_2 < (l0.length : Int)) = false := decide_eq_false c16
                    clear c16
                    replace H := Option.bind_eq_some_iff.mp H
                    obtain ⟨t378, A520, H⟩ := H
                    replace H : ((anchor_Pick.f k2 x6_2 a1_0 a1_1).bind fun t379 => (if t379 ≥ (x8_2.length : Int) then (none) else (if true = true then (if t378 < 0 then (if t379 < 0 then (some true) else (if t378 ≥ 0 then (if t379 ≥ 0 then (if 0 ≤ t379 then (if t379 < (x8_2.length : Int) then (some ((rd x8_2 t379) == t378)) else (none)) else (none)) else (none)) else (none))) else (if t378 ≥ 0 then (if t379 ≥ 0 then (if 0 ≤ t379 then (if t379 < (x8_2.length : Int) then (some ((rd x8_2 t379) == t378)) else (none)) else (none)) else (none)) else (none))) else (none)))) = some r := H
                    have A52 := Aside0.mk A520
                    clear A520
                    replace H := Option.bind_eq_some_iff.mp H
                    obtain ⟨t379, A530, H⟩ := H
                    replace H : (if t379 ≥ (x8_2.length : Int) then (none) else (if true = true then (if t378 < 0 then (if t379 < 0 then (some true) else (if t378 ≥ 0 then (if t379 ≥ 0 then (if 0 ≤ t379 then (if t379 < (x8_2.length : Int) then (some ((rd x8_2 t379) == t378)) else (none)) else (none)) else (none)) else (none))) else (if t378 ≥ 0 then (if t379 ≥ 0 then (if 0 ≤ t379 then (if t379 < (x8_2.length : Int) then (some ((rd x8_2 t379) == t378)) else (none)) else (none)) else (none)) else (none))) else (none))) = some r := H
                    have A53 := Aside0.mk A530
                    clear A530
                    by_cases c54 : t379 ≥ (x8_2.length : Int)
                    · rw [if_pos c54] at H
                      exact absurd H (by simp)
                    · rw [if_neg c54] at H
                      have c54b0 : decide ((x8_2.length : Int) ≤ t379) = false := decide_eq_false c54
                      clear c54
                      by_cases c55 : true = true
                      · clear c55
                        have H1 : (if t378 < 0 then (if t379 < 0 then (some true) else (if t378 ≥ 0 then (if t379 ≥ 0 then (if 0 ≤ t379 then (if t379 < (x8_2.length : Int) then (some ((rd x8_2 t379) == t378)) else (none)) else (none)) else (none)) else (none))) else (if t378 ≥ 0 then (if t379 ≥ 0 then (if 0 ≤ t379 then (if t379 < (x8_2.length : Int) then (some ((rd x8_2 t379) == t378)) else (none)) else (none)) else (none)) else (none))) = some r := by first | (rw [if_pos rfl] at H; exact H) | (rw [if_pos True.intro] at H; exact H)
                        clear H
                        have H := H1
                        clear H1
                        by_cases c56 : t378 < 0
                        · rw [if_pos c56] at H
                          have c56b0 : decide (t378 < 0) = true := decide_eq_true c56
                          clear c56
                          by_cases c57 : t379 < 0
                          · rw [if_pos c57] at H
                            have c57b0 : decide (t379 < 0) = true := decide_eq_true c57
                            clear c57
                            obtain rfl := Option.some.inj H
                            have hcz58_0 : wr.cell? ⟨gb348, 0, none⟩ = some (.int .i64 a1_0) := (blk_cell BK348.out 0).trans rfl
                            have hcz58_1 : wr.cell? ⟨gb348, 1, none⟩ = some (.int .i64 a1_1) := (blk_cell BK348.out 1).trans rfl
                            have hfz58_0 := blk_frozen BK348.out 0
                            have hfz58_1 := blk_frozen BK348.out 1
                            go_wp2_with (first | ((with_reducible refine gate_callee (f := 31) rfl ?_); refine goesL_ (some 98) rfl rfl Try.func31 (by kernel_rfl) rfl #[.slice A0 l0.length c0, .agg #[.int .i64 a1_0, .int .i64 a1_1]] rfl (by (try simp only [List.map_toArray, List.map_cons, List.map_nil]); first | done | rfl | (simp only [List.length_drop, List.length_take]; rfl)) ?_; (with_reducible refine (anchor_Pick.calls k2 _ _ l0 a1_0 a1_1 t378 _ ?side1 ?side2 A52.out).mono ?_); (case side1 => repeat (first | exact (Kd.C_below HR0.out HB.out) | (with_reducible refine Kd.C_alloc ?_ _) | (with_reducible refine Kd.C_drewN ?_ _) | (with_reducible refine Kd.C_drew ?_))); (case side2 => exact HC0.out); rintro e w59 ⟨rfl, hb⟩; refine ⟨_, rfl, ?_⟩; have n0_ := Aside0.mk (Kd.R_below (by (with_reducible repeat (first | apply Kd.R_alloc | apply Kd.R_drewN | apply Kd.R_drew)); exact HO_6.out) hb); have n1_ := Aside0.mk (Kd.R_below (by (with_reducible repeat (first | apply Kd.R_alloc | apply Kd.R_drewN | apply Kd.R_drew)); exact HO_7.out) hb); have n2_ := Aside0.mk (Kd.R_below (by (with_reducible repeat (first | apply Kd.R_alloc | apply Kd.R_drewN | apply Kd.R_drew)); exact HO_8.out) hb); have n3_ := Aside0.mk (blk_below (g := gb348) (o := .cells #[.int .i64 a1_0, .int .i64 a1_1] 23 (0, 0)) (by (with_reducible repeat (first | refine blk_drewN ?_ _ | refine blk_drew ?_ | refine blk_alloc ?_ _)); exact BK348.out) hb); have n4_ := Aside0.mk (below_step (by repeat (first | (with_reducible first | exact HB.out | apply below_alloc | apply pw_below_drewN | apply below_drew1 | refine below_set ?_ GE348.out) | exact HB.out)) hb); clear HO_6; clear HO_7; clear HO_8; clear BK348; clear HB; have HO_6 := n0_; have HO_7 := n1_; have HO_8 := n2_; have BK348 := n3_; have HB := n4_; clear n0_ n1_ n2_ n3_ n4_; (try clear hb); (try clear hb2); (try clear hk); (try clear hi); have hcz60_0 : w59.cell? ⟨gb348, 0, none⟩ = some (.int .i64 a1_0) := (blk_cell BK348.out 0).trans rfl; have hcz60_1 : w59.cell? ⟨gb348, 1, none⟩ = some (.int .i64 a1_1) := (blk_cell BK348.out 1).trans rfl; have hfz60_0 := blk_frozen BK348.out 0; have hfz60_1 := blk_frozen BK348.out 1; obtain ⟨Ao61, co61, eo61⟩ := Kd.R_slice HO_6.out; subst eo61) | ((with_reducible refine gate_callee (f := 31) rfl ?_); refine goesL_ (some 101) rfl rfl Try.func31 (by kernel_rfl) rfl #[.slice Ao61 x6_2.length co61, .agg #[.int .i64 a1_0, .int .i64 a1_1]] rfl (by (try simp only [List.map_toArray, List.map_cons, List.map_nil]); first | done | rfl | (simp only [List.length_drop, List.length_take]; rfl)) ?_; (with_reducible refine (anchor_Pick.calls k2 _ _ x6_2 a1_0 a1_1 t379 _ ?side1 ?side2 A53.out).mono ?_); (case side1 => repeat (first | exact (Kd.R_reads' HO_6.out).2.2 | (with_reducible refine Kd.C_alloc ?_ _) | (with_reducible refine Kd.C_drewN ?_ _) | (with_reducible refine Kd.C_drew ?_))); (case side2 => exact (Kd.R_reads' HO_6.out).2.1); rintro e w62 ⟨rfl, hb⟩; refine ⟨_, rfl, ?_⟩; have n0_ := Aside0.mk (Kd.R_below (by (with_reducible repeat (first | apply Kd.R_alloc | apply Kd.R_drewN | apply Kd.R_drew)); exact HO_6.out) hb); have n1_ := Aside0.mk (Kd.R_below (by (with_reducible repeat (first | apply Kd.R_alloc | apply Kd.R_drewN | apply Kd.R_drew)); exact HO_7.out) hb); have n2_ := Aside0.mk (Kd.R_below (by (with_reducible repeat (first | apply Kd.R_alloc | apply Kd.R_drewN | apply Kd.R_drew)); exact HO_8.out) hb); have n3_ := Aside0.mk (blk_below (g := gb348) (o := .cells #[.int .i64 a1_0, .int .i64 a1_1] 23 (0, 0)) (by (with_reducible repeat (first | refine blk_drewN ?_ _ | refine blk_drew ?_ | refine blk_alloc ?_ _)); exact BK348.out) hb); have n4_ := Aside0.mk (below_step (by repeat (first | (with_reducible first | exact HB.out | apply below_alloc | apply pw_below_drewN | apply below_drew1 | refine below_set ?_ GE348.out) | exact HB.out)) hb); clear HO_6; clear HO_7; clear HO_8; clear BK348; clear HB; have HO_6 := n0_; have HO_7 := n1_; have HO_8 := n2_; have BK348 := n3_; have HB := n4_; clear n0_ n1_ n2_ n3_ n4_; (try clear hb); (try clear hb2); (try clear hk); (try clear hi); obtain ⟨Ao63, co63, eo63⟩ := Kd.R_slice HO_8.out; subst eo63))
                            go_ret
                            exact ⟨by first | rfl | (simp [errW_none, errW_some] <;> rfl) | (simp [*, errW_none, errW_some] <;> rfl), by repeat (first | (with_reducible first | exact HB.out | apply below_alloc | apply pw_below_drewN | apply below_drew1 | refine below_set ?_ GE348.out) | exact HB.out)⟩
                          · rw [if_neg c57] at H
                            have c57b0 : decide (t379 < 0) = false := decide_eq_false c57
                            clear c57
                            by_cases c64 : t378 ≥ 0
                            · rw [if_pos c64] at H
                              have c64b0 : decide (0 ≤ t378) = true := decide_eq_true c64
                              clear c64
                              by_cases c65 : t379 ≥ 0
                              · rw [if_pos c65] at H
                                have c65b0 : decide (0 ≤ t379) = true := decide_eq_true c65
                                clear c65
                                by_cases c66 : 0 ≤ t379
                                · rw [if_pos c66] at H
                                  have c66b0 : decide (0 ≤ t379) = true := decide_eq_true c66
                                  clear c66
                                  by_cases c67 : t379 < (x8_2.length : Int)
                                  · rw [if_pos c67] at H
                                    have c67b0 : decide (t379 < (x8_2.length : Int)) = true := decide_eq_true c67
                                    clear c67
                                    obtain rfl := Option.some.inj H
                                    have hcz68_0 : wr.cell? ⟨gb348, 0, none⟩ = some (.int .i64 a1_0) := (blk_cell BK348.out 0).trans rfl
                                    have hcz68_1 : wr.cell? ⟨gb348, 1, none⟩ = some (.int .i64 a1_1) := (blk_cell BK348.out 1).trans rfl
                                    have hfz68_0 := blk_frozen BK348.out 0
                                    have hfz68_1 := blk_frozen BK348.out 1
                                    go_wp2_with (first | ((with_reducible refine gate_callee (f := 31) rfl ?_); refine goesL_ (some 98) rfl rfl Try.func31 (by kernel_rfl) rfl #[.slice A0 l0.length c0, .agg #[.int .i64 a1_0, .int .i64 a1_1]] rfl (by (try simp only [List.map_toArray, List.map_cons, List.map_nil]); first | done | rfl | (simp only [List.length_drop, List.length_take]; rfl)) ?_; (with_reducible refine (anchor_Pick.calls k2 _ _ l0 a1_0 a1_1 t378 _ ?side1 ?side2 A52.out).mono ?_); (case side1 => repeat (first | exact (Kd.C_below HR0.out HB.out) | (with_reducible refine Kd.C_alloc ?_ _) | (with_reducible refine Kd.C_drewN ?_ _) | (with_reducible refine Kd.C_drew ?_))); (case side2 => exact HC0.out); rintro e w69 ⟨rfl, hb⟩; refine ⟨_, rfl, ?_⟩; have n0_ := Aside0.mk (Kd.R_below (by (with_reducible repeat (first | apply Kd.R_alloc | apply Kd.R_drewN | apply Kd.R_drew)); exact HO_6.out) hb); have n1_ := Aside0.mk (Kd.R_below (by (with_reducible repeat (first | apply Kd.R_alloc | apply Kd.R_drewN | apply Kd.R_drew)); exact HO_7.out) hb); have n2_ := Aside0.mk (Kd.R_below (by (with_reducible repeat (first | apply Kd.R_alloc | apply Kd.R_drewN | apply Kd.R_drew)); exact HO_8.out) hb); have n3_ := Aside0.mk (blk_below (g := gb348) (o := .cells #[.int .i64 a1_0, .int .i64 a1_1] 23 (0, 0)) (by (with_reducible repeat (first | refine blk_drewN ?_ _ | refine blk_drew ?_ | refine blk_alloc ?_ _)); exact BK348.out) hb); have n4_ := Aside0.mk (below_step (by repeat (first | (with_reducible first | exact HB.out | apply below_alloc | apply pw_below_drewN | apply below_drew1 | refine below_set ?_ GE348.out) | exact HB.out)) hb); clear HO_6; clear HO_7; clear HO_8; clear BK348; clear HB; have HO_6 := n0_; have HO_7 := n1_; have HO_8 := n2_; have BK348 := n3_; have HB := n4_; clear n0_ n1_ n2_ n3_ n4_; (try clear hb); (try clear hb2); (try clear hk); (try clear hi); have hcz70_0 : w69.cell? ⟨gb348, 0, none⟩ = some (.int .i64 a1_0) := (blk_cell BK348.out 0).trans rfl; have hcz70_1 : w69.cell? ⟨gb348, 1, none⟩ = some (.int .i64 a1_1) := (blk_cell BK348.out 1).trans rfl; have hfz70_0 := blk_frozen BK348.out 0; have hfz70_1 := blk_frozen BK348.out 1; obtain ⟨Ao71, co71, eo71⟩ := Kd.R_slice HO_6.out; subst eo71) | ((with_reducible refine gate_callee (f := 31) rfl ?_); refine goesL_ (some 101) rfl rfl Try.func31 (by kernel_rfl) rfl #[.slice Ao71 x6_2.length co71, .agg #[.int .i64 a1_0, .int .i64 a1_1]] rfl (by (try simp only [List.map_toArray, List.map_cons, List.map_nil]); first | done | rfl | (simp only [List.length_drop, List.length_take]; rfl)) ?_; (with_reducible refine (anchor_Pick.calls k2 _ _ x6_2 a1_0 a1_1 t379 _ ?side1 ?side2 A53.out).mono ?_); (case side1 => repeat (first | exact (Kd.R_reads' HO_6.out).2.2 | (with_reducible refine Kd.C_alloc ?_ _) | (with_reducible refine Kd.C_drewN ?_ _) | (with_reducible refine Kd.C_drew ?_))); (case side2 => exact (Kd.R_reads' HO_6.out).2.1); rintro e w72 ⟨rfl, hb⟩; refine ⟨_, rfl, ?_⟩; have n0_ := Aside0.mk (Kd.R_below (by (with_reducible repeat (first | apply Kd.R_alloc | apply Kd.R_drewN | apply Kd.R_drew)); exact HO_6.out) hb); have n1_ := Aside0.mk (Kd.R_below (by (with_reducible repeat (first | apply Kd.R_alloc | apply Kd.R_drewN | apply Kd.R_drew)); exact HO_7.out) hb); have n2_ := Aside0.mk (Kd.R_below (by (with_reducible repeat (first | apply Kd.R_alloc | apply Kd.R_drewN | apply Kd.R_drew)); exact HO_8.out) hb); have n3_ := Aside0.mk (blk_below (g := gb348) (o := .cells #[.int .i64 a1_0, .int .i64 a1_1] 23 (0, 0)) (by (with_reducible repeat (first | refine blk_drewN ?_ _ | refine blk_drew ?_ | refine blk_alloc ?_ _)); exact BK348.out) hb); have n4_ := Aside0.mk (below_step (by repeat (first | (with_reducible first | exact HB.out | apply below_alloc | apply pw_below_drewN | apply below_drew1 | refine below_set ?_ GE348.out) | exact HB.out)) hb); clear HO_6; clear HO_7; clear HO_8; clear BK348; clear HB; have HO_6 := n0_; have HO_7 := n1_; have HO_8 := n2_; have BK348 := n3_; have HB := n4_; clear n0_ n1_ n2_ n3_ n4_; (try clear hb); (try clear hb2); (try clear hk); (try clear hi); obtain ⟨Ao73, co73, eo73⟩ := Kd.R_slice HO_8.out; subst eo73; have p380 : 0 ≤ (t379 : Int) := of_decide_eq_true (by first | (with_reducible assumption) | assumption); have q380 : t379 < (x8_2.length : Int) := of_decide_eq_true (by first | (with_reducible assumption) | assumption); obtain ⟨ad380, e380, hx380_0⟩ := Kd.at_int (Kd.R_reads' HO_8.out).2.2 t379 p380 q380; cases e380; replace p380 := eq_true p380; replace q380 := eq_true q380))
                                    go_ret
                                    exact ⟨by first | rfl | (simp [errW_none, errW_some] <;> rfl) | (simp [*, errW_none, errW_some] <;> rfl), by repeat (first | (with_reducible first | exact HB.out | apply below_alloc | apply pw_below_drewN | apply below_drew1 | refine below_set ?_ GE348.out) | exact HB.out)⟩
                                  · rw [if_neg c67] at H
                                    exact absurd H (by simp)
                                · rw [if_neg c66] at H
                                  exact absurd H (by simp)
                              · rw [if_neg c65] at H
                                exact absurd H (by simp)
                            · rw [if_neg c64] at H
                              exact absurd H (by simp)
                        · rw [if_neg c56] at H
                          have c56b0 : decide (t378 < 0) = false := decide_eq_false c56
                          clear c56
                          by_cases c74 : t378 ≥ 0
                          · rw [if_pos c74] at H
                            have c74b0 : decide (0 ≤ t378) = true := decide_eq_true c74
                            clear c74
                            by_cases c75 : t379 ≥ 0
                            · rw [if_pos c75] at H
                              have c75b0 : decide (0 ≤ t379) = true := decide_eq_true c75
                              clear c75
                              by_cases c76 : 0 ≤ t379
                              · rw [if_pos c76] at H
                                have c76b0 : decide (0 ≤ t379) = true := decide_eq_true c76
                                clear c76
                                by_cases c77 : t379 < (x8_2.length : Int)
                                · rw [if_pos c77] at H
                                  have c77b0 : decide (t379 < (x8_2.length : Int)) = true := decide_eq_true c77
                                  clear c77
                                  obtain rfl := Option.some.inj H
                                  have hcz78_0 : wr.cell? ⟨gb348, 0, none⟩ = some (.int .i64 a1_0) := (blk_cell BK348.out 0).trans rfl
                                  have hcz78_1 : wr.cell? ⟨gb348, 1, none⟩ = some (.int .i64 a1_1) := (blk_cell BK348.out 1).trans rfl
                                  have hfz78_0 := blk_frozen BK348.out 0
                                  have hfz78_1 := blk_frozen BK348.out 1
                                  go_wp2_with (first | ((with_reducible refine gate_callee (f := 31) rfl ?_); refine goesL_ (some 98) rfl rfl Try.func31 (by kernel_rfl) rfl #[.slice A0 l0.length c0, .agg #[.int .i64 a1_0, .int .i64 a1_1]] rfl (by (try simp only [List.map_toArray, List.map_cons, List.map_nil]); first | done | rfl | (simp only [List.length_drop, List.length_take]; rfl)) ?_; (with_reducible refine (anchor_Pick.calls k2 _ _ l0 a1_0 a1_1 t378 _ ?side1 ?side2 A52.out).mono ?_); (case side1 => repeat (first | exact (Kd.C_below HR0.out HB.out) | (with_reducible refine Kd.C_alloc ?_ _) | (with_reducible refine Kd.C_drewN ?_ _) | (with_reducible refine Kd.C_drew ?_))); (case side2 => exact HC0.out); rintro e w79 ⟨rfl, hb⟩; refine ⟨_, rfl, ?_⟩; have n0_ := Aside0.mk (Kd.R_below (by (with_reducible repeat (first | apply Kd.R_alloc | apply Kd.R_drewN | apply Kd.R_drew)); exact HO_6.out) hb); have n1_ := Aside0.mk (Kd.R_below (by (with_reducible repeat (first | apply Kd.R_alloc | apply Kd.R_drewN | apply Kd.R_drew)); exact HO_7.out) hb); have n2_ := Aside0.mk (Kd.R_below (by (with_reducible repeat (first | apply Kd.R_alloc | apply Kd.R_drewN | apply Kd.R_drew)); exact HO_8.out) hb); have n3_ := Aside0.mk (blk_below (g := gb348) (o := .cells #[.int .i64 a1_0, .int .i64 a1_1] 23 (0, 0)) (by (with_reducible repeat (first | refine blk_drewN ?_ _ | refine blk_drew ?_ | refine blk_alloc ?_ _)); exact BK348.out) hb); have n4_ := Aside0.mk (below_step (by repeat (first | (with_reducible first | exact HB.out | apply below_alloc | apply pw_below_drewN | apply below_drew1 | refine below_set ?_ GE348.out) | exact HB.out)) hb); clear HO_6; clear HO_7; clear HO_8; clear BK348; clear HB; have HO_6 := n0_; have HO_7 := n1_; have HO_8 := n2_; have BK348 := n3_; have HB := n4_; clear n0_ n1_ n2_ n3_ n4_; (try clear hb); (try clear hb2); (try clear hk); (try clear hi); have hcz80_0 : w79.cell? ⟨gb348, 0, none⟩ = some (.int .i64 a1_0) := (blk_cell BK348.out 0).trans rfl; have hcz80_1 : w79.cell? ⟨gb348, 1, none⟩ = some (.int .i64 a1_1) := (blk_cell BK348.out 1).trans rfl; have hfz80_0 := blk_frozen BK348.out 0; have hfz80_1 := blk_frozen BK348.out 1; obtain ⟨Ao81, co81, eo81⟩ := Kd.R_slice HO_6.out; subst eo81) | ((with_reducible refine gate_callee (f := 31) rfl ?_); refine goesL_ (some 101) rfl rfl Try.func31 (by kernel_rfl) rfl #[.slice Ao81 x6_2.length co81, .agg #[.int .i64 a1_0, .int .i64 a1_1]] rfl (by (try simp only [List.map_toArray, List.map_cons, List.map_nil]); first | done | rfl | (simp only [List.length_drop, List.length_take]; rfl)) ?_; (with_reducible refine (anchor_Pick.calls k2 _ _ x6_2 a1_0 a1_1 t379 _ ?side1 ?side2 A53.out).mono ?_); (case side1 => repeat (first | exact (Kd.R_reads' HO_6.out).2.2 | (with_reducible refine Kd.C_alloc ?_ _) | (with_reducible refine Kd.C_drewN ?_ _) | (with_reducible refine Kd.C_drew ?_))); (case side2 => exact (Kd.R_reads' HO_6.out).2.1); rintro e w82 ⟨rfl, hb⟩; refine ⟨_, rfl, ?_⟩; have n0_ := Aside0.mk (Kd.R_below (by (with_reducible repeat (first | apply Kd.R_alloc | apply Kd.R_drewN | apply Kd.R_drew)); exact HO_6.out) hb); have n1_ := Aside0.mk (Kd.R_below (by (with_reducible repeat (first | apply Kd.R_alloc | apply Kd.R_drewN | apply Kd.R_drew)); exact HO_7.out) hb); have n2_ := Aside0.mk (Kd.R_below (by (with_reducible repeat (first | apply Kd.R_alloc | apply Kd.R_drewN | apply Kd.R_drew)); exact HO_8.out) hb); have n3_ := Aside0.mk (blk_below (g := gb348) (o := .cells #[.int .i64 a1_0, .int .i64 a1_1] 23 (0, 0)) (by (with_reducible repeat (first | refine blk_drewN ?_ _ | refine blk_drew ?_ | refine blk_alloc ?_ _)); exact BK348.out) hb); have n4_ := Aside0.mk (below_step (by repeat (first | (with_reducible first | exact HB.out | apply below_alloc | apply pw_below_drewN | apply below_drew1 | refine below_set ?_ GE348.out) | exact HB.out)) hb); clear HO_6; clear HO_7; clear HO_8; clear BK348; clear HB; have HO_6 := n0_; have HO_7 := n1_; have HO_8 := n2_; have BK348 := n3_; have HB := n4_; clear n0_ n1_ n2_ n3_ n4_; (try clear hb); (try clear hb2); (try clear hk); (try clear hi); obtain ⟨Ao83, co83, eo83⟩ := Kd.R_slice HO_8.out; subst eo83; have p381 : 0 ≤ (t379 : Int) := of_decide_eq_true (by first | (with_reducible assumption) | assumption); have q381 : t379 < (x8_2.length : Int) := of_decide_eq_true (by first | (with_reducible assumption) | assumption); obtain ⟨ad381, e381, hx381_0⟩ := Kd.at_int (Kd.R_reads' HO_8.out).2.2 t379 p381 q381; cases e381; replace p381 := eq_true p381; replace q381 := eq_true q381))
                                  go_ret
                                  exact ⟨by first | rfl | (simp [errW_none, errW_some] <;> rfl) | (simp [*, errW_none, errW_some] <;> rfl), by repeat (first | (with_reducible first | exact HB.out | apply below_alloc | apply pw_below_drewN | apply below_drew1 | refine below_set ?_ GE348.out) | exact HB.out)⟩
                                · rw [if_neg c77] at H
                                  exact absurd H (by simp)
                              · rw [if_neg c76] at H
                                exact absurd H (by simp)
                            · rw [if_neg c75] at H
                              exact absurd H (by simp)
                          · rw [if_neg c74] at H
                            exact absurd H (by simp)
                      · exact absurd rfl c55
            · rw [if_neg c13] at H
              exact absurd H (by simp)
          · rw [if_neg c12] at H
            exact absurd H (by simp)
  · replace c4 := Bool.eq_false_iff.mpr c4
    subst c4
    have H1 : (none) = some r := by rw [if_neg (show ¬ (false = true) by decide)] at H; exact H
    clear H
    have H := H1
    clear H1
    exact absurd H (by simp)

/-- THE ONE PURE STATEMENT of valancelaw12_AnchorSkips: yours. -/
def valancelaw12_AnchorSkips.Pure : Prop := ∀ (l0 : List (S56)) (a1_0 : Int) (a1_1 : Int), l0.length ≤ maxLen → l0.length * 32 ≤ 140737488351232 → (∀ x ∈ l0, (Lit.int .i64 x.f0).wf = true ∧ (Lit.int .i64 x.f1.f0).wf = true ∧ (Lit.int .i64 x.f1.f1).wf = true) → (Lit.int .i64 a1_0).wf = true → (Lit.int .i64 a1_1).wf = true → ∃ k, valancelaw12_AnchorSkips.f k l0 a1_0 a1_1 = some true
theorem valancelaw12_AnchorSkips.walk (P : valancelaw12_AnchorSkips.Pure) (a0 : Option Addr) (cap0 : Nat) (l0 : List (S56)) (a1_0 : Int) (a1_1 : Int) (w : World) (hr0 : Kd.C k56 w a0 l0.length l0) (hc0 : l0.length ≤ cap0) (hm0 : l0.length ≤ maxLen) (y0 : l0.length * 32 ≤ 140737488351232) (hw0 : ∀ x ∈ l0, (Lit.int .i64 x.f0).wf = true ∧ (Lit.int .i64 x.f1.f0).wf = true ∧ (Lit.int .i64 x.f1.f1).wf = true) (w1_0 : (Lit.int .i64 a1_0).wf = true) (w1_1 : (Lit.int .i64 a1_1).wf = true) :
    Calls Try.prog 13 #[.slice a0 l0.length cap0, .agg #[.int .i64 a1_0, .int .i64 a1_1]] w fun e w' => e = .returned (.bool true) ∧ Below w.heap.size w w' := by
  obtain ⟨k, h⟩ := P l0 a1_0 a1_1 hm0 y0 hw0 w1_0 w1_1
  refine (valancelaw12_AnchorSkips.calls k _ _ l0 a1_0 a1_1 true w hr0 hc0 h).mono ?_
  rintro e w' ⟨rfl, hd⟩
  exact ⟨rfl, hd⟩

end Go.Proofs.Ytnmcefpnpfaklab.V
