/- What the functions of this seat answer, as plain Lean functions, and that the calls come to just that (written by a program of this repo, over the kit's printer; Lean checks it). -/
import Derived.Test.YtnmcefpnpfakladVx0
import Derived.Test.YtnmcefpnpfakladVx2
import Derived.Test.YtnmcefpnpfakladVx4
import Derived.Test.YtnmcefpnpfakladVx33
import Derived.Test.YtnmcefpnpfakladVx36
namespace Go.Proofs.Ytnmcefpnpfaklad.V
open Go.RowKit Go.Proofs.YtnmcefpnpfakladW.PrintWords Go.Proofs.YtnmcefpnpfakladW.PrintLast Go.Proofs.YtnmcefpnpfakladW.PrintMore
attribute [local go_sem] max2_int min2_int max_two min_two max_three min_three max_four min_four   -- for this text's walks alone
set_option linter.unusedVariables false
set_option linter.unusedSimpArgs false

/-! ### valancelaw07_LinesAll: function 10 -/
mutual
def valancelaw07_LinesAll.l0 : Nat → List Int → Int → Int → Bool → Bool → List (S41) → Int → Int → Option (Bool)
  | 0, _, _, _, _, _, _, _, _ => none
  | k + 1, x0, x1, x2, x3, x9, x10, x11, x12 => if x12 < (x10.length : Int) then (if 0 ≤ x12 then (if ((rd_T41 x10 x12).f0) = x11 then (if ((rd_T41 x10 x12).f1) ≤ ((rd_T41 x10 x12).f0) then (valancelaw07_LinesAll.j1 k x0 x1 x2 x3 x9 x10 x12 ((rd_T41 x10 x12).f0) ((rd_T41 x10 x12).f1) true) else (if ((rd_T41 x10 x12).f1) > (x0.length : Int) then (valancelaw07_LinesAll.j1 k x0 x1 x2 x3 x9 x10 x12 ((rd_T41 x10 x12).f0) ((rd_T41 x10 x12).f1) true) else (valancelaw07_LinesAll.j1 k x0 x1 x2 x3 x9 x10 x12 ((rd_T41 x10 x12).f0) ((rd_T41 x10 x12).f1) (decide ((wrap64 (((rd_T41 x10 x12).f1) - ((rd_T41 x10 x12).f0))) > 64))))) else (valancelaw07_LinesAll.j1 k x0 x1 x2 x3 x9 x10 x12 ((rd_T41 x10 x12).f0) ((rd_T41 x10 x12).f1) true)) else (none)) else (if x9 = true then (some (x11 == (x0.length : Int))) else (none))
def valancelaw07_LinesAll.j1 : Nat → List Int → Int → Int → Bool → Bool → List (S41) → Int → Int → Int → Bool → Option (Bool)
  | 0, _, _, _, _, _, _, _, _, _, _ => none
  | k + 1, x0, x1, x2, x3, x9, x10, x12, x13, x14, x63 => if x63 = true then (none) else (if x3 = true then (if (wrap64 (x14 - x13)) > 1 then (if 0 ≤ x13 then (if x13 ≤ x14 then (if x14 ≤ (x0.length : Int) then ((lines_Long.f k ((x0.take (x14 : Int).toNat).drop (x13 : Int).toNat) x2).bind fun t389 => (valancelaw07_LinesAll.j2 k x0 x1 x2 x3 x9 x10 x12 x13 x14 (decide (t389 > x1)))) else (none)) else (none)) else (none)) else (valancelaw07_LinesAll.j2 k x0 x1 x2 x3 x9 x10 x12 x13 x14 false)) else (valancelaw07_LinesAll.j2 k x0 x1 x2 x3 x9 x10 x12 x13 x14 false))
def valancelaw07_LinesAll.j2 : Nat → List Int → Int → Int → Bool → Bool → List (S41) → Int → Int → Int → Bool → Option (Bool)
  | 0, _, _, _, _, _, _, _, _, _, _ => none
  | k + 1, x0, x1, x2, x3, x9, x10, x12, x13, x14, x80 => if x80 = true then (none) else (if x14 < (x0.length : Int) then (if (wrap64 (x14 - x13)) < 64 then (if x3 = true then (if 0 ≤ x13 then (if x13 ≤ (wrap64 (x14 + 1)) then (if (wrap64 (x14 + 1)) ≤ (x0.length : Int) then ((lines_Long.f k ((x0.take ((wrap64 (x14 + 1)) : Int).toNat).drop (x13 : Int).toNat) x2).bind fun t391 => (if t391 ≤ x1 then (none) else (valancelaw07_LinesAll.l0 k x0 x1 x2 x3 x9 x10 x14 (wrap64 (x12 + 1))))) else (none)) else (none)) else (none)) else (none)) else (valancelaw07_LinesAll.l0 k x0 x1 x2 x3 x9 x10 x14 (wrap64 (x12 + 1)))) else (valancelaw07_LinesAll.l0 k x0 x1 x2 x3 x9 x10 x14 (wrap64 (x12 + 1))))
end
def valancelaw07_LinesAll.f (k : Nat) (l0 : List Int) (a1 : Int) (a2 : Int) (a3 : Bool) : Option (Bool) := (valancelaw07_works.f k).bind fun t382 => (if t382 = true then (if (l0.length : Int) > 200 then (some t382) else ((lines_Break.f l0 a1 a2 a3).bind fun t383 => (valancelaw07_LinesAll.l0 k l0 a1 a2 a3 t382 t383 0 0))) else (none))
theorem valancelaw07_LinesAll.mono_l : ∀ k, (∀ y0 y1 y2 y3 y4 y5 y6 y7, LeO (valancelaw07_LinesAll.l0 k y0 y1 y2 y3 y4 y5 y6 y7) (valancelaw07_LinesAll.l0 (k + 1) y0 y1 y2 y3 y4 y5 y6 y7)) ∧ (∀ y0 y1 y2 y3 y4 y5 y6 y7 y8 y9, LeO (valancelaw07_LinesAll.j1 k y0 y1 y2 y3 y4 y5 y6 y7 y8 y9) (valancelaw07_LinesAll.j1 (k + 1) y0 y1 y2 y3 y4 y5 y6 y7 y8 y9)) ∧ (∀ y0 y1 y2 y3 y4 y5 y6 y7 y8 y9, LeO (valancelaw07_LinesAll.j2 k y0 y1 y2 y3 y4 y5 y6 y7 y8 y9) (valancelaw07_LinesAll.j2 (k + 1) y0 y1 y2 y3 y4 y5 y6 y7 y8 y9))
  | 0 => ⟨fun _ _ _ _ _ _ _ _ r h => by simp [valancelaw07_LinesAll.l0] at h, fun _ _ _ _ _ _ _ _ _ _ r h => by simp [valancelaw07_LinesAll.j1] at h, fun _ _ _ _ _ _ _ _ _ _ r h => by simp [valancelaw07_LinesAll.j2] at h⟩
  | k + 1 => by
    obtain ⟨ih0, ih1, ih2⟩ := valancelaw07_LinesAll.mono_l k
    refine ⟨?_, ?_, ?_⟩
    · intro y0 y1 y2 y3 y4 y5 y6 y7
      unfold valancelaw07_LinesAll.l0
      repeat' first
      | (with_reducible exact ih0 _ _ _ _ _ _ _ _)
      | (with_reducible exact ih1 _ _ _ _ _ _ _ _ _ _)
      | (with_reducible exact ih2 _ _ _ _ _ _ _ _ _ _)
      | (with_reducible exact lines_Long.mono _ _ _)
      | (with_reducible exact valancelaw07_works.mono _)
      | (with_reducible exact LeO.refl _)
      | (with_reducible exact LeO.none _)
      | (with_reducible refine LeO.ite ?_ ?_)
      | (with_reducible refine LeO.bind ?_ (fun _ => ?_))
      | exact ih0 _ _ _ _ _ _ _ _
      | exact ih1 _ _ _ _ _ _ _ _ _ _
      | exact ih2 _ _ _ _ _ _ _ _ _ _
      | exact lines_Long.mono _ _ _
      | exact valancelaw07_works.mono _
      | exact LeO.none _
      | refine LeO.ite ?_ ?_
      | refine LeO.bind ?_ (fun _ => ?_)
    · intro y0 y1 y2 y3 y4 y5 y6 y7 y8 y9
      unfold valancelaw07_LinesAll.j1
      repeat' first
      | (with_reducible exact ih0 _ _ _ _ _ _ _ _)
      | (with_reducible exact ih1 _ _ _ _ _ _ _ _ _ _)
      | (with_reducible exact ih2 _ _ _ _ _ _ _ _ _ _)
      | (with_reducible exact lines_Long.mono _ _ _)
      | (with_reducible exact valancelaw07_works.mono _)
      | (with_reducible exact LeO.refl _)
      | (with_reducible exact LeO.none _)
      | (with_reducible refine LeO.ite ?_ ?_)
      | (with_reducible refine LeO.bind ?_ (fun _ => ?_))
      | exact ih0 _ _ _ _ _ _ _ _
      | exact ih1 _ _ _ _ _ _ _ _ _ _
      | exact ih2 _ _ _ _ _ _ _ _ _ _
      | exact lines_Long.mono _ _ _
      | exact valancelaw07_works.mono _
      | exact LeO.none _
      | refine LeO.ite ?_ ?_
      | refine LeO.bind ?_ (fun _ => ?_)
    · intro y0 y1 y2 y3 y4 y5 y6 y7 y8 y9
      unfold valancelaw07_LinesAll.j2
      repeat' first
      | (with_reducible exact ih0 _ _ _ _ _ _ _ _)
      | (with_reducible exact ih1 _ _ _ _ _ _ _ _ _ _)
      | (with_reducible exact ih2 _ _ _ _ _ _ _ _ _ _)
      | (with_reducible exact lines_Long.mono _ _ _)
      | (with_reducible exact valancelaw07_works.mono _)
      | (with_reducible exact LeO.refl _)
      | (with_reducible exact LeO.none _)
      | (with_reducible refine LeO.ite ?_ ?_)
      | (with_reducible refine LeO.bind ?_ (fun _ => ?_))
      | exact ih0 _ _ _ _ _ _ _ _
      | exact ih1 _ _ _ _ _ _ _ _ _ _
      | exact ih2 _ _ _ _ _ _ _ _ _ _
      | exact lines_Long.mono _ _ _
      | exact valancelaw07_works.mono _
      | exact LeO.none _
      | refine LeO.ite ?_ ?_
      | refine LeO.bind ?_ (fun _ => ?_)
theorem valancelaw07_LinesAll.mono : ∀ a0 a1 a2 a3 k, LeO (valancelaw07_LinesAll.f k a0 a1 a2 a3) (valancelaw07_LinesAll.f (k + 1) a0 a1 a2 a3) := by
  intro a0 a1 a2 a3 k
  obtain ⟨ih0, ih1, ih2⟩ := valancelaw07_LinesAll.mono_l k
  unfold valancelaw07_LinesAll.f
  repeat' first
      | (with_reducible exact ih0 _ _ _ _ _ _ _ _)
      | (with_reducible exact ih1 _ _ _ _ _ _ _ _ _ _)
      | (with_reducible exact ih2 _ _ _ _ _ _ _ _ _ _)
      | (with_reducible exact lines_Long.mono _ _ _)
      | (with_reducible exact valancelaw07_works.mono _)
      | (with_reducible exact LeO.refl _)
      | (with_reducible exact LeO.none _)
      | (with_reducible refine LeO.ite ?_ ?_)
      | (with_reducible refine LeO.bind ?_ (fun _ => ?_))
      | exact ih0 _ _ _ _ _ _ _ _
      | exact ih1 _ _ _ _ _ _ _ _ _ _
      | exact ih2 _ _ _ _ _ _ _ _ _ _
      | exact lines_Long.mono _ _ _
      | exact valancelaw07_works.mono _
      | exact LeO.none _
      | refine LeO.ite ?_ ?_
      | refine LeO.bind ?_ (fun _ => ?_)
set_option maxHeartbeats 8000000 in
set_option maxRecDepth 100000 in
theorem valancelaw07_LinesAll.calls (k : Nat) (A0 : Option Addr) (c0 : Nat) (l0 : List Int) (a1 : Int) (a2 : Int) (a3 : Bool) (r : Bool) (w : World) (hr0 : Kd.C (Kd.int .i64) w A0 l0.length l0) (hc0 : l0.length ≤ c0) (h : valancelaw07_LinesAll.f k l0 a1 a2 a3 = some r) :
    Calls Try.prog 10 #[.slice A0 l0.length c0, .int .i64 a1, .int .i64 a2, .bool a3] w fun e w' => e = .returned (.bool r) ∧ Below w.heap.size w w' := by
  have HR0 := Aside0.mk hr0
  have HC0 := Aside0.mk hc0
  clear hr0 hc0
  have HB := Aside0.mk (Below.refl w.heap.size w)
  have H : ((valancelaw07_works.f k).bind fun t382 => (if t382 = true then (if (l0.length : Int) > 200 then (some t382) else ((lines_Break.f l0 a1 a2 a3).bind fun t383 => (valancelaw07_LinesAll.l0 k l0 a1 a2 a3 t382 t383 0 0))) else (none))) = some r := h
  clear h
  replace H := Option.bind_eq_some_iff.mp H
  obtain ⟨t382, A50, H⟩ := H
  replace H : (if t382 = true then (if (l0.length : Int) > 200 then (some t382) else ((lines_Break.f l0 a1 a2 a3).bind fun t383 => (valancelaw07_LinesAll.l0 k l0 a1 a2 a3 t382 t383 0 0))) else (none)) = some r := H
  have A5 := Aside0.mk A50
  clear A50
  by_cases c6 : t382 = true
  · subst c6
    have H1 : (if (l0.length : Int) > 200 then (some true) else ((lines_Break.f l0 a1 a2 a3).bind fun t383 => (valancelaw07_LinesAll.l0 k l0 a1 a2 a3 true t383 0 0))) = some r := by rw [if_pos rfl] at H; exact H
    clear H
    have H := H1
    clear H1
    by_cases c7 : (l0.length : Int) > 200
    · rw [if_pos c7] at H
      have c7b0 : decide (200 < (l0.length : Int)) = true := decide_eq_true c7
      have c7b1 : decide (200 < l0.length) = true := decide_eq_true (by omega)
      clear c7
      obtain rfl := Option.some.inj H
      go_enter Try.func10, Try.ntmps10
      go_wp2_with (first | ((with_reducible refine gate_callee (f := 24) rfl ?_); refine goesL_ (some 16) rfl rfl Try.func24 (by kernel_rfl) rfl #[] rfl (by (try simp only [List.map_toArray, List.map_cons, List.map_nil]); first | done | rfl | (simp only [List.length_drop, List.length_take]; rfl)) ?_; (with_reducible refine (valancelaw07_works.calls k  true _ A5.out).mono ?_); rintro e w8 ⟨rfl, hb⟩; refine ⟨_, rfl, ?_⟩; have n0_ := Aside0.mk (below_step (by repeat (first | (with_reducible first | exact HB.out | apply below_alloc | apply pw_below_drewN | apply below_drew1) | exact HB.out)) hb); clear HB; have HB := n0_; clear n0_; (try clear hb); (try clear hb2); (try clear hk); (try clear hi)))
      go_ret
      exact ⟨by first | rfl | (simp [errW_none, errW_some] <;> rfl) | (simp [*, errW_none, errW_some] <;> rfl), by repeat (first | (with_reducible first | exact HB.out | apply below_alloc | apply pw_below_drewN | apply below_drew1) | exact HB.out)⟩
    · rw [if_neg c7] at H
      have c7b0 : decide (200 < (l0.length : Int)) = false := decide_eq_false c7
      have c7b1 : decide (200 < l0.length) = false := decide_eq_false (by omega)
      clear c7
      replace H := Option.bind_eq_some_iff.mp H
      obtain ⟨t383, A90, H⟩ := H
      replace H : (valancelaw07_LinesAll.l0 k l0 a1 a2 a3 true t383 0 0) = some r := H
      have A9 := Aside0.mk A90
      clear A90
      have H' := Aside0.mk H
      clear H
      go_enter Try.func10, Try.ntmps10
      go_wp2_with (first | ((with_reducible refine gate_callee (f := 24) rfl ?_); refine goesL_ (some 16) rfl rfl Try.func24 (by kernel_rfl) rfl #[] rfl (by (try simp only [List.map_toArray, List.map_cons, List.map_nil]); first | done | rfl | (simp only [List.length_drop, List.length_take]; rfl)) ?_; (with_reducible refine (valancelaw07_works.calls k  true _ A5.out).mono ?_); rintro e w10 ⟨rfl, hb⟩; refine ⟨_, rfl, ?_⟩; have n0_ := Aside0.mk (below_step (by repeat (first | (with_reducible first | exact HB.out | apply below_alloc | apply pw_below_drewN | apply below_drew1) | exact HB.out)) hb); clear HB; have HB := n0_; clear n0_; (try clear hb); (try clear hb2); (try clear hk); (try clear hi)) | ((with_reducible refine gate_callee (f := 26) rfl ?_); refine goesL_ (some 27) rfl rfl Try.func26 (by kernel_rfl) rfl #[.slice A0 l0.length c0, .int .i64 a1, .int .i64 a2, .bool a3] rfl (by (try simp only [List.map_toArray, List.map_cons, List.map_nil]); first | done | rfl | (simp only [List.length_drop, List.length_take]; rfl)) ?_; (with_reducible refine (lines_Break.calls _ _ l0 a1 a2 a3 t383 _ ?side1 ?side2 A9.out).mono ?_); (case side1 => repeat (first | exact (Kd.C_below HR0.out HB.out) | (with_reducible refine Kd.C_alloc ?_ _) | (with_reducible refine Kd.C_drewN ?_ _) | (with_reducible refine Kd.C_drew ?_))); (case side2 => exact HC0.out); rintro e w11 ⟨v384, rfl, ho0, hb⟩; refine ⟨_, rfl, ?_⟩; have n0_ := Aside0.mk (Kd.R_lower ho0 (below_size (by repeat (first | (with_reducible first | exact HB.out | apply below_alloc | apply pw_below_drewN | apply below_drew1) | exact HB.out)))); have n1_ := Aside0.mk (below_step (by repeat (first | (with_reducible first | exact HB.out | apply below_alloc | apply pw_below_drewN | apply below_drew1) | exact HB.out)) hb); clear HB; have HO385 := n0_; have HB := n1_; clear n0_ n1_; (try clear hb); (try clear hb2); (try clear hk); (try clear hi); (try clear ho0)))
      go_loopg [11, 12] k (fun kq v11 v12 w' => ∃ (x11_1 : Int) (x12_1 : Int), v11 = .int .i64 x11_1 ∧ v12 = .int .i64 x12_1 ∧ Aside0 (valancelaw07_LinesAll.l0 kq l0 a1 a2 a3 true t383 x11_1 x12_1 = some r) ∧ Aside0 (kq ≤ k) ∧ Aside0 (Kd.R k41 41 w' w.heap.size (fun _ => True) v384 t383) ∧ Aside0 (Below w.heap.size w w'))
      case atStart => exact ⟨(0), (0), (by first | rfl | (simp; done) | (simp [*]; done)), (by first | rfl | (simp; done) | (simp [*]; done)), H', ⟨Nat.le_refl _⟩, ⟨by (with_reducible repeat (first | apply Kd.R_alloc | apply Kd.R_drewN | apply Kd.R_drew)); exact HO385.out⟩, ⟨by repeat (first | (with_reducible first | exact HB.out | apply below_alloc | apply pw_below_drewN | apply below_drew1) | exact HB.out)⟩⟩
      case round =>
        clear H'
        try clear c1
        try clear c2
        try clear p2
        try clear c6
        try clear c7
        try clear c7b0
        try clear c7b1
        try clear c10
        obtain ⟨x11_1, x12_1, rfl, rfl, HA, HK1, HO_10, HB⟩ := hrel
        cases gk with
        | zero => exact absurd HA.out (by simp [valancelaw07_LinesAll.l0])
        | succ k1 =>
          have H := HA.out
          clear HA
          simp only [valancelaw07_LinesAll.l0] at H
          by_cases c12 : x12_1 < (t383.length : Int)
          · rw [if_pos c12] at H
            have c12b0 : decide (x12_1 < (t383.length : Int)) = true := decide_eq_true c12
            clear c12
            by_cases c13 : 0 ≤ x12_1
            · rw [if_pos c13] at H
              have c13b0 : decide (0 ≤ x12_1) = true := decide_eq_true c13
              clear c13
              have HC14 := Aside0.mk H
              clear H
              obtain ⟨Ao15, co15, eo15⟩ := Kd.R_slice HO_10.out
              subst eo15
              have p386 : 0 ≤ (x12_1 : Int) := of_decide_eq_true (by first | (with_reducible assumption) | assumption)
              have q386 : x12_1 < (t383.length : Int) := of_decide_eq_true (by first | (with_reducible assumption) | assumption)
              obtain ⟨ad386, e386, hx386_0, hx386_1⟩ := at_T41 (Kd.R_reads' HO_10.out).2.2 x12_1 p386 q386
              cases e386
              replace p386 := eq_true p386
              replace q386 := eq_true q386
              have p387 : 0 ≤ (x12_1 : Int) := of_decide_eq_true (by first | (with_reducible assumption) | assumption)
              have q387 : x12_1 < (t383.length : Int) := of_decide_eq_true (by first | (with_reducible assumption) | assumption)
              obtain ⟨ad387, e387, hx387_0, hx387_1⟩ := at_T41 (Kd.R_reads' HO_10.out).2.2 x12_1 p387 q387
              obtain rfl : ad386 = ad387 := (by injection e387)
              replace p387 := eq_true p387
              replace q387 := eq_true q387
              go_upto_region 13 with (fail)
              go_cut [63] (fun v63 wc => ∃ (kq : Nat) (x63_13 : Bool), v63 = .bool x63_13 ∧ Aside0 (valancelaw07_LinesAll.j1 kq l0 a1 a2 a3 true t383 x12_1 ((rd_T41 t383 x12_1).f0) ((rd_T41 t383 x12_1).f1) x63_13 = some r) ∧ Aside0 (kq ≤ k1) ∧ Aside0 (Kd.R k41 41 wc w.heap.size (fun _ => True) (.slice (some ad386) t383.length co15) t383) ∧ Aside0 (Below w.heap.size w wc))
              case first =>
                have H := HC14.out
                clear HC14
                by_cases c16 : ((rd_T41 t383 x12_1).f0) = x11_1
                · rw [if_pos c16] at H
                  have c16b0 : (((rd_T41 t383 x12_1).f0) == x11_1) = true := beq_iff_eq.mpr c16
                  have c16b1 : (((rd_T41 t383 x12_1).f0) != x11_1) = false := bne_eq_false_iff_eq.mpr c16
                  clear c16
                  (first | rw [c16b0] | (simp only [i64_w, i32_w]; rw [c16b0]) | skip)
                  by_cases c17 : ((rd_T41 t383 x12_1).f1) ≤ ((rd_T41 t383 x12_1).f0)
                  · rw [if_pos c17] at H
                    have c17b0 : decide (((rd_T41 t383 x12_1).f1) ≤ ((rd_T41 t383 x12_1).f0)) = true := decide_eq_true c17
                    clear c17
                    have H' := Aside0.mk H
                    clear H
                    go_wp2
                    go_meet
                    case rel => exact ⟨_, (true), (by first | rfl | (simp; done) | (simp [*]; done)), H', ⟨by have := HK1.out; first | omega | exact Nat.le_refl _⟩, ⟨by (with_reducible repeat (first | apply Kd.R_alloc | apply Kd.R_drewN | apply Kd.R_drew)); exact HO_10.out⟩, ⟨by repeat (first | (with_reducible first | exact HB.out | apply below_alloc | apply pw_below_drewN | apply below_drew1) | exact HB.out)⟩⟩
                  · rw [if_neg c17] at H
                    have c17b0 : decide (((rd_T41 t383 x12_1).f1) ≤ ((rd_T41 t383 x12_1).f0)) = false := decide_eq_false c17
                    clear c17
                    by_cases c18 : ((rd_T41 t383 x12_1).f1) > (l0.length : Int)
                    · rw [if_pos c18] at H
                      have c18b0 : decide ((l0.length : Int) < ((rd_T41 t383 x12_1).f1)) = true := decide_eq_true c18
                      clear c18
                      have H' := Aside0.mk H
                      clear H
                      go_wp2
                      go_meet
                      case rel => exact ⟨_, (true), (by first | rfl | (simp; done) | (simp [*]; done)), H', ⟨by have := HK1.out; first | omega | exact Nat.le_refl _⟩, ⟨by (with_reducible repeat (first | apply Kd.R_alloc | apply Kd.R_drewN | apply Kd.R_drew)); exact HO_10.out⟩, ⟨by repeat (first | (with_reducible first | exact HB.out | apply below_alloc | apply pw_below_drewN | apply below_drew1) | exact HB.out)⟩⟩
                    · rw [if_neg c18] at H
                      have c18b0 : decide ((l0.length : Int) < ((rd_T41 t383 x12_1).f1)) = false := decide_eq_false c18
                      clear c18
                      have H' := Aside0.mk H
                      clear H
                      go_wp2
                      go_meet
                      case rel => exact ⟨_, (decide ((wrap64 (((rd_T41 t383 x12_1).f1) - ((rd_T41 t383 x12_1).f0))) > 64)), (by first | rfl | (simp; done) | (simp [*]; done)), H', ⟨by have := HK1.out; first | omega | exact Nat.le_refl _⟩, ⟨by (with_reducible repeat (first | apply Kd.R_alloc | apply Kd.R_drewN | apply Kd.R_drew)); exact HO_10.out⟩, ⟨by repeat (first | (with_reducible first | exact HB.out | apply below_alloc | apply pw_below_drewN | apply below_drew1) | exact HB.out)⟩⟩
                · rw [if_neg c16] at H
                  have c16b0 : (((rd_T41 t383 x12_1).f0) == x11_1) = false := beq_eq_false_iff_ne.mpr c16
                  have c16b1 : (((rd_T41 t383 x12_1).f0) != x11_1) = true := bne_iff_ne.mpr c16
                  (first | rw [c16b0] | (simp only [i64_w, i32_w]; rw [c16b0]) | skip)
                  have H' := Aside0.mk H
                  clear H
                  go_wp2
                  go_meet
                  case rel => exact ⟨_, (true), (by first | rfl | (simp; done) | (simp [*]; done)), H', ⟨by have := HK1.out; first | omega | exact Nat.le_refl _⟩, ⟨by (with_reducible repeat (first | apply Kd.R_alloc | apply Kd.R_drewN | apply Kd.R_drew)); exact HO_10.out⟩, ⟨by repeat (first | (with_reducible first | exact HB.out | apply below_alloc | apply pw_below_drewN | apply below_drew1) | exact HB.out)⟩⟩
              case rest =>
                clear HC14
                try clear c1
                try clear c2
                try clear p2
                try clear p3
                try clear q3
                try clear hx3
                try clear c6
                try clear p6
                try clear c7
                try clear c7b0
                try clear c7b1
                try clear c10
                try clear c12
                try clear c12b0
                try clear c13
                try clear c13b0
                try clear c16
                try clear c16b0
                try clear c16b1
                try clear c17
                try clear c17b0
                try clear c18
                try clear c18b0
                try clear hx386_0
                try clear hx386_1
                try clear hx387_0
                try clear hx387_1
                try clear p2
                try clear p386
                try clear p387
                try clear q386
                try clear q387
                obtain ⟨kq, x63_13, rfl, HA, HJ13, HO_10, HB⟩ := hcut
                cases kq with
                | zero => exact absurd HA.out (by simp [valancelaw07_LinesAll.j1])
                | succ kj13 =>
                  have H := HA.out
                  clear HA
                  simp only [valancelaw07_LinesAll.j1] at H
                  by_cases c19 : x63_13 = true
                  · subst c19
                    have H1 : (none) = some r := by rw [if_pos rfl] at H; exact H
                    clear H
                    have H := H1
                    clear H1
                    exact absurd H (by simp)
                  · replace c19 := Bool.eq_false_iff.mpr c19
                    subst c19
                    have H1 : (if a3 = true then (if (wrap64 (((rd_T41 t383 x12_1).f1) - ((rd_T41 t383 x12_1).f0))) > 1 then (if 0 ≤ ((rd_T41 t383 x12_1).f0) then (if ((rd_T41 t383 x12_1).f0) ≤ ((rd_T41 t383 x12_1).f1) then (if ((rd_T41 t383 x12_1).f1) ≤ (l0.length : Int) then ((lines_Long.f kj13 ((l0.take (((rd_T41 t383 x12_1).f1) : Int).toNat).drop (((rd_T41 t383 x12_1).f0) : Int).toNat) a2).bind fun t389 => (valancelaw07_LinesAll.j2 kj13 l0 a1 a2 a3 true t383 x12_1 ((rd_T41 t383 x12_1).f0) ((rd_T41 t383 x12_1).f1) (decide (t389 > a1)))) else (none)) else (none)) else (none)) else (valancelaw07_LinesAll.j2 kj13 l0 a1 a2 a3 true t383 x12_1 ((rd_T41 t383 x12_1).f0) ((rd_T41 t383 x12_1).f1) false)) else (valancelaw07_LinesAll.j2 kj13 l0 a1 a2 a3 true t383 x12_1 ((rd_T41 t383 x12_1).f0) ((rd_T41 t383 x12_1).f1) false)) = some r := by rw [if_neg (show ¬ (false = true) by decide)] at H; exact H
                    clear H
                    have H := H1
                    clear H1
                    have HC20 := Aside0.mk H
                    clear H
                    go_upto_region 15 with (fail)
                    go_cut [80] (fun v80 wc => ∃ (kq : Nat) (x80_19 : Bool), v80 = .bool x80_19 ∧ Aside0 (valancelaw07_LinesAll.j2 kq l0 a1 a2 a3 true t383 x12_1 ((rd_T41 t383 x12_1).f0) ((rd_T41 t383 x12_1).f1) x80_19 = some r) ∧ Aside0 (kq ≤ kj13) ∧ Aside0 (Kd.R k41 41 wc w.heap.size (fun _ => True) (.slice (some ad386) t383.length co15) t383) ∧ Aside0 (Below w.heap.size w wc))
                    case first =>
                      have H := HC20.out
                      clear HC20
                      by_cases c21 : a3 = true
                      · subst c21
                        have H1 : (if (wrap64 (((rd_T41 t383 x12_1).f1) - ((rd_T41 t383 x12_1).f0))) > 1 then (if 0 ≤ ((rd_T41 t383 x12_1).f0) then (if ((rd_T41 t383 x12_1).f0) ≤ ((rd_T41 t383 x12_1).f1) then (if ((rd_T41 t383 x12_1).f1) ≤ (l0.length : Int) then ((lines_Long.f kj13 ((l0.take (((rd_T41 t383 x12_1).f1) : Int).toNat).drop (((rd_T41 t383 x12_1).f0) : Int).toNat) a2).bind fun t389 => (valancelaw07_LinesAll.j2 kj13 l0 a1 a2 true true t383 x12_1 ((rd_T41 t383 x12_1).f0) ((rd_T41 t383 x12_1).f1) (decide (t389 > a1)))) else (none)) else (none)) else (none)) else (valancelaw07_LinesAll.j2 kj13 l0 a1 a2 true true t383 x12_1 ((rd_T41 t383 x12_1).f0) ((rd_T41 t383 x12_1).f1) false)) = some r := by rw [if_pos rfl] at H; exact H
                        clear H
                        have H := H1
                        clear H1
                        by_cases c22 : (wrap64 (((rd_T41 t383 x12_1).f1) - ((rd_T41 t383 x12_1).f0))) > 1
                        · rw [if_pos c22] at H
                          have c22b0 : decide (1 < (wrap64 (((rd_T41 t383 x12_1).f1) - ((rd_T41 t383 x12_1).f0)))) = true := decide_eq_true c22
                          clear c22
                          (first | rw [c22b0] | (simp only [i64_w, i32_w]; rw [c22b0]) | skip)
                          by_cases c23 : 0 ≤ ((rd_T41 t383 x12_1).f0)
                          · rw [if_pos c23] at H
                            have c23b0 := eq_true c23
                            have c23b1 : decide (0 ≤ ((rd_T41 t383 x12_1).f0)) = true := decide_eq_true c23
                            clear c23
                            by_cases c24 : ((rd_T41 t383 x12_1).f0) ≤ ((rd_T41 t383 x12_1).f1)
                            · rw [if_pos c24] at H
                              have c24b0 := eq_true c24
                              have c24b1 : decide (((rd_T41 t383 x12_1).f0) ≤ ((rd_T41 t383 x12_1).f1)) = true := decide_eq_true c24
                              clear c24
                              by_cases c25 : ((rd_T41 t383 x12_1).f1) ≤ (l0.length : Int)
                              · rw [if_pos c25] at H
                                have c25b0 := eq_true c25
                                have c25b1 : decide (((rd_T41 t383 x12_1).f1) ≤ (l0.length : Int)) = true := decide_eq_true c25
                                clear c25
                                replace H := Option.bind_eq_some_iff.mp H
                                obtain ⟨t389, A260, H⟩ := H
                                replace H : (valancelaw07_LinesAll.j2 kj13 l0 a1 a2 true true t383 x12_1 ((rd_T41 t383 x12_1).f0) ((rd_T41 t383 x12_1).f1) (decide (t389 > a1))) = some r := H
                                have A26 := Aside0.mk A260
                                clear A260
                                have H' := Aside0.mk H
                                clear H
                                obtain ⟨i027, hi027, _, hsz27, _⟩ := info_parts info3
                                obtain ⟨A27, hcut27, hA27, hC27⟩ := print_mid_of (P := Try.prog) (Value.int .i64) 0 23 3 .i64 .i64 Try.underlying23 hi027 hsz27 A0 c0 l0 ((rd_T41 t383 x12_1).f0) ((rd_T41 t383 x12_1).f1) (of_decide_eq_true (by first | (with_reducible assumption) | assumption)) (by first | omega | exact of_decide_eq_true (by first | (with_reducible assumption) | assumption)) (of_decide_eq_true (by first | (with_reducible assumption) | assumption)) HC0.out
                                have HR388 := Aside0.mk (Kd.C_of_reads (h1 := fun _ => rfl) (hA27 _ (Kd.reads_of_C HR0.out)))
                                have HC388 := Aside0.mk hC27
                                clear hA27 hC27 hi027 hsz27
                                go_wp2_with (first | (go_at_call 23; (try rw [cut_len l0 (((rd_T41 t383 x12_1).f1)) (((rd_T41 t383 x12_1).f0)) (of_decide_eq_true (by first | (with_reducible assumption) | assumption))]); (with_reducible refine (lines_Long.calls kj13 _ _ ((l0.take (((rd_T41 t383 x12_1).f1) : Int).toNat).drop (((rd_T41 t383 x12_1).f0) : Int).toNat) a2 t389 _ ?side1 ?side2 A26.out).mono ?_); (case side1 => repeat (first | exact (Kd.C_below HR388.out HB.out) | (with_reducible refine Kd.C_alloc ?_ _) | (with_reducible refine Kd.C_drewN ?_ _) | (with_reducible refine Kd.C_drew ?_))); (case side2 => exact HC388.out); rintro e w28 ⟨rfl, hb⟩; have n0_ := Aside0.mk (Kd.R_below (by (with_reducible repeat (first | apply Kd.R_alloc | apply Kd.R_drewN | apply Kd.R_drew)); exact HO_10.out) hb); have n1_ := Aside0.mk (below_step (by repeat (first | (with_reducible first | exact HB.out | apply below_alloc | apply pw_below_drewN | apply below_drew1) | exact HB.out)) hb); clear HO_10; clear HB; have HO_10 := n0_; have HB := n1_; clear n0_ n1_; (try clear hb); (try clear hb2); (try clear hk); (try clear hi)))
                                go_meet
                                case rel => exact ⟨_, (decide (t389 > a1)), (by first | rfl | (simp; done) | (simp [*]; done)), H', ⟨by have := HK1.out; have := HJ13.out; first | omega | exact Nat.le_refl _⟩, ⟨by (with_reducible repeat (first | apply Kd.R_alloc | apply Kd.R_drewN | apply Kd.R_drew)); exact HO_10.out⟩, ⟨by repeat (first | (with_reducible first | exact HB.out | apply below_alloc | apply pw_below_drewN | apply below_drew1) | exact HB.out)⟩⟩
                              · rw [if_neg c25] at H
                                exact absurd H (by simp)
                            · rw [if_neg c24] at H
                              exact absurd H (by simp)
                          · rw [if_neg c23] at H
                            exact absurd H (by simp)
                        · rw [if_neg c22] at H
                          have c22b0 : decide (1 < (wrap64 (((rd_T41 t383 x12_1).f1) - ((rd_T41 t383 x12_1).f0)))) = false := decide_eq_false c22
                          clear c22
                          (first | rw [c22b0] | (simp only [i64_w, i32_w]; rw [c22b0]) | skip)
                          have H' := Aside0.mk H
                          clear H
                          go_wp2
                          go_meet
                          case rel => exact ⟨_, (false), (by first | rfl | (simp; done) | (simp [*]; done)), H', ⟨by have := HK1.out; have := HJ13.out; first | omega | exact Nat.le_refl _⟩, ⟨by (with_reducible repeat (first | apply Kd.R_alloc | apply Kd.R_drewN | apply Kd.R_drew)); exact HO_10.out⟩, ⟨by repeat (first | (with_reducible first | exact HB.out | apply below_alloc | apply pw_below_drewN | apply below_drew1) | exact HB.out)⟩⟩
                      · replace c21 := Bool.eq_false_iff.mpr c21
                        subst c21
                        have H1 : (valancelaw07_LinesAll.j2 kj13 l0 a1 a2 false true t383 x12_1 ((rd_T41 t383 x12_1).f0) ((rd_T41 t383 x12_1).f1) false) = some r := by rw [if_neg (show ¬ (false = true) by decide)] at H; exact H
                        clear H
                        have H := H1
                        clear H1
                        have H' := Aside0.mk H
                        clear H
                        go_wp2
                        go_meet
                        case rel => exact ⟨_, (false), (by first | rfl | (simp; done) | (simp [*]; done)), H', ⟨by have := HK1.out; have := HJ13.out; first | omega | exact Nat.le_refl _⟩, ⟨by (with_reducible repeat (first | apply Kd.R_alloc | apply Kd.R_drewN | apply Kd.R_drew)); exact HO_10.out⟩, ⟨by repeat (first | (with_reducible first | exact HB.out | apply below_alloc | apply pw_below_drewN | apply below_drew1) | exact HB.out)⟩⟩
                    case rest =>
                      clear HC20
                      try clear c1
                      try clear c2
                      try clear p2
                      try clear p3
                      try clear q3
                      try clear hx3
                      try clear c6
                      try clear p6
                      try clear c7
                      try clear c7b0
                      try clear c7b1
                      try clear c10
                      try clear c12
                      try clear c12b0
                      try clear c13
                      try clear c13b0
                      try clear c16
                      try clear c16b0
                      try clear c16b1
                      try clear c17
                      try clear c17b0
                      try clear c18
                      try clear c18b0
                      try clear c19
                      try clear c21
                      try clear c22
                      try clear c22b0
                      try clear c23
                      try clear c23b0
                      try clear c23b1
                      try clear c24
                      try clear c24b0
                      try clear c24b1
                      try clear c25
                      try clear c25b0
                      try clear c25b1
                      try clear c26
                      try clear hx386_0
                      try clear hx386_1
                      try clear hx387_0
                      try clear hx387_1
                      try clear p2
                      try clear p3
                      try clear p386
                      try clear p387
                      try clear p6
                      try clear q3
                      try clear q386
                      try clear q387
                      obtain ⟨kq, x80_19, rfl, HA, HJ19, HO_10, HB⟩ := hcut
                      cases kq with
                      | zero => exact absurd HA.out (by simp [valancelaw07_LinesAll.j2])
                      | succ kj19 =>
                        have H := HA.out
                        clear HA
                        simp only [valancelaw07_LinesAll.j2] at H
                        by_cases c29 : x80_19 = true
                        · subst c29
                          have H1 : (none) = some r := by rw [if_pos rfl] at H; exact H
                          clear H
                          have H := H1
                          clear H1
                          exact absurd H (by simp)
                        · replace c29 := Bool.eq_false_iff.mpr c29
                          subst c29
                          have H1 : (if ((rd_T41 t383 x12_1).f1) < (l0.length : Int) then (if (wrap64 (((rd_T41 t383 x12_1).f1) - ((rd_T41 t383 x12_1).f0))) < 64 then (if a3 = true then (if 0 ≤ ((rd_T41 t383 x12_1).f0) then (if ((rd_T41 t383 x12_1).f0) ≤ (wrap64 (((rd_T41 t383 x12_1).f1) + 1)) then (if (wrap64 (((rd_T41 t383 x12_1).f1) + 1)) ≤ (l0.length : Int) then ((lines_Long.f kj19 ((l0.take ((wrap64 (((rd_T41 t383 x12_1).f1) + 1)) : Int).toNat).drop (((rd_T41 t383 x12_1).f0) : Int).toNat) a2).bind fun t391 => (if t391 ≤ a1 then (none) else (valancelaw07_LinesAll.l0 kj19 l0 a1 a2 a3 true t383 ((rd_T41 t383 x12_1).f1) (wrap64 (x12_1 + 1))))) else (none)) else (none)) else (none)) else (none)) else (valancelaw07_LinesAll.l0 kj19 l0 a1 a2 a3 true t383 ((rd_T41 t383 x12_1).f1) (wrap64 (x12_1 + 1)))) else (valancelaw07_LinesAll.l0 kj19 l0 a1 a2 a3 true t383 ((rd_T41 t383 x12_1).f1) (wrap64 (x12_1 + 1)))) = some r := by rw [if_neg (show ¬ (false = true) by decide)] at H; exact H
                          clear H
                          have H := H1
                          clear H1
                          by_cases c30 : ((rd_T41 t383 x12_1).f1) < (l0.length : Int)
                          · rw [if_pos c30] at H
                            have c30b0 : decide (((rd_T41 t383 x12_1).f1) < (l0.length : Int)) = true := decide_eq_true c30
                            clear c30
                            by_cases c31 : (wrap64 (((rd_T41 t383 x12_1).f1) - ((rd_T41 t383 x12_1).f0))) < 64
                            · rw [if_pos c31] at H
                              have c31b0 : decide ((wrap64 (((rd_T41 t383 x12_1).f1) - ((rd_T41 t383 x12_1).f0))) < 64) = true := decide_eq_true c31
                              clear c31
                              by_cases c32 : a3 = true
                              · subst c32
                                have H1 : (if 0 ≤ ((rd_T41 t383 x12_1).f0) then (if ((rd_T41 t383 x12_1).f0) ≤ (wrap64 (((rd_T41 t383 x12_1).f1) + 1)) then (if (wrap64 (((rd_T41 t383 x12_1).f1) + 1)) ≤ (l0.length : Int) then ((lines_Long.f kj19 ((l0.take ((wrap64 (((rd_T41 t383 x12_1).f1) + 1)) : Int).toNat).drop (((rd_T41 t383 x12_1).f0) : Int).toNat) a2).bind fun t391 => (if t391 ≤ a1 then (none) else (valancelaw07_LinesAll.l0 kj19 l0 a1 a2 true true t383 ((rd_T41 t383 x12_1).f1) (wrap64 (x12_1 + 1))))) else (none)) else (none)) else (none)) = some r := by rw [if_pos rfl] at H; exact H
                                clear H
                                have H := H1
                                clear H1
                                by_cases c33 : 0 ≤ ((rd_T41 t383 x12_1).f0)
                                · rw [if_pos c33] at H
                                  have c33b0 := eq_true c33
                                  have c33b1 : decide (0 ≤ ((rd_T41 t383 x12_1).f0)) = true := decide_eq_true c33
                                  clear c33
                                  by_cases c34 : ((rd_T41 t383 x12_1).f0) ≤ (wrap64 (((rd_T41 t383 x12_1).f1) + 1))
                                  · rw [if_pos c34] at H
                                    have c34b0 := eq_true c34
                                    have c34b1 : decide (((rd_T41 t383 x12_1).f0) ≤ (wrap64 (((rd_T41 t383 x12_1).f1) + 1))) = true := decide_eq_true c34
                                    by_cases c35 : (wrap64 (((rd_T41 t383 x12_1).f1) + 1)) ≤ (l0.length : Int)
                                    · rw [if_pos c35] at H
                                      have c35b0 := eq_true c35
                                      have c35b1 : decide ((wrap64 (((rd_T41 t383 x12_1).f1) + 1)) ≤ (l0.length : Int)) = true := decide_eq_true c35
                                      replace H := Option.bind_eq_some_iff.mp H
                                      obtain ⟨t391, A360, H⟩ := H
                                      replace H : (if t391 ≤ a1 then (none) else (valancelaw07_LinesAll.l0 kj19 l0 a1 a2 true true t383 ((rd_T41 t383 x12_1).f1) (wrap64 (x12_1 + 1)))) = some r := H
                                      have A36 := Aside0.mk A360
                                      clear A360
                                      by_cases c37 : t391 ≤ a1
                                      · rw [if_pos c37] at H
                                        exact absurd H (by simp)
                                      · rw [if_neg c37] at H
                                        have c37b0 : decide (t391 ≤ a1) = false := decide_eq_false c37
                                        clear c37
                                        have H' := Aside0.mk H
                                        clear H
                                        obtain ⟨i038, hi038, _, hsz38, _⟩ := info_parts info3
                                        obtain ⟨A38, hcut38, hA38, hC38⟩ := print_mid_of (P := Try.prog) (Value.int .i64) 0 23 3 .i64 .i64 Try.underlying23 hi038 hsz38 A0 c0 l0 ((rd_T41 t383 x12_1).f0) (wrap64 (((rd_T41 t383 x12_1).f1) + 1)) (of_decide_eq_true (by first | (with_reducible assumption) | assumption)) (by first | omega | exact of_decide_eq_true (by first | (with_reducible assumption) | assumption)) (of_decide_eq_true (by first | (with_reducible assumption) | assumption)) HC0.out
                                        have HR390 := Aside0.mk (Kd.C_of_reads (h1 := fun _ => rfl) (hA38 _ (Kd.reads_of_C HR0.out)))
                                        have HC390 := Aside0.mk hC38
                                        clear hA38 hC38 hi038 hsz38
                                        go_wp2_with (first | (go_at_call 23; (try rw [cut_len l0 ((wrap64 (((rd_T41 t383 x12_1).f1) + 1))) (((rd_T41 t383 x12_1).f0)) (of_decide_eq_true (by first | (with_reducible assumption) | assumption))]); (with_reducible refine (lines_Long.calls kj19 _ _ ((l0.take ((wrap64 (((rd_T41 t383 x12_1).f1) + 1)) : Int).toNat).drop (((rd_T41 t383 x12_1).f0) : Int).toNat) a2 t391 _ ?side1 ?side2 A36.out).mono ?_); (case side1 => repeat (first | exact (Kd.C_below HR390.out HB.out) | (with_reducible refine Kd.C_alloc ?_ _) | (with_reducible refine Kd.C_drewN ?_ _) | (with_reducible refine Kd.C_drew ?_))); (case side2 => exact HC390.out); rintro e w39 ⟨rfl, hb⟩; have n0_ := Aside0.mk (Kd.R_below (by (with_reducible repeat (first | apply Kd.R_alloc | apply Kd.R_drewN | apply Kd.R_drew)); exact HO_10.out) hb); have n1_ := Aside0.mk (below_step (by repeat (first | (with_reducible first | exact HB.out | apply below_alloc | apply pw_below_drewN | apply below_drew1) | exact HB.out)) hb); clear HO_10; clear HB; have HO_10 := n0_; have HB := n1_; clear n0_ n1_; (try clear hb); (try clear hb2); (try clear hk); (try clear hi)))
                                        go_roundg kj19
                                        case measure => have := HK1.out; have := HJ13.out; have := HJ19.out; omega
                                        case rel => exact ⟨(((rd_T41 t383 x12_1).f1)), (wrap64 (x12_1 + 1)), (by first | rfl | (simp; done) | (simp [*]; done)), (by first | rfl | (simp; done) | (simp [*]; done)), H', ⟨by have := HK1.out; have := HJ13.out; have := HJ19.out; omega⟩, ⟨by (with_reducible repeat (first | apply Kd.R_alloc | apply Kd.R_drewN | apply Kd.R_drew)); exact HO_10.out⟩, ⟨by repeat (first | (with_reducible first | exact HB.out | apply below_alloc | apply pw_below_drewN | apply below_drew1) | exact HB.out)⟩⟩
                                    · rw [if_neg c35] at H
                                      exact absurd H (by simp)
                                  · rw [if_neg c34] at H
                                    exact absurd H (by simp)
                                · rw [if_neg c33] at H
                                  exact absurd H (by simp)
                              · replace c32 := Bool.eq_false_iff.mpr c32
                                subst c32
                                have H1 : (none) = some r := by rw [if_neg (show ¬ (false = true) by decide)] at H; exact H
                                clear H
                                have H := H1
                                clear H1
                                exact absurd H (by simp)
                            · rw [if_neg c31] at H
                              have c31b0 : decide ((wrap64 (((rd_T41 t383 x12_1).f1) - ((rd_T41 t383 x12_1).f0))) < 64) = false := decide_eq_false c31
                              clear c31
                              have H' := Aside0.mk H
                              clear H
                              go_wp2
                              go_roundg kj19
                              case measure => have := HK1.out; have := HJ13.out; have := HJ19.out; omega
                              case rel => exact ⟨(((rd_T41 t383 x12_1).f1)), (wrap64 (x12_1 + 1)), (by first | rfl | (simp; done) | (simp [*]; done)), (by first | rfl | (simp; done) | (simp [*]; done)), H', ⟨by have := HK1.out; have := HJ13.out; have := HJ19.out; omega⟩, ⟨by (with_reducible repeat (first | apply Kd.R_alloc | apply Kd.R_drewN | apply Kd.R_drew)); exact HO_10.out⟩, ⟨by repeat (first | (with_reducible first | exact HB.out | apply below_alloc | apply pw_below_drewN | apply below_drew1) | exact HB.out)⟩⟩
                          · rw [if_neg c30] at H
                            have c30b0 : decide (((rd_T41 t383 x12_1).f1) < (l0.length : Int)) = false := decide_eq_false c30
                            clear c30
                            have H' := Aside0.mk H
                            clear H
                            go_wp2
                            go_roundg kj19
                            case measure => have := HK1.out; have := HJ13.out; have := HJ19.out; omega
                            case rel => exact ⟨(((rd_T41 t383 x12_1).f1)), (wrap64 (x12_1 + 1)), (by first | rfl | (simp; done) | (simp [*]; done)), (by first | rfl | (simp; done) | (simp [*]; done)), H', ⟨by have := HK1.out; have := HJ13.out; have := HJ19.out; omega⟩, ⟨by (with_reducible repeat (first | apply Kd.R_alloc | apply Kd.R_drewN | apply Kd.R_drew)); exact HO_10.out⟩, ⟨by repeat (first | (with_reducible first | exact HB.out | apply below_alloc | apply pw_below_drewN | apply below_drew1) | exact HB.out)⟩⟩
            · rw [if_neg c13] at H
              exact absurd H (by simp)
          · rw [if_neg c12] at H
            have c12b0 : decide (x12_1 < (t383.length : Int)) = false := decide_eq_false c12
            clear c12
            by_cases c40 : true = true
            · clear c40
              have H1 : (some (x11_1 == (l0.length : Int))) = some r := by first | (rw [if_pos rfl] at H; exact H) | (rw [if_pos True.intro] at H; exact H)
              clear H
              have H := H1
              clear H1
              obtain rfl := Option.some.inj H
              obtain ⟨Ao41, co41, eo41⟩ := Kd.R_slice HO_10.out
              subst eo41
              go_wp2
              go_ret
              exact ⟨by first | rfl | (simp [errW_none, errW_some] <;> rfl) | (simp [*, errW_none, errW_some] <;> rfl), by repeat (first | (with_reducible first | exact HB.out | apply below_alloc | apply pw_below_drewN | apply below_drew1) | exact HB.out)⟩
            · exact absurd rfl c40
  · replace c6 := Bool.eq_false_iff.mpr c6
    subst c6
    have H1 : (none) = some r := by rw [if_neg (show ¬ (false = true) by decide)] at H; exact H
    clear H
    have H := H1
    clear H1
    exact absurd H (by simp)

/-- THE ONE PURE STATEMENT of valancelaw07_LinesAll: yours. -/
def valancelaw07_LinesAll.Pure : Prop := ∀ (l0 : List Int) (a1 : Int) (a2 : Int) (a3 : Bool), l0.length ≤ maxLen → l0.length * 8 ≤ 140737488351232 → (∀ x ∈ l0, (Lit.int .i64 x).wf = true) → (Lit.int .i64 a1).wf = true → (Lit.int .i64 a2).wf = true → ∃ k, valancelaw07_LinesAll.f k l0 a1 a2 a3 = some true
theorem valancelaw07_LinesAll.walk (P : valancelaw07_LinesAll.Pure) (a0 : Option Addr) (len0 cap0 : Nat) (z0 : List Int) (a1 : Int) (a2 : Int) (a3 : Bool) (w : World) (w0 : (a0 = none ∧ len0 = 0 ∧ cap0 = 0 ∧ z0 = []) ∨ ∃ x, a0 = some x ∧ len0 ≤ cap0 ∧ cap0 ≤ maxLen ∧ z0.length = cap0 ∧ (∀ i, i < z0.length → w.cell? (x.add i) = some (.int .i64 (z0.getD i 0))) ∧ ∀ n ∈ z0, (Lit.int .i64 n).wf = true) (y0 : len0 * 8 ≤ 140737488351232) (w1 : (Lit.int .i64 a1).wf = true) (w2 : (Lit.int .i64 a2).wf = true) :
    Calls Try.prog 10 #[.slice a0 len0 cap0, .int .i64 a1, .int .i64 a2, .bool a3] w fun e w' => e = .returned (.bool true) ∧ Below w.heap.size w w' := by
  obtain ⟨l0, rfl, hr0, hm0, hw0, hc0⟩ := ReadsInt.ofRowC w0
  obtain ⟨k, h⟩ := P l0 a1 a2 a3 hm0 y0 hw0 w1 w2
  refine (valancelaw07_LinesAll.calls k _ _ l0 a1 a2 a3 true w (Kd.C_of_reads (d := (0 : Int)) (h1 := fun _ => rfl) hr0) hc0 h).mono ?_
  rintro e w' ⟨rfl, hd⟩
  exact ⟨rfl, hd⟩

end Go.Proofs.Ytnmcefpnpfaklad.V
