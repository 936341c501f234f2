/- What the functions of this seat answer, as plain Lean functions, and that the calls come to just that (written by a program of this repo, over the kit's printer; Lean checks it). -/
import Derived.Test.YtnmcefpnpfaklacVx0
import Derived.Test.YtnmcefpnpfaklacVx4
import Derived.Test.YtnmcefpnpfaklacVx5
import Derived.Test.YtnmcefpnpfaklacVx9
import Derived.Test.YtnmcefpnpfaklacVx10
import Derived.Test.YtnmcefpnpfaklacVx11
import Derived.Test.YtnmcefpnpfaklacVx14
import Derived.Test.YtnmcefpnpfaklacVx15
import Derived.Test.YtnmcefpnpfaklacVx20
import Derived.Test.YtnmcefpnpfaklacVx21
namespace Go.Proofs.Ytnmcefpnpfaklac.V
open Go.RowKit Go.Proofs.YtnmcefpnpfaklacW.PrintWords Go.Proofs.YtnmcefpnpfaklacW.PrintLast Go.Proofs.YtnmcefpnpfaklacW.PrintMore
attribute [local go_sem] max2_int min2_int max_two min_two max_three min_three max_four min_four   -- for this text's walks alone
set_option linter.unusedVariables false
set_option linter.unusedSimpArgs false

/-! ### valancelaw11_SnapRests: function 3 -/
def valancelaw11_SnapRests.l0 : Nat → Int → List (S33) → Int → Int → Int → Bool → List (S35) → Int → Option (Bool)
  | 0, _, _, _, _, _, _, _, _ => none
  | k + 1, x0, x1, x2, x3, x4, x11, x12, x13 => if x13 < (x1.length : Int) then (if 0 ≤ x13 then ((snap_At.f ((rd_T33 x1 x13).f0.f0) ((rd_T33 x1 x13).f0.f1) ((rd_T33 x1 x13).f1) x2).bind fun bt199 => (if x13 < (x12.length : Int) then ((valanceref11_At.f ((rd_T35 x12 x13).f0.f0) ((rd_T35 x12 x13).f0.f1) ((rd_T35 x12 x13).f1) x2).bind fun bt202 => (if bt199.1 = bt202.1 then (if (bt199.2 != bt202.2) = true then (none) else (valancelaw11_SnapRests.l0 k x0 x1 x2 x3 x4 x11 x12 (wrap64 (x13 + 1)))) else (none))) else (none))) else (none)) else (if x11 = true then ((snap_Rest.f x0 x1 x2 x3 x4).bind fun t204 => ((valanceref11_Rest.f k x0 x12 x2 x3 x4).bind fun t205 => (if t204 = t205 then ((snap_Stops.f x1 x2 x3).bind fun t206 => ((valanceref11_Stops.f k x12 x2 x3).bind fun t209 => ((valanceref06_Row.f k t206 t209).bind fun t212 => (some t212)))) else (none)))) else (none))
def valancelaw11_SnapRests.f (k : Nat) (a0 : Int) (l1 : List (S33)) (a2 : Int) (a3 : Int) (a4 : Int) : Option (Bool) := (valancelaw11_works.f).bind fun t194 => (if t194 = true then (if (l1.length : Int) > 300 then (some t194) else ((valancelaw11_of.f k l1).bind fun t195 => (valancelaw11_SnapRests.l0 k a0 l1 a2 a3 a4 t194 t195 0))) else (none))
theorem valancelaw11_SnapRests.mono_l : ∀ k, (∀ y0 y1 y2 y3 y4 y5 y6 y7, LeO (valancelaw11_SnapRests.l0 k y0 y1 y2 y3 y4 y5 y6 y7) (valancelaw11_SnapRests.l0 (k + 1) y0 y1 y2 y3 y4 y5 y6 y7))
  | 0 => fun _ _ _ _ _ _ _ _ r h => by simp [valancelaw11_SnapRests.l0] at h
  | k + 1 => by
    have ih0 := valancelaw11_SnapRests.mono_l k
    · intro y0 y1 y2 y3 y4 y5 y6 y7
      unfold valancelaw11_SnapRests.l0
      repeat' first
      | (with_reducible exact ih0 _ _ _ _ _ _ _ _)
      | (with_reducible exact valancelaw11_of.mono _ _)
      | (with_reducible exact valanceref06_Row.mono _ _ _)
      | (with_reducible exact valanceref11_Rest.mono _ _ _ _ _ _)
      | (with_reducible exact valanceref11_Stops.mono _ _ _ _)
      | (with_reducible exact LeO.refl _)
      | (with_reducible exact LeO.none _)
      | (with_reducible refine LeO.ite ?_ ?_)
      | (with_reducible refine LeO.bind ?_ (fun _ => ?_))
      | exact ih0 _ _ _ _ _ _ _ _
      | exact valancelaw11_of.mono _ _
      | exact valanceref06_Row.mono _ _ _
      | exact valanceref11_Rest.mono _ _ _ _ _ _
      | exact valanceref11_Stops.mono _ _ _ _
      | exact LeO.none _
      | refine LeO.ite ?_ ?_
      | refine LeO.bind ?_ (fun _ => ?_)
theorem valancelaw11_SnapRests.mono : ∀ a0 a1 a2 a3 a4 k, LeO (valancelaw11_SnapRests.f k a0 a1 a2 a3 a4) (valancelaw11_SnapRests.f (k + 1) a0 a1 a2 a3 a4) := by
  intro a0 a1 a2 a3 a4 k
  have ih0 := valancelaw11_SnapRests.mono_l k
  unfold valancelaw11_SnapRests.f
  repeat' first
      | (with_reducible exact ih0 _ _ _ _ _ _ _ _)
      | (with_reducible exact valancelaw11_of.mono _ _)
      | (with_reducible exact valanceref06_Row.mono _ _ _)
      | (with_reducible exact valanceref11_Rest.mono _ _ _ _ _ _)
      | (with_reducible exact valanceref11_Stops.mono _ _ _ _)
      | (with_reducible exact LeO.refl _)
      | (with_reducible exact LeO.none _)
      | (with_reducible refine LeO.ite ?_ ?_)
      | (with_reducible refine LeO.bind ?_ (fun _ => ?_))
      | exact ih0 _ _ _ _ _ _ _ _
      | exact valancelaw11_of.mono _ _
      | exact valanceref06_Row.mono _ _ _
      | exact valanceref11_Rest.mono _ _ _ _ _ _
      | exact valanceref11_Stops.mono _ _ _ _
      | exact LeO.none _
      | refine LeO.ite ?_ ?_
      | refine LeO.bind ?_ (fun _ => ?_)
set_option maxHeartbeats 8000000 in
set_option maxRecDepth 100000 in
theorem valancelaw11_SnapRests.calls (k : Nat) (a0 : Int) (A1 : Option Addr) (c1 : Nat) (l1 : List (S33)) (a2 : Int) (a3 : Int) (a4 : Int) (r : Bool) (w : World) (hr1 : Kd.C k33 w A1 l1.length l1) (hc1 : l1.length ≤ c1) (h : valancelaw11_SnapRests.f k a0 l1 a2 a3 a4 = some r) :
    Calls Try.prog 3 #[.int .i64 a0, .slice A1 l1.length c1, .int .i64 a2, .int .i64 a3, .int .i64 a4] w fun e w' => e = .returned (.bool r) ∧ Below w.heap.size w w' := by
  have hu33 := Try.underlying33
  have hu35 := Try.underlying35
  have HR1 := Aside0.mk hr1
  have HC1 := Aside0.mk hc1
  clear hr1 hc1
  have HB := Aside0.mk (Below.refl w.heap.size w)
  have H : ((valancelaw11_works.f).bind fun t194 => (if t194 = true then (if (l1.length : Int) > 300 then (some t194) else ((valancelaw11_of.f k l1).bind fun t195 => (valancelaw11_SnapRests.l0 k a0 l1 a2 a3 a4 t194 t195 0))) else (none))) = some r := h
  clear h
  replace H := Option.bind_eq_some_iff.mp H
  obtain ⟨t194, A60, H⟩ := H
  replace H : (if t194 = true then (if (l1.length : Int) > 300 then (some t194) else ((valancelaw11_of.f k l1).bind fun t195 => (valancelaw11_SnapRests.l0 k a0 l1 a2 a3 a4 t194 t195 0))) else (none)) = some r := H
  have A6 := Aside0.mk A60
  clear A60
  by_cases c7 : t194 = true
  · subst c7
    have H1 : (if (l1.length : Int) > 300 then (some true) else ((valancelaw11_of.f k l1).bind fun t195 => (valancelaw11_SnapRests.l0 k a0 l1 a2 a3 a4 true t195 0))) = some r := by rw [if_pos rfl] at H; exact H
    clear H
    have H := H1
    clear H1
    by_cases c8 : (l1.length : Int) > 300
    · rw [if_pos c8] at H
      have c8b0 : decide (300 < (l1.length : Int)) = true := decide_eq_true c8
      have c8b1 : decide (300 < l1.length) = true := decide_eq_true (by omega)
      clear c8
      obtain rfl := Option.some.inj H
      go_enter Try.func3, Try.ntmps3
      go_wp2_with (first | ((with_reducible refine gate_callee (f := 15) rfl ?_); refine goesL_ (some 18) rfl rfl Try.func15 (by kernel_rfl) rfl #[] rfl (by (try simp only [List.map_toArray, List.map_cons, List.map_nil]); first | done | rfl | (simp only [List.length_drop, List.length_take]; rfl)) ?_; (with_reducible refine (valancelaw11_works.calls  true _ A6.out).mono ?_); rintro e w9 ⟨rfl, hb⟩; refine ⟨_, rfl, ?_⟩; have n0_ := Aside0.mk (below_step (by repeat (first | (with_reducible first | exact HB.out | apply below_alloc | apply pw_below_drewN | apply below_drew1) | exact HB.out)) hb); clear HB; have HB := n0_; clear n0_; (try clear hb); (try clear hb2); (try clear hk); (try clear hi)))
      go_ret
      exact ⟨by first | rfl | (simp [errW_none, errW_some] <;> rfl) | (simp [*, errW_none, errW_some] <;> rfl), by repeat (first | (with_reducible first | exact HB.out | apply below_alloc | apply pw_below_drewN | apply below_drew1) | exact HB.out)⟩
    · rw [if_neg c8] at H
      have c8b0 : decide (300 < (l1.length : Int)) = false := decide_eq_false c8
      have c8b1 : decide (300 < l1.length) = false := decide_eq_false (by omega)
      clear c8
      replace H := Option.bind_eq_some_iff.mp H
      obtain ⟨t195, A100, H⟩ := H
      replace H : (valancelaw11_SnapRests.l0 k a0 l1 a2 a3 a4 true t195 0) = some r := H
      have A10 := Aside0.mk A100
      clear A100
      have H' := Aside0.mk H
      clear H
      go_enter Try.func3, Try.ntmps3
      go_wp2_with (first | ((with_reducible refine gate_callee (f := 15) rfl ?_); refine goesL_ (some 18) rfl rfl Try.func15 (by kernel_rfl) rfl #[] rfl (by (try simp only [List.map_toArray, List.map_cons, List.map_nil]); first | done | rfl | (simp only [List.length_drop, List.length_take]; rfl)) ?_; (with_reducible refine (valancelaw11_works.calls  true _ A6.out).mono ?_); rintro e w11 ⟨rfl, hb⟩; refine ⟨_, rfl, ?_⟩; have n0_ := Aside0.mk (below_step (by repeat (first | (with_reducible first | exact HB.out | apply below_alloc | apply pw_below_drewN | apply below_drew1) | exact HB.out)) hb); clear HB; have HB := n0_; clear n0_; (try clear hb); (try clear hb2); (try clear hk); (try clear hi)) | ((with_reducible refine gate_callee (f := 16) rfl ?_); refine goesL_ (some 26) rfl rfl Try.func16 (by kernel_rfl) rfl #[.slice A1 l1.length c1] rfl (by (try simp only [List.map_toArray, List.map_cons, List.map_nil]); first | done | rfl | (simp only [List.length_drop, List.length_take]; rfl)) ?_; (with_reducible refine (valancelaw11_of.calls k _ _ l1 t195 _ ?side1 ?side2 A10.out).mono ?_); (case side1 => repeat (first | exact (Kd.C_below HR1.out HB.out) | (with_reducible refine Kd.C_alloc ?_ _) | (with_reducible refine Kd.C_drewN ?_ _) | (with_reducible refine Kd.C_drew ?_))); (case side2 => exact HC1.out); rintro e w12 ⟨v196, rfl, ho0, hb⟩; refine ⟨_, rfl, ?_⟩; have n0_ := Aside0.mk (Kd.R_lower ho0 (below_size (by repeat (first | (with_reducible first | exact HB.out | apply below_alloc | apply pw_below_drewN | apply below_drew1) | exact HB.out)))); have n1_ := Aside0.mk (below_step (by repeat (first | (with_reducible first | exact HB.out | apply below_alloc | apply pw_below_drewN | apply below_drew1) | exact HB.out)) hb); clear HB; have HO197 := n0_; have HB := n1_; clear n0_ n1_; (try clear hb); (try clear hb2); (try clear hk); (try clear hi); (try clear ho0)))
      go_loopg [13] k (fun kq v13 w' => ∃ (x13_1 : Int), v13 = .int .i64 x13_1 ∧ Aside0 (valancelaw11_SnapRests.l0 kq a0 l1 a2 a3 a4 true t195 x13_1 = some r) ∧ Aside0 (kq ≤ k) ∧ Aside0 (Kd.R k35 35 w' w.heap.size (fun _ => True) v196 t195) ∧ Aside0 (Below w.heap.size w w'))
      case atStart => exact ⟨(0), (by first | rfl | (simp; done) | (simp [*]; done)), H', ⟨Nat.le_refl _⟩, ⟨by (with_reducible repeat (first | apply Kd.R_alloc | apply Kd.R_drewN | apply Kd.R_drew)); exact HO197.out⟩, ⟨by repeat (first | (with_reducible first | exact HB.out | apply below_alloc | apply pw_below_drewN | apply below_drew1) | exact HB.out)⟩⟩
      case round =>
        clear H'
        try clear c1
        try clear p2
        try clear c3
        try clear c7
        try clear c8
        try clear c8b0
        try clear c8b1
        obtain ⟨x13_1, rfl, HA, HK1, HO_12, HB⟩ := hrel
        cases gk with
        | zero => exact absurd HA.out (by simp [valancelaw11_SnapRests.l0])
        | succ k1 =>
          have H := HA.out
          clear HA
          simp only [valancelaw11_SnapRests.l0] at H
          by_cases c13 : x13_1 < (l1.length : Int)
          · rw [if_pos c13] at H
            have c13b0 : decide (x13_1 < (l1.length : Int)) = true := decide_eq_true c13
            clear c13
            by_cases c14 : 0 ≤ x13_1
            · rw [if_pos c14] at H
              have c14b0 : decide (0 ≤ x13_1) = true := decide_eq_true c14
              clear c14
              replace H := Option.bind_eq_some_iff.mp H
              obtain ⟨⟨t199, t200⟩, A150, H⟩ := H
              replace H : (if x13_1 < (t195.length : Int) then ((valanceref11_At.f ((rd_T35 t195 x13_1).f0.f0) ((rd_T35 t195 x13_1).f0.f1) ((rd_T35 t195 x13_1).f1) a2).bind fun bt202 => (if t199 = bt202.1 then (if (t200 != bt202.2) = true then (none) else (valancelaw11_SnapRests.l0 k1 a0 l1 a2 a3 a4 true t195 (wrap64 (x13_1 + 1)))) else (none))) else (none)) = some r := H
              have A15 := Aside0.mk A150
              clear A150
              by_cases c16 : x13_1 < (t195.length : Int)
              · rw [if_pos c16] at H
                have c16b0 : decide (x13_1 < (t195.length : Int)) = true := decide_eq_true c16
                clear c16
                replace H := Option.bind_eq_some_iff.mp H
                obtain ⟨⟨t202, t203⟩, A170, H⟩ := H
                replace H : (if t199 = t202 then (if (t200 != t203) = true then (none) else (valancelaw11_SnapRests.l0 k1 a0 l1 a2 a3 a4 true t195 (wrap64 (x13_1 + 1)))) else (none)) = some r := H
                have A17 := Aside0.mk A170
                clear A170
                by_cases c18 : t199 = t202
                · rw [if_pos c18] at H
                  have c18b0 : (t199 == t202) = true := beq_iff_eq.mpr c18
                  have c18b1 : (t199 != t202) = false := bne_eq_false_iff_eq.mpr c18
                  clear c18
                  by_cases c19 : (t200 != t203) = true
                  · rw [if_pos c19] at H
                    exact absurd H (by simp)
                  · rw [if_neg c19] at H
                    have c19b0 : (t200 != t203) = false := by simpa using c19
                    (try (have c19b1 : decide (t200 = t203) = true := by simpa using c19))
                    (try (have c19b2 : (t200 == t203) = true := by simpa using c19))
                    clear c19
                    have H' := Aside0.mk H
                    clear H
                    have p198 : 0 ≤ (x13_1 : Int) := of_decide_eq_true (by first | (with_reducible assumption) | assumption)
                    have q198 : x13_1 < (l1.length : Int) := of_decide_eq_true (by first | (with_reducible assumption) | assumption)
                    obtain ⟨ad198, e198, hx198_0, hx198_1, hx198_2⟩ := at_T33 HR1.out x13_1 p198 q198
                    cases e198
                    replace hx198_0 := (HB.out.cell (World.block_lt_of_cell? w _ hx198_0)).trans hx198_0
                    replace hx198_1 := (HB.out.cell (World.block_lt_of_cell? w _ hx198_1)).trans hx198_1
                    replace hx198_2 := (HB.out.cell (World.block_lt_of_cell? w _ hx198_2)).trans hx198_2
                    replace p198 := eq_true p198
                    replace q198 := eq_true q198
                    go_wp2_with (first | ((with_reducible refine gate_callee (f := 17) rfl ?_); refine goesL_ (some 39) rfl rfl Try.func17 (by kernel_rfl) rfl #[.agg #[.int .i64 ((rd_T33 l1 x13_1).f0.f0), .int .i64 ((rd_T33 l1 x13_1).f0.f1), .int .i64 ((rd_T33 l1 x13_1).f1)], .int .i64 a2] rfl (by (try simp only [List.map_toArray, List.map_cons, List.map_nil]); first | done | rfl | (simp only [List.length_drop, List.length_take]; rfl)) ?_; (with_reducible refine (snap_At.calls ((rd_T33 l1 x13_1).f0.f0) ((rd_T33 l1 x13_1).f0.f1) ((rd_T33 l1 x13_1).f1) a2 t199 t200 _ A15.out).mono ?_); rintro e w20 ⟨rfl, hb⟩; refine ⟨_, rfl, ?_⟩; have n0_ := Aside0.mk (Kd.R_below (by (with_reducible repeat (first | apply Kd.R_alloc | apply Kd.R_drewN | apply Kd.R_drew)); exact HO_12.out) hb); have n1_ := Aside0.mk (below_step (by repeat (first | (with_reducible first | exact HB.out | apply below_alloc | apply pw_below_drewN | apply below_drew1) | exact HB.out)) hb); clear HO_12; clear HB; have HO_12 := n0_; have HB := n1_; clear n0_ n1_; (try clear hb); (try clear hb2); (try clear hk); (try clear hi); obtain ⟨Ao21, co21, eo21⟩ := Kd.R_slice HO_12.out; subst eo21; have p201 : 0 ≤ (x13_1 : Int) := of_decide_eq_true (by first | (with_reducible assumption) | assumption); have q201 : x13_1 < (t195.length : Int) := of_decide_eq_true (by first | (with_reducible assumption) | assumption); obtain ⟨ad201, e201, hx201_0, hx201_1, hx201_2⟩ := at_T35 (Kd.R_reads' HO_12.out).2.2 x13_1 p201 q201; cases e201; replace p201 := eq_true p201; replace q201 := eq_true q201) | ((with_reducible refine gate_callee (f := 18) rfl ?_); refine goesL_ (some 48) rfl rfl Try.func18 (by kernel_rfl) rfl #[.agg #[.int .i64 ((rd_T35 t195 x13_1).f0.f0), .int .i64 ((rd_T35 t195 x13_1).f0.f1), .int .i64 ((rd_T35 t195 x13_1).f1)], .int .i64 a2] rfl (by (try simp only [List.map_toArray, List.map_cons, List.map_nil]); first | done | rfl | (simp only [List.length_drop, List.length_take]; rfl)) ?_; (with_reducible refine (valanceref11_At.calls ((rd_T35 t195 x13_1).f0.f0) ((rd_T35 t195 x13_1).f0.f1) ((rd_T35 t195 x13_1).f1) a2 t202 t203 _ A17.out).mono ?_); rintro e w22 ⟨rfl, hb⟩; refine ⟨_, rfl, ?_⟩; have n0_ := Aside0.mk (Kd.R_below (by (with_reducible repeat (first | apply Kd.R_alloc | apply Kd.R_drewN | apply Kd.R_drew)); exact HO_12.out) hb); have n1_ := Aside0.mk (below_step (by repeat (first | (with_reducible first | exact HB.out | apply below_alloc | apply pw_below_drewN | apply below_drew1) | exact HB.out)) hb); clear HO_12; clear HB; have HO_12 := n0_; have HB := n1_; clear n0_ n1_; (try clear hb); (try clear hb2); (try clear hk); (try clear hi)))
                    go_roundg k1
                    case measure => have := HK1.out; omega
                    case rel => exact ⟨(wrap64 (x13_1 + 1)), (by first | rfl | (simp; done) | (simp [*]; done)), H', ⟨by have := HK1.out; omega⟩, ⟨by (with_reducible repeat (first | apply Kd.R_alloc | apply Kd.R_drewN | apply Kd.R_drew)); exact HO_12.out⟩, ⟨by repeat (first | (with_reducible first | exact HB.out | apply below_alloc | apply pw_below_drewN | apply below_drew1) | exact HB.out)⟩⟩
                · rw [if_neg c18] at H
                  exact absurd H (by simp)
              · rw [if_neg c16] at H
                exact absurd H (by simp)
            · rw [if_neg c14] at H
              exact absurd H (by simp)
          · rw [if_neg c13] at H
            have c13b0 : decide (x13_1 < (l1.length : Int)) = false := decide_eq_false c13
            clear c13
            by_cases c23 : true = true
            · clear c23
              have H1 : ((snap_Rest.f a0 l1 a2 a3 a4).bind fun t204 => ((valanceref11_Rest.f k1 a0 t195 a2 a3 a4).bind fun t205 => (if t204 = t205 then ((snap_Stops.f l1 a2 a3).bind fun t206 => ((valanceref11_Stops.f k1 t195 a2 a3).bind fun t209 => ((valanceref06_Row.f k1 t206 t209).bind fun t212 => (some t212)))) else (none)))) = some r := by first | (rw [if_pos rfl] at H; exact H) | (rw [if_pos True.intro] at H; exact H)
              clear H
              have H := H1
              clear H1
              replace H := Option.bind_eq_some_iff.mp H
              obtain ⟨t204, A240, H⟩ := H
              replace H : ((valanceref11_Rest.f k1 a0 t195 a2 a3 a4).bind fun t205 => (if t204 = t205 then ((snap_Stops.f l1 a2 a3).bind fun t206 => ((valanceref11_Stops.f k1 t195 a2 a3).bind fun t209 => ((valanceref06_Row.f k1 t206 t209).bind fun t212 => (some t212)))) else (none))) = some r := H
              have A24 := Aside0.mk A240
              clear A240
              replace H := Option.bind_eq_some_iff.mp H
              obtain ⟨t205, A250, H⟩ := H
              replace H : (if t204 = t205 then ((snap_Stops.f l1 a2 a3).bind fun t206 => ((valanceref11_Stops.f k1 t195 a2 a3).bind fun t209 => ((valanceref06_Row.f k1 t206 t209).bind fun t212 => (some t212)))) else (none)) = some r := H
              have A25 := Aside0.mk A250
              clear A250
              by_cases c26 : t204 = t205
              · rw [if_pos c26] at H
                have c26b0 : (t204 == t205) = true := beq_iff_eq.mpr c26
                have c26b1 : (t204 != t205) = false := bne_eq_false_iff_eq.mpr c26
                clear c26
                replace H := Option.bind_eq_some_iff.mp H
                obtain ⟨t206, A270, H⟩ := H
                replace H : ((valanceref11_Stops.f k1 t195 a2 a3).bind fun t209 => ((valanceref06_Row.f k1 t206 t209).bind fun t212 => (some t212))) = some r := H
                have A27 := Aside0.mk A270
                clear A270
                replace H := Option.bind_eq_some_iff.mp H
                obtain ⟨t209, A280, H⟩ := H
                replace H : ((valanceref06_Row.f k1 t206 t209).bind fun t212 => (some t212)) = some r := H
                have A28 := Aside0.mk A280
                clear A280
                replace H := Option.bind_eq_some_iff.mp H
                obtain ⟨t212, A290, H⟩ := H
                replace H : (some t212) = some r := H
                have A29 := Aside0.mk A290
                clear A290
                obtain rfl := Option.some.inj H
                go_wp2_with (first | (go_at_call 19; (with_reducible refine (snap_Rest.calls a0 _ _ l1 a2 a3 a4 t204 _ ?side1 ?side2 A24.out).mono ?_); (case side1 => repeat (first | exact (Kd.C_below HR1.out HB.out) | (with_reducible refine Kd.C_alloc ?_ _) | (with_reducible refine Kd.C_drewN ?_ _) | (with_reducible refine Kd.C_drew ?_))); (case side2 => exact HC1.out); rintro e w30 ⟨rfl, hb⟩; have n0_ := Aside0.mk (Kd.R_below (by (with_reducible repeat (first | apply Kd.R_alloc | apply Kd.R_drewN | apply Kd.R_drew)); exact HO_12.out) hb); have n1_ := Aside0.mk (below_step (by repeat (first | (with_reducible first | exact HB.out | apply below_alloc | apply pw_below_drewN | apply below_drew1) | exact HB.out)) hb); clear HO_12; clear HB; have HO_12 := n0_; have HB := n1_; clear n0_ n1_; (try clear hb); (try clear hb2); (try clear hk); (try clear hi); obtain ⟨Ao31, co31, eo31⟩ := Kd.R_slice HO_12.out; subst eo31) | (go_at_call 20; (with_reducible refine (valanceref11_Rest.calls k1 a0 _ _ t195 a2 a3 a4 t205 _ ?side1 ?side2 A25.out).mono ?_); (case side1 => repeat (first | exact (Kd.R_reads' HO_12.out).2.2 | (with_reducible refine Kd.C_alloc ?_ _) | (with_reducible refine Kd.C_drewN ?_ _) | (with_reducible refine Kd.C_drew ?_))); (case side2 => exact (Kd.R_reads' HO_12.out).2.1); rintro e w32 ⟨rfl, hb⟩; have n0_ := Aside0.mk (Kd.R_below (by (with_reducible repeat (first | apply Kd.R_alloc | apply Kd.R_drewN | apply Kd.R_drew)); exact HO_12.out) hb); have n1_ := Aside0.mk (below_step (by repeat (first | (with_reducible first | exact HB.out | apply below_alloc | apply pw_below_drewN | apply below_drew1) | exact HB.out)) hb); clear HO_12; clear HB; have HO_12 := n0_; have HB := n1_; clear n0_ n1_; (try clear hb); (try clear hb2); (try clear hk); (try clear hi)) | (go_at_call 22; (with_reducible refine (snap_Stops.calls _ _ l1 a2 a3 t206 _ ?side1 ?side2 A27.out).mono ?_); (case side1 => repeat (first | exact (Kd.C_below HR1.out HB.out) | (with_reducible refine Kd.C_alloc ?_ _) | (with_reducible refine Kd.C_drewN ?_ _) | (with_reducible refine Kd.C_drew ?_))); (case side2 => exact HC1.out); rintro e w33 ⟨v207, rfl, ho0, hb⟩; have n0_ := Aside0.mk (Kd.R_below (by (with_reducible repeat (first | apply Kd.R_alloc | apply Kd.R_drewN | apply Kd.R_drew)); exact HO_12.out) hb); have n1_ := Aside0.mk (Kd.R_lower ho0 (below_size (by repeat (first | (with_reducible first | exact HB.out | apply below_alloc | apply pw_below_drewN | apply below_drew1) | exact HB.out)))); have n2_ := Aside0.mk (below_step (by repeat (first | (with_reducible first | exact HB.out | apply below_alloc | apply pw_below_drewN | apply below_drew1) | exact HB.out)) hb); clear HO_12; clear HB; have HO_12 := n0_; have HO208 := n1_; have HB := n2_; clear n0_ n1_ n2_; (try clear hb); (try clear hb2); (try clear hk); (try clear hi); (try clear ho0)) | (go_at_call 23; (with_reducible refine (valanceref11_Stops.calls k1 _ _ t195 a2 a3 t209 _ ?side1 ?side2 A28.out).mono ?_); (case side1 => repeat (first | exact (Kd.R_reads' HO_12.out).2.2 | (with_reducible refine Kd.C_alloc ?_ _) | (with_reducible refine Kd.C_drewN ?_ _) | (with_reducible refine Kd.C_drew ?_))); (case side2 => exact (Kd.R_reads' HO_12.out).2.1); rintro e w34 ⟨v210, rfl, ho0, hb⟩; have n0_ := Aside0.mk (Kd.R_below (by (with_reducible repeat (first | apply Kd.R_alloc | apply Kd.R_drewN | apply Kd.R_drew)); exact HO_12.out) hb); have n1_ := Aside0.mk (Kd.R_elder' (by (with_reducible repeat (first | apply Kd.R_alloc | apply Kd.R_drewN | apply Kd.R_drew)); exact HO208.out) (Kd.R_base ho0) hb); have n2_ := Aside0.mk (Kd.R_lower (Kd.R_new' ho0 (Kd.R_lt (by (with_reducible repeat (first | apply Kd.R_alloc | apply Kd.R_drewN | apply Kd.R_drew)); exact HO208.out))) (below_size (by repeat (first | (with_reducible first | exact HB.out | apply below_alloc | apply pw_below_drewN | apply below_drew1) | exact HB.out)))); have n3_ := Aside0.mk (below_step (by repeat (first | (with_reducible first | exact HB.out | apply below_alloc | apply pw_below_drewN | apply below_drew1) | exact HB.out)) hb); clear HO_12; clear HO208; clear HB; have HO_12 := n0_; have HO208 := n1_; have HO211 := n2_; have HB := n3_; clear n0_ n1_ n2_ n3_; (try clear hb); (try clear hb2); (try clear hk); (try clear hi); (try clear ho0); obtain ⟨Ao35, co35, eo35⟩ := Kd.R_slice HO208.out; subst eo35; obtain ⟨Ao36, co36, eo36⟩ := Kd.R_slice HO211.out; subst eo36) | (go_at_call 21; (with_reducible refine (valanceref06_Row.calls k1 _ _ t206 _ _ t209 t212 _ ?side1 ?side2 ?side3 ?side4 A29.out).mono ?_); (case side1 => repeat (first | exact (Kd.R_reads' HO208.out).2.2 | (with_reducible refine Kd.C_alloc ?_ _) | (with_reducible refine Kd.C_drewN ?_ _) | (with_reducible refine Kd.C_drew ?_))); (case side2 => exact (Kd.R_reads' HO208.out).2.1); (case side3 => repeat (first | exact (Kd.R_reads' HO211.out).2.2 | (with_reducible refine Kd.C_alloc ?_ _) | (with_reducible refine Kd.C_drewN ?_ _) | (with_reducible refine Kd.C_drew ?_))); (case side4 => exact (Kd.R_reads' HO211.out).2.1); rintro e w' ⟨rfl, ⟨nd, rfl⟩⟩))
                go_ret
                exact ⟨by first | rfl | (simp [errW_none, errW_some] <;> rfl) | (simp [*, errW_none, errW_some] <;> rfl), by repeat (first | (with_reducible first | exact HB.out | apply below_alloc | apply pw_below_drewN | apply below_drew1) | exact HB.out)⟩
              · rw [if_neg c26] at H
                exact absurd H (by simp)
            · exact absurd rfl c23
  · replace c7 := Bool.eq_false_iff.mpr c7
    subst c7
    have H1 : (none) = some r := by rw [if_neg (show ¬ (false = true) by decide)] at H; exact H
    clear H
    have H := H1
    clear H1
    exact absurd H (by simp)

/-- THE ONE PURE STATEMENT of valancelaw11_SnapRests: yours. -/
def valancelaw11_SnapRests.Pure : Prop := ∀ (a0 : Int) (l1 : List (S33)) (a2 : Int) (a3 : Int) (a4 : Int), (Lit.int .i64 a0).wf = true → l1.length ≤ maxLen → l1.length * 24 ≤ 140737488351232 → (∀ x ∈ l1, (Lit.int .i64 x.f0.f0).wf = true ∧ (Lit.int .i64 x.f0.f1).wf = true ∧ (Lit.int .i64 x.f1).wf = true) → (Lit.int .i64 a2).wf = true → (Lit.int .i64 a3).wf = true → (Lit.int .i64 a4).wf = true → ∃ k, valancelaw11_SnapRests.f k a0 l1 a2 a3 a4 = some true
theorem valancelaw11_SnapRests.walk (P : valancelaw11_SnapRests.Pure) (a0 : Int) (a1 : Option Addr) (cap1 : Nat) (l1 : List (S33)) (a2 : Int) (a3 : Int) (a4 : Int) (w : World) (w0 : (Lit.int .i64 a0).wf = true) (hr1 : Kd.C k33 w a1 l1.length l1) (hc1 : l1.length ≤ cap1) (hm1 : l1.length ≤ maxLen) (y1 : l1.length * 24 ≤ 140737488351232) (hw1 : ∀ x ∈ l1, (Lit.int .i64 x.f0.f0).wf = true ∧ (Lit.int .i64 x.f0.f1).wf = true ∧ (Lit.int .i64 x.f1).wf = true) (w2 : (Lit.int .i64 a2).wf = true) (w3 : (Lit.int .i64 a3).wf = true) (w4 : (Lit.int .i64 a4).wf = true) :
    Calls Try.prog 3 #[.int .i64 a0, .slice a1 l1.length cap1, .int .i64 a2, .int .i64 a3, .int .i64 a4] w fun e w' => e = .returned (.bool true) ∧ Below w.heap.size w w' := by
  obtain ⟨k, h⟩ := P a0 l1 a2 a3 a4 w0 hm1 y1 hw1 w2 w3 w4
  refine (valancelaw11_SnapRests.calls k a0 _ _ l1 a2 a3 a4 true w hr1 hc1 h).mono ?_
  rintro e w' ⟨rfl, hd⟩
  exact ⟨rfl, hd⟩

end Go.Proofs.Ytnmcefpnpfaklac.V
