/- What the functions of this seat answer, as plain Lean functions, and that the calls come to just that (written by a program of this repo, over the kit's printer; Lean checks it). -/
import Derived.Test.YtnmcefpnpfaklacVx0
import Derived.Test.YtnmcefpnpfaklacVx5
import Derived.Test.YtnmcefpnpfaklacVx9
import Derived.Test.YtnmcefpnpfaklacVx10
namespace Go.Proofs.Ytnmcefpnpfaklac.V
open Go.RowKit Go.Proofs.YtnmcefpnpfaklacW.PrintWords Go.Proofs.YtnmcefpnpfaklacW.PrintLast Go.Proofs.YtnmcefpnpfaklacW.PrintMore
attribute [local go_sem] max2_int min2_int max_two min_two max_three min_three max_four min_four   -- for this text's walks alone
set_option linter.unusedVariables false
set_option linter.unusedSimpArgs false

/-! ### valancelaw11_SnapWithin: function 5 -/
def valancelaw11_SnapWithin.l0 : Nat → Int → List (S33) → Int → Int → Int → Bool → Int → List Int → Bool → Int → Option (Bool)
  | 0, _, _, _, _, _, _, _, _, _, _ => none
  | k + 1, x0, x1, x2, x3, x4, x11, x12, x13, x14, x15 => if x15 < (x13.length : Int) then (if x14 = true then (valancelaw11_SnapWithin.l0 k x0 x1 x2 x3 x4 x11 x12 x13 true (wrap64 (x15 + 1))) else (if 0 ≤ x15 then (valancelaw11_SnapWithin.l0 k x0 x1 x2 x3 x4 x11 x12 x13 ((rd x13 x15) == x12) (wrap64 (x15 + 1))) else (none))) else (if x12 < 0 then (none) else (if x12 > (mx x3 0) then (none) else (if x0 = 1 then (if (x13.length : Int) > 0 then (if x14 = true then (if x11 = true then ((snap_Rest.f x0 x1 x2 x3 x12).bind fun t228 => (if t228 = x12 then (if x0 = 0 then (some (x12 == (mn (mn (mx x4 0) (mx x3 0)) 1099511627776))) else (some true)) else (none))) else (none)) else (none)) else (if x11 = true then ((snap_Rest.f x0 x1 x2 x3 x12).bind fun t229 => (if t229 = x12 then (if x14 = true then (if x0 = 0 then (some (x12 == (mn (mn (mx x4 0) (mx x3 0)) 1099511627776))) else (some true)) else (if x12 = (mn (mn (mx x4 0) (mx x3 0)) 1099511627776) then (if x0 = 0 then (some (x12 == (mn (mn (mx x4 0) (mx x3 0)) 1099511627776))) else (some true)) else (none))) else (none))) else (none))) else (if x11 = true then ((snap_Rest.f x0 x1 x2 x3 x12).bind fun t230 => (if t230 = x12 then (if x14 = true then (if x0 = 0 then (some (x12 == (mn (mn (mx x4 0) (mx x3 0)) 1099511627776))) else (some true)) else (if x12 = (mn (mn (mx x4 0) (mx x3 0)) 1099511627776) then (if x0 = 0 then (some (x12 == (mn (mn (mx x4 0) (mx x3 0)) 1099511627776))) else (some true)) else (none))) else (none))) else (none)))))
def valancelaw11_SnapWithin.f (k : Nat) (a0 : Int) (l1 : List (S33)) (a2 : Int) (a3 : Int) (a4 : Int) : Option (Bool) := (valancelaw11_works.f).bind fun t222 => (if t222 = true then (if (l1.length : Int) > 300 then (some t222) else ((snap_Rest.f a0 l1 a2 a3 a4).bind fun t223 => ((snap_Stops.f l1 a2 a3).bind fun t224 => (valancelaw11_SnapWithin.l0 k a0 l1 a2 a3 a4 t222 t223 t224 false 0)))) else (none))
theorem valancelaw11_SnapWithin.mono_l : ∀ k, (∀ y0 y1 y2 y3 y4 y5 y6 y7 y8 y9, LeO (valancelaw11_SnapWithin.l0 k y0 y1 y2 y3 y4 y5 y6 y7 y8 y9) (valancelaw11_SnapWithin.l0 (k + 1) y0 y1 y2 y3 y4 y5 y6 y7 y8 y9))
  | 0 => fun _ _ _ _ _ _ _ _ _ _ r h => by simp [valancelaw11_SnapWithin.l0] at h
  | k + 1 => by
    have ih0 := valancelaw11_SnapWithin.mono_l k
    · intro y0 y1 y2 y3 y4 y5 y6 y7 y8 y9
      unfold valancelaw11_SnapWithin.l0
      repeat' first
      | (with_reducible exact ih0 _ _ _ _ _ _ _ _ _ _)
      | (with_reducible exact LeO.refl _)
      | (with_reducible exact LeO.none _)
      | (with_reducible refine LeO.ite ?_ ?_)
      | (with_reducible refine LeO.bind ?_ (fun _ => ?_))
      | exact ih0 _ _ _ _ _ _ _ _ _ _
      | exact LeO.none _
      | refine LeO.ite ?_ ?_
      | refine LeO.bind ?_ (fun _ => ?_)
theorem valancelaw11_SnapWithin.mono : ∀ a0 a1 a2 a3 a4 k, LeO (valancelaw11_SnapWithin.f k a0 a1 a2 a3 a4) (valancelaw11_SnapWithin.f (k + 1) a0 a1 a2 a3 a4) := by
  intro a0 a1 a2 a3 a4 k
  have ih0 := valancelaw11_SnapWithin.mono_l k
  unfold valancelaw11_SnapWithin.f
  repeat' first
      | (with_reducible exact ih0 _ _ _ _ _ _ _ _ _ _)
      | (with_reducible exact LeO.refl _)
      | (with_reducible exact LeO.none _)
      | (with_reducible refine LeO.ite ?_ ?_)
      | (with_reducible refine LeO.bind ?_ (fun _ => ?_))
      | exact ih0 _ _ _ _ _ _ _ _ _ _
      | exact LeO.none _
      | refine LeO.ite ?_ ?_
      | refine LeO.bind ?_ (fun _ => ?_)
set_option maxHeartbeats 8000000 in
set_option maxRecDepth 100000 in
theorem valancelaw11_SnapWithin.calls (k : Nat) (a0 : Int) (A1 : Option Addr) (c1 : Nat) (l1 : List (S33)) (a2 : Int) (a3 : Int) (a4 : Int) (r : Bool) (w : World) (hr1 : Kd.C k33 w A1 l1.length l1) (hc1 : l1.length ≤ c1) (h : valancelaw11_SnapWithin.f k a0 l1 a2 a3 a4 = some r) :
    Calls Try.prog 5 #[.int .i64 a0, .slice A1 l1.length c1, .int .i64 a2, .int .i64 a3, .int .i64 a4] w fun e w' => e = .returned (.bool r) ∧ Below w.heap.size w w' := by
  have HR1 := Aside0.mk hr1
  have HC1 := Aside0.mk hc1
  clear hr1 hc1
  have HB := Aside0.mk (Below.refl w.heap.size w)
  have H : ((valancelaw11_works.f).bind fun t222 => (if t222 = true then (if (l1.length : Int) > 300 then (some t222) else ((snap_Rest.f a0 l1 a2 a3 a4).bind fun t223 => ((snap_Stops.f l1 a2 a3).bind fun t224 => (valancelaw11_SnapWithin.l0 k a0 l1 a2 a3 a4 t222 t223 t224 false 0)))) else (none))) = some r := h
  clear h
  replace H := Option.bind_eq_some_iff.mp H
  obtain ⟨t222, A60, H⟩ := H
  replace H : (if t222 = true then (if (l1.length : Int) > 300 then (some t222) else ((snap_Rest.f a0 l1 a2 a3 a4).bind fun t223 => ((snap_Stops.f l1 a2 a3).bind fun t224 => (valancelaw11_SnapWithin.l0 k a0 l1 a2 a3 a4 t222 t223 t224 false 0)))) else (none)) = some r := H
  have A6 := Aside0.mk A60
  clear A60
  by_cases c7 : t222 = true
  · subst c7
    have H1 : (if (l1.length : Int) > 300 then (some true) else ((snap_Rest.f a0 l1 a2 a3 a4).bind fun t223 => ((snap_Stops.f l1 a2 a3).bind fun t224 => (valancelaw11_SnapWithin.l0 k a0 l1 a2 a3 a4 true t223 t224 false 0)))) = some r := by rw [if_pos rfl] at H; exact H
    clear H
    have H := H1
    clear H1
    by_cases c8 : (l1.length : Int) > 300
    · rw [if_pos c8] at H
      have c8b0 : decide (300 < (l1.length : Int)) = true := decide_eq_true c8
      have c8b1 : decide (300 < l1.length) = true := decide_eq_true (by omega)
      clear c8
      obtain rfl := Option.some.inj H
      go_enter Try.func5, Try.ntmps5
      go_wp2_with (first | ((with_reducible refine gate_callee (f := 15) rfl ?_); refine goesL_ (some 17) rfl rfl Try.func15 (by kernel_rfl) rfl #[] rfl (by (try simp only [List.map_toArray, List.map_cons, List.map_nil]); first | done | rfl | (simp only [List.length_drop, List.length_take]; rfl)) ?_; (with_reducible refine (valancelaw11_works.calls  true _ A6.out).mono ?_); rintro e w9 ⟨rfl, hb⟩; refine ⟨_, rfl, ?_⟩; have n0_ := Aside0.mk (below_step (by repeat (first | (with_reducible first | exact HB.out | apply below_alloc | apply pw_below_drewN | apply below_drew1) | exact HB.out)) hb); clear HB; have HB := n0_; clear n0_; (try clear hb); (try clear hb2); (try clear hk); (try clear hi)))
      go_ret
      exact ⟨by first | rfl | (cases Option.some.inj (A43.out.symm.trans A31.out); rfl) | (cases Option.some.inj (A62.out.symm.trans A31.out); rfl) | (cases Option.some.inj (A62.out.symm.trans A43.out); rfl) | (cases Option.some.inj (A31.out.symm.trans A43.out); rfl) | (cases Option.some.inj (A31.out.symm.trans A62.out); rfl) | (cases Option.some.inj (A43.out.symm.trans A62.out); rfl) | (simp [errW_none, errW_some] <;> rfl) | (simp [*, errW_none, errW_some] <;> rfl), by repeat (first | (with_reducible first | exact HB.out | apply below_alloc | apply pw_below_drewN | apply below_drew1) | exact HB.out)⟩
    · rw [if_neg c8] at H
      have c8b0 : decide (300 < (l1.length : Int)) = false := decide_eq_false c8
      have c8b1 : decide (300 < l1.length) = false := decide_eq_false (by omega)
      clear c8
      replace H := Option.bind_eq_some_iff.mp H
      obtain ⟨t223, A100, H⟩ := H
      replace H : ((snap_Stops.f l1 a2 a3).bind fun t224 => (valancelaw11_SnapWithin.l0 k a0 l1 a2 a3 a4 true t223 t224 false 0)) = some r := H
      have A10 := Aside0.mk A100
      clear A100
      replace H := Option.bind_eq_some_iff.mp H
      obtain ⟨t224, A110, H⟩ := H
      replace H : (valancelaw11_SnapWithin.l0 k a0 l1 a2 a3 a4 true t223 t224 false 0) = some r := H
      have A11 := Aside0.mk A110
      clear A110
      have H' := Aside0.mk H
      clear H
      go_enter Try.func5, Try.ntmps5
      go_wp2_with (first | ((with_reducible refine gate_callee (f := 15) rfl ?_); refine goesL_ (some 17) rfl rfl Try.func15 (by kernel_rfl) rfl #[] rfl (by (try simp only [List.map_toArray, List.map_cons, List.map_nil]); first | done | rfl | (simp only [List.length_drop, List.length_take]; rfl)) ?_; (with_reducible refine (valancelaw11_works.calls  true _ A6.out).mono ?_); rintro e w12 ⟨rfl, hb⟩; refine ⟨_, rfl, ?_⟩; have n0_ := Aside0.mk (below_step (by repeat (first | (with_reducible first | exact HB.out | apply below_alloc | apply pw_below_drewN | apply below_drew1) | exact HB.out)) hb); clear HB; have HB := n0_; clear n0_; (try clear hb); (try clear hb2); (try clear hk); (try clear hi)) | ((with_reducible refine gate_callee (f := 19) rfl ?_); refine goesL_ (some 29) rfl rfl Try.func19 (by kernel_rfl) rfl #[.int .i64 a0, .slice A1 l1.length c1, .int .i64 a2, .int .i64 a3, .int .i64 a4] rfl (by (try simp only [List.map_toArray, List.map_cons, List.map_nil]); first | done | rfl | (simp only [List.length_drop, List.length_take]; rfl)) ?_; (with_reducible refine (snap_Rest.calls a0 _ _ l1 a2 a3 a4 t223 _ ?side1 ?side2 A10.out).mono ?_); (case side1 => repeat (first | exact (Kd.C_below HR1.out HB.out) | (with_reducible refine Kd.C_alloc ?_ _) | (with_reducible refine Kd.C_drewN ?_ _) | (with_reducible refine Kd.C_drew ?_))); (case side2 => exact HC1.out); rintro e w13 ⟨rfl, hb⟩; refine ⟨_, rfl, ?_⟩; have n0_ := Aside0.mk (below_step (by repeat (first | (with_reducible first | exact HB.out | apply below_alloc | apply pw_below_drewN | apply below_drew1) | exact HB.out)) hb); clear HB; have HB := n0_; clear n0_; (try clear hb); (try clear hb2); (try clear hk); (try clear hi)) | ((with_reducible refine gate_callee (f := 22) rfl ?_); refine goesL_ (some 33) rfl rfl Try.func22 (by kernel_rfl) rfl #[.slice A1 l1.length c1, .int .i64 a2, .int .i64 a3] rfl (by (try simp only [List.map_toArray, List.map_cons, List.map_nil]); first | done | rfl | (simp only [List.length_drop, List.length_take]; rfl)) ?_; (with_reducible refine (snap_Stops.calls _ _ l1 a2 a3 t224 _ ?side1 ?side2 A11.out).mono ?_); (case side1 => repeat (first | exact (Kd.C_below HR1.out HB.out) | (with_reducible refine Kd.C_alloc ?_ _) | (with_reducible refine Kd.C_drewN ?_ _) | (with_reducible refine Kd.C_drew ?_))); (case side2 => exact HC1.out); rintro e w14 ⟨v225, rfl, ho0, hb⟩; refine ⟨_, rfl, ?_⟩; have n0_ := Aside0.mk (Kd.R_lower ho0 (below_size (by repeat (first | (with_reducible first | exact HB.out | apply below_alloc | apply pw_below_drewN | apply below_drew1) | exact HB.out)))); have n1_ := Aside0.mk (below_step (by repeat (first | (with_reducible first | exact HB.out | apply below_alloc | apply pw_below_drewN | apply below_drew1) | exact HB.out)) hb); clear HB; have HO226 := n0_; have HB := n1_; clear n0_ n1_; (try clear hb); (try clear hb2); (try clear hk); (try clear hi); (try clear ho0)))
      go_loopg [14, 15] k (fun kq v14 v15 w' => ∃ (x14_1 : Bool) (x15_1 : Int), v14 = .bool x14_1 ∧ v15 = .int .i64 x15_1 ∧ Aside0 (valancelaw11_SnapWithin.l0 kq a0 l1 a2 a3 a4 true t223 t224 x14_1 x15_1 = some r) ∧ Aside0 (kq ≤ k) ∧ Aside0 (Kd.R (Kd.int .i64) 3 w' w.heap.size (fun _ => True) v225 t224) ∧ Aside0 (Below w.heap.size w w'))
      case atStart => exact ⟨(false), (0), (by first | rfl | (simp; done) | (simp [*]; done)), (by first | rfl | (simp; done) | (simp [*]; done)), H', ⟨Nat.le_refl _⟩, ⟨by (with_reducible repeat (first | apply Kd.R_alloc | apply Kd.R_drewN | apply Kd.R_drew)); exact HO226.out⟩, ⟨by repeat (first | (with_reducible first | exact HB.out | apply below_alloc | apply pw_below_drewN | apply below_drew1) | exact HB.out)⟩⟩
      case round =>
        clear H'
        try clear c1
        try clear c2
        try clear p2
        try clear c5
        try clear c7
        try clear c8
        try clear c8b0
        try clear c8b1
        obtain ⟨x14_1, x15_1, rfl, rfl, HA, HK1, HO_13, HB⟩ := hrel
        cases gk with
        | zero => exact absurd HA.out (by simp [valancelaw11_SnapWithin.l0])
        | succ k1 =>
          have H := HA.out
          clear HA
          simp only [valancelaw11_SnapWithin.l0] at H
          by_cases c15 : x15_1 < (t224.length : Int)
          · rw [if_pos c15] at H
            have c15b0 : decide (x15_1 < (t224.length : Int)) = true := decide_eq_true c15
            clear c15
            by_cases c16 : x14_1 = true
            · subst c16
              have H1 : (valancelaw11_SnapWithin.l0 k1 a0 l1 a2 a3 a4 true t223 t224 true (wrap64 (x15_1 + 1))) = some r := by rw [if_pos rfl] at H; exact H
              clear H
              have H := H1
              clear H1
              have H' := Aside0.mk H
              clear H
              obtain ⟨Ao17, co17, eo17⟩ := Kd.R_slice HO_13.out
              subst eo17
              go_wp2
              go_roundg k1
              case measure => have := HK1.out; omega
              case rel => exact ⟨(true), (wrap64 (x15_1 + 1)), (by first | rfl | (simp; done) | (simp [*]; done)), (by first | rfl | (simp; done) | (simp [*]; done)), H', ⟨by have := HK1.out; omega⟩, ⟨by (with_reducible repeat (first | apply Kd.R_alloc | apply Kd.R_drewN | apply Kd.R_drew)); exact HO_13.out⟩, ⟨by repeat (first | (with_reducible first | exact HB.out | apply below_alloc | apply pw_below_drewN | apply below_drew1) | exact HB.out)⟩⟩
            · replace c16 := Bool.eq_false_iff.mpr c16
              subst c16
              have H1 : (if 0 ≤ x15_1 then (valancelaw11_SnapWithin.l0 k1 a0 l1 a2 a3 a4 true t223 t224 ((rd t224 x15_1) == t223) (wrap64 (x15_1 + 1))) else (none)) = some r := by rw [if_neg (show ¬ (false = true) by decide)] at H; exact H
              clear H
              have H := H1
              clear H1
              by_cases c18 : 0 ≤ x15_1
              · rw [if_pos c18] at H
                have c18b0 : decide (0 ≤ x15_1) = true := decide_eq_true c18
                clear c18
                have H' := Aside0.mk H
                clear H
                obtain ⟨Ao19, co19, eo19⟩ := Kd.R_slice HO_13.out
                subst eo19
                have p227 : 0 ≤ (x15_1 : Int) := of_decide_eq_true (by first | (with_reducible assumption) | assumption)
                have q227 : x15_1 < (t224.length : Int) := of_decide_eq_true (by first | (with_reducible assumption) | assumption)
                obtain ⟨ad227, e227, hx227_0⟩ := Kd.at_int (Kd.R_reads' HO_13.out).2.2 x15_1 p227 q227
                cases e227
                replace p227 := eq_true p227
                replace q227 := eq_true q227
                go_wp2
                go_roundg k1
                case measure => have := HK1.out; omega
                case rel => exact ⟨(((rd t224 x15_1) == t223)), (wrap64 (x15_1 + 1)), (by first | rfl | (simp; done) | (simp [*]; done)), (by first | rfl | (simp; done) | (simp [*]; done)), H', ⟨by have := HK1.out; omega⟩, ⟨by (with_reducible repeat (first | apply Kd.R_alloc | apply Kd.R_drewN | apply Kd.R_drew)); exact HO_13.out⟩, ⟨by repeat (first | (with_reducible first | exact HB.out | apply below_alloc | apply pw_below_drewN | apply below_drew1) | exact HB.out)⟩⟩
              · rw [if_neg c18] at H
                exact absurd H (by simp)
          · rw [if_neg c15] at H
            have c15b0 : decide (x15_1 < (t224.length : Int)) = false := decide_eq_false c15
            clear c15
            by_cases c20 : t223 < 0
            · rw [if_pos c20] at H
              exact absurd H (by simp)
            · rw [if_neg c20] at H
              have c20b0 : decide (t223 < 0) = false := decide_eq_false c20
              clear c20
              obtain ⟨ji21, hji21⟩ : ∃ j_ : Int, (mx a3 0) = j_ := ⟨_, rfl⟩
              replace H : (if t223 > (ji21) then (none) else (if a0 = 1 then (if (t224.length : Int) > 0 then (if x14_1 = true then (if true = true then ((snap_Rest.f a0 l1 a2 a3 t223).bind fun t228 => (if t228 = t223 then (if a0 = 0 then (some (t223 == (mn (mn (mx a4 0) (ji21)) 1099511627776))) else (some true)) else (none))) else (none)) else (none)) else (if true = true then ((snap_Rest.f a0 l1 a2 a3 t223).bind fun t229 => (if t229 = t223 then (if x14_1 = true then (if a0 = 0 then (some (t223 == (mn (mn (mx a4 0) (ji21)) 1099511627776))) else (some true)) else (if t223 = (mn (mn (mx a4 0) (ji21)) 1099511627776) then (if a0 = 0 then (some (t223 == (mn (mn (mx a4 0) (ji21)) 1099511627776))) else (some true)) else (none))) else (none))) else (none))) else (if true = true then ((snap_Rest.f a0 l1 a2 a3 t223).bind fun t230 => (if t230 = t223 then (if x14_1 = true then (if a0 = 0 then (some (t223 == (mn (mn (mx a4 0) (ji21)) 1099511627776))) else (some true)) else (if t223 = (mn (mn (mx a4 0) (ji21)) 1099511627776) then (if a0 = 0 then (some (t223 == (mn (mn (mx a4 0) (ji21)) 1099511627776))) else (some true)) else (none))) else (none))) else (none)))) = some r := by first | (rw [hji21] at H; exact H) | (simp only [hji21] at H ⊢; exact H)
              (try (have hji21l : 0 ≤ ji21 := by (rw [← hji21]; unfold mx; (repeat' split) <;> omega)))
              (try (have hji21m : 0 ≤ ji21 := by omega))
              have hji21_ : (if a3 < 0 then 0 else a3) = ji21 := hji21
              by_cases c22 : t223 > (ji21)
              · rw [if_pos c22] at H
                exact absurd H (by simp)
              · rw [if_neg c22] at H
                have c22b0 : decide ((ji21) < t223) = false := decide_eq_false c22
                clear c22
                by_cases c23 : a0 = 1
                · rw [if_pos c23] at H
                  have c23b0 : (a0 == 1) = true := beq_iff_eq.mpr c23
                  have c23b1 : (a0 != 1) = false := bne_eq_false_iff_eq.mpr c23
                  clear c23
                  by_cases c24 : (t224.length : Int) > 0
                  · rw [if_pos c24] at H
                    have c24b0 : decide (0 < (t224.length : Int)) = true := decide_eq_true c24
                    have c24b1 : decide (0 < t224.length) = true := decide_eq_true (by omega)
                    clear c24
                    by_cases c25 : x14_1 = true
                    · subst c25
                      have H1 : (if true = true then ((snap_Rest.f a0 l1 a2 a3 t223).bind fun t228 => (if t228 = t223 then (if a0 = 0 then (some (t223 == (mn (mn (mx a4 0) (ji21)) 1099511627776))) else (some true)) else (none))) else (none)) = some r := by rw [if_pos rfl] at H; exact H
                      clear H
                      have H := H1
                      clear H1
                      obtain ⟨ji26, hji26⟩ : ∃ j_ : Int, (mx a4 0) = j_ := ⟨_, rfl⟩
                      replace H : (if true = true then ((snap_Rest.f a0 l1 a2 a3 t223).bind fun t228 => (if t228 = t223 then (if a0 = 0 then (some (t223 == (mn (mn (ji26) (ji21)) 1099511627776))) else (some true)) else (none))) else (none)) = some r := by first | (rw [hji26] at H; exact H) | (simp only [hji26] at H ⊢; exact H)
                      have hji26_ : (if a4 < 0 then 0 else a4) = ji26 := hji26
                      obtain ⟨ji28, hji28⟩ : ∃ j_ : Int, (mn (ji26) (ji21)) = j_ := ⟨_, rfl⟩
                      replace H : (if true = true then ((snap_Rest.f a0 l1 a2 a3 t223).bind fun t228 => (if t228 = t223 then (if a0 = 0 then (some (t223 == (mn (ji28) 1099511627776))) else (some true)) else (none))) else (none)) = some r := by first | (rw [hji28] at H; exact H) | (simp only [hji28] at H ⊢; exact H)
                      have hji28_ : (if (ji21) < (ji26) then (ji21) else (ji26)) = ji28 := hji28
                      obtain ⟨ji29, hji29⟩ : ∃ j_ : Int, (mn (ji28) 1099511627776) = j_ := ⟨_, rfl⟩
                      replace H : (if true = true then ((snap_Rest.f a0 l1 a2 a3 t223).bind fun t228 => (if t228 = t223 then (if a0 = 0 then (some (t223 == (ji29))) else (some true)) else (none))) else (none)) = some r := by first | (rw [hji29] at H; exact H) | (simp only [hji29] at H ⊢; exact H)
                      have hji29_ : (if 1099511627776 < (ji28) then 1099511627776 else (ji28)) = ji29 := hji29
                      by_cases c30 : true = true
                      · clear c30
                        have H1 : ((snap_Rest.f a0 l1 a2 a3 t223).bind fun t228 => (if t228 = t223 then (if a0 = 0 then (some (t223 == (ji29))) else (some true)) else (none))) = some r := by first | (rw [if_pos rfl] at H; exact H) | (rw [if_pos True.intro] at H; exact H)
                        clear H
                        have H := H1
                        clear H1
                        replace H := Option.bind_eq_some_iff.mp H
                        obtain ⟨t228, A310, H⟩ := H
                        replace H : (if t228 = t223 then (if a0 = 0 then (some (t223 == (ji29))) else (some true)) else (none)) = some r := H
                        have A31 := Aside0.mk A310
                        clear A310
                        by_cases c32 : t228 = t223
                        · rw [if_pos c32] at H
                          have c32b0 : (t228 == t223) = true := beq_iff_eq.mpr c32
                          have c32b1 : (t228 != t223) = false := bne_eq_false_iff_eq.mpr c32
                          clear c32
                          by_cases c33 : a0 = 0
                          · rw [if_pos c33] at H
                            have c33b0 : (a0 == 0) = true := beq_iff_eq.mpr c33
                            have c33b1 : (a0 != 0) = false := bne_eq_false_iff_eq.mpr c33
                            clear c33
                            obtain rfl := Option.some.inj H
                            obtain ⟨Ao34, co34, eo34⟩ := Kd.R_slice HO_13.out
                            subst eo34
                            go_wp2_with (first | (go_at_call 19; (with_reducible refine (snap_Rest.calls a0 _ _ l1 a2 a3 t223 t228 _ ?side1 ?side2 A31.out).mono ?_); (case side1 => repeat (first | exact (Kd.C_below HR1.out HB.out) | (with_reducible refine Kd.C_alloc ?_ _) | (with_reducible refine Kd.C_drewN ?_ _) | (with_reducible refine Kd.C_drew ?_))); (case side2 => exact HC1.out); rintro e w35 ⟨rfl, hb⟩; have n0_ := Aside0.mk (Kd.R_below (by (with_reducible repeat (first | apply Kd.R_alloc | apply Kd.R_drewN | apply Kd.R_drew)); exact HO_13.out) hb); have n1_ := Aside0.mk (below_step (by repeat (first | (with_reducible first | exact HB.out | apply below_alloc | apply pw_below_drewN | apply below_drew1) | exact HB.out)) hb); clear HO_13; clear HB; have HO_13 := n0_; have HB := n1_; clear n0_ n1_; (try clear hb); (try clear hb2); (try clear hk); (try clear hi)))
                            go_ret
                            exact ⟨by first | rfl | (cases Option.some.inj (A43.out.symm.trans A31.out); rfl) | (cases Option.some.inj (A62.out.symm.trans A31.out); rfl) | (cases Option.some.inj (A62.out.symm.trans A43.out); rfl) | (cases Option.some.inj (A31.out.symm.trans A43.out); rfl) | (cases Option.some.inj (A31.out.symm.trans A62.out); rfl) | (cases Option.some.inj (A43.out.symm.trans A62.out); rfl) | (simp [errW_none, errW_some] <;> rfl) | (simp only [← hji21, ← hji26, ← hji28, ← hji29]; first | rfl | (simp [errW_none, errW_some] <;> rfl)) | (simp [*, errW_none, errW_some] <;> rfl), by repeat (first | (with_reducible first | exact HB.out | apply below_alloc | apply pw_below_drewN | apply below_drew1) | exact HB.out)⟩
                          · rw [if_neg c33] at H
                            have c33b0 : (a0 == 0) = false := beq_eq_false_iff_ne.mpr c33
                            have c33b1 : (a0 != 0) = true := bne_iff_ne.mpr c33
                            obtain rfl := Option.some.inj H
                            obtain ⟨Ao36, co36, eo36⟩ := Kd.R_slice HO_13.out
                            subst eo36
                            go_wp2_with (first | (go_at_call 19; (with_reducible refine (snap_Rest.calls a0 _ _ l1 a2 a3 t223 t228 _ ?side1 ?side2 A31.out).mono ?_); (case side1 => repeat (first | exact (Kd.C_below HR1.out HB.out) | (with_reducible refine Kd.C_alloc ?_ _) | (with_reducible refine Kd.C_drewN ?_ _) | (with_reducible refine Kd.C_drew ?_))); (case side2 => exact HC1.out); rintro e w37 ⟨rfl, hb⟩; have n0_ := Aside0.mk (Kd.R_below (by (with_reducible repeat (first | apply Kd.R_alloc | apply Kd.R_drewN | apply Kd.R_drew)); exact HO_13.out) hb); have n1_ := Aside0.mk (below_step (by repeat (first | (with_reducible first | exact HB.out | apply below_alloc | apply pw_below_drewN | apply below_drew1) | exact HB.out)) hb); clear HO_13; clear HB; have HO_13 := n0_; have HB := n1_; clear n0_ n1_; (try clear hb); (try clear hb2); (try clear hk); (try clear hi)))
                            go_ret
                            exact ⟨by first | rfl | (cases Option.some.inj (A43.out.symm.trans A31.out); rfl) | (cases Option.some.inj (A62.out.symm.trans A31.out); rfl) | (cases Option.some.inj (A62.out.symm.trans A43.out); rfl) | (cases Option.some.inj (A31.out.symm.trans A43.out); rfl) | (cases Option.some.inj (A31.out.symm.trans A62.out); rfl) | (cases Option.some.inj (A43.out.symm.trans A62.out); rfl) | (simp [errW_none, errW_some] <;> rfl) | (simp only [← hji21, ← hji26, ← hji28, ← hji29]; first | rfl | (simp [errW_none, errW_some] <;> rfl)) | (simp [*, errW_none, errW_some] <;> rfl), by repeat (first | (with_reducible first | exact HB.out | apply below_alloc | apply pw_below_drewN | apply below_drew1) | exact HB.out)⟩
                        · rw [if_neg c32] at H
                          exact absurd H (by simp)
                      · exact absurd rfl c30
                    · replace c25 := Bool.eq_false_iff.mpr c25
                      subst c25
                      have H1 : (none) = some r := by rw [if_neg (show ¬ (false = true) by decide)] at H; exact H
                      clear H
                      have H := H1
                      clear H1
                      exact absurd H (by simp)
                  · rw [if_neg c24] at H
                    have c24b0 : decide (0 < (t224.length : Int)) = false := decide_eq_false c24
                    have c24b1 : decide (0 < t224.length) = false := decide_eq_false (by omega)
                    clear c24
                    obtain ⟨ji38, hji38⟩ : ∃ j_ : Int, (mx a4 0) = j_ := ⟨_, rfl⟩
                    replace H : (if true = true then ((snap_Rest.f a0 l1 a2 a3 t223).bind fun t229 => (if t229 = t223 then (if x14_1 = true then (if a0 = 0 then (some (t223 == (mn (mn (ji38) (ji21)) 1099511627776))) else (some true)) else (if t223 = (mn (mn (ji38) (ji21)) 1099511627776) then (if a0 = 0 then (some (t223 == (mn (mn (ji38) (ji21)) 1099511627776))) else (some true)) else (none))) else (none))) else (none)) = some r := by first | (rw [hji38] at H; exact H) | (simp only [hji38] at H ⊢; exact H)
                    have hji38_ : (if a4 < 0 then 0 else a4) = ji38 := hji38
                    obtain ⟨ji40, hji40⟩ : ∃ j_ : Int, (mn (ji38) (ji21)) = j_ := ⟨_, rfl⟩
                    replace H : (if true = true then ((snap_Rest.f a0 l1 a2 a3 t223).bind fun t229 => (if t229 = t223 then (if x14_1 = true then (if a0 = 0 then (some (t223 == (mn (ji40) 1099511627776))) else (some true)) else (if t223 = (mn (ji40) 1099511627776) then (if a0 = 0 then (some (t223 == (mn (ji40) 1099511627776))) else (some true)) else (none))) else (none))) else (none)) = some r := by first | (rw [hji40] at H; exact H) | (simp only [hji40] at H ⊢; exact H)
                    have hji40_ : (if (ji21) < (ji38) then (ji21) else (ji38)) = ji40 := hji40
                    obtain ⟨ji41, hji41⟩ : ∃ j_ : Int, (mn (ji40) 1099511627776) = j_ := ⟨_, rfl⟩
                    replace H : (if true = true then ((snap_Rest.f a0 l1 a2 a3 t223).bind fun t229 => (if t229 = t223 then (if x14_1 = true then (if a0 = 0 then (some (t223 == (ji41))) else (some true)) else (if t223 = (ji41) then (if a0 = 0 then (some (t223 == (ji41))) else (some true)) else (none))) else (none))) else (none)) = some r := by first | (rw [hji41] at H; exact H) | (simp only [hji41] at H ⊢; exact H)
                    have hji41_ : (if 1099511627776 < (ji40) then 1099511627776 else (ji40)) = ji41 := hji41
                    by_cases c42 : true = true
                    · clear c42
                      have H1 : ((snap_Rest.f a0 l1 a2 a3 t223).bind fun t229 => (if t229 = t223 then (if x14_1 = true then (if a0 = 0 then (some (t223 == (ji41))) else (some true)) else (if t223 = (ji41) then (if a0 = 0 then (some (t223 == (ji41))) else (some true)) else (none))) else (none))) = some r := by first | (rw [if_pos rfl] at H; exact H) | (rw [if_pos True.intro] at H; exact H)
                      clear H
                      have H := H1
                      clear H1
                      replace H := Option.bind_eq_some_iff.mp H
                      obtain ⟨t229, A430, H⟩ := H
                      replace H : (if t229 = t223 then (if x14_1 = true then (if a0 = 0 then (some (t223 == (ji41))) else (some true)) else (if t223 = (ji41) then (if a0 = 0 then (some (t223 == (ji41))) else (some true)) else (none))) else (none)) = some r := H
                      have A43 := Aside0.mk A430
                      clear A430
                      by_cases c44 : t229 = t223
                      · rw [if_pos c44] at H
                        have c44b0 : (t229 == t223) = true := beq_iff_eq.mpr c44
                        have c44b1 : (t229 != t223) = false := bne_eq_false_iff_eq.mpr c44
                        clear c44
                        by_cases c45 : x14_1 = true
                        · subst c45
                          have H1 : (if a0 = 0 then (some (t223 == (ji41))) else (some true)) = some r := by first | (rw [if_pos rfl] at H; exact H) | (rw [if_pos True.intro] at H; exact H)
                          clear H
                          have H := H1
                          clear H1
                          by_cases c46 : a0 = 0
                          · rw [if_pos c46] at H
                            have c46b0 : (a0 == 0) = true := beq_iff_eq.mpr c46
                            have c46b1 : (a0 != 0) = false := bne_eq_false_iff_eq.mpr c46
                            clear c46
                            obtain rfl := Option.some.inj H
                            obtain ⟨Ao47, co47, eo47⟩ := Kd.R_slice HO_13.out
                            subst eo47
                            go_wp2_with (first | (go_at_call 19; (with_reducible refine (snap_Rest.calls a0 _ _ l1 a2 a3 t223 t229 _ ?side1 ?side2 A43.out).mono ?_); (case side1 => repeat (first | exact (Kd.C_below HR1.out HB.out) | (with_reducible refine Kd.C_alloc ?_ _) | (with_reducible refine Kd.C_drewN ?_ _) | (with_reducible refine Kd.C_drew ?_))); (case side2 => exact HC1.out); rintro e w48 ⟨rfl, hb⟩; have n0_ := Aside0.mk (Kd.R_below (by (with_reducible repeat (first | apply Kd.R_alloc | apply Kd.R_drewN | apply Kd.R_drew)); exact HO_13.out) hb); have n1_ := Aside0.mk (below_step (by repeat (first | (with_reducible first | exact HB.out | apply below_alloc | apply pw_below_drewN | apply below_drew1) | exact HB.out)) hb); clear HO_13; clear HB; have HO_13 := n0_; have HB := n1_; clear n0_ n1_; (try clear hb); (try clear hb2); (try clear hk); (try clear hi)))
                            go_ret
                            exact ⟨by first | rfl | (cases Option.some.inj (A43.out.symm.trans A31.out); rfl) | (cases Option.some.inj (A62.out.symm.trans A31.out); rfl) | (cases Option.some.inj (A62.out.symm.trans A43.out); rfl) | (cases Option.some.inj (A31.out.symm.trans A43.out); rfl) | (cases Option.some.inj (A31.out.symm.trans A62.out); rfl) | (cases Option.some.inj (A43.out.symm.trans A62.out); rfl) | (simp [errW_none, errW_some] <;> rfl) | (simp only [← hji21, ← hji38, ← hji40, ← hji41]; first | rfl | (simp [errW_none, errW_some] <;> rfl)) | (simp [*, errW_none, errW_some] <;> rfl), by repeat (first | (with_reducible first | exact HB.out | apply below_alloc | apply pw_below_drewN | apply below_drew1) | exact HB.out)⟩
                          · rw [if_neg c46] at H
                            have c46b0 : (a0 == 0) = false := beq_eq_false_iff_ne.mpr c46
                            have c46b1 : (a0 != 0) = true := bne_iff_ne.mpr c46
                            obtain rfl := Option.some.inj H
                            obtain ⟨Ao49, co49, eo49⟩ := Kd.R_slice HO_13.out
                            subst eo49
                            go_wp2_with (first | (go_at_call 19; (with_reducible refine (snap_Rest.calls a0 _ _ l1 a2 a3 t223 t229 _ ?side1 ?side2 A43.out).mono ?_); (case side1 => repeat (first | exact (Kd.C_below HR1.out HB.out) | (with_reducible refine Kd.C_alloc ?_ _) | (with_reducible refine Kd.C_drewN ?_ _) | (with_reducible refine Kd.C_drew ?_))); (case side2 => exact HC1.out); rintro e w50 ⟨rfl, hb⟩; have n0_ := Aside0.mk (Kd.R_below (by (with_reducible repeat (first | apply Kd.R_alloc | apply Kd.R_drewN | apply Kd.R_drew)); exact HO_13.out) hb); have n1_ := Aside0.mk (below_step (by repeat (first | (with_reducible first | exact HB.out | apply below_alloc | apply pw_below_drewN | apply below_drew1) | exact HB.out)) hb); clear HO_13; clear HB; have HO_13 := n0_; have HB := n1_; clear n0_ n1_; (try clear hb); (try clear hb2); (try clear hk); (try clear hi)))
                            go_ret
                            exact ⟨by first | rfl | (cases Option.some.inj (A43.out.symm.trans A31.out); rfl) | (cases Option.some.inj (A62.out.symm.trans A31.out); rfl) | (cases Option.some.inj (A62.out.symm.trans A43.out); rfl) | (cases Option.some.inj (A31.out.symm.trans A43.out); rfl) | (cases Option.some.inj (A31.out.symm.trans A62.out); rfl) | (cases Option.some.inj (A43.out.symm.trans A62.out); rfl) | (simp [errW_none, errW_some] <;> rfl) | (simp only [← hji21, ← hji38, ← hji40, ← hji41]; first | rfl | (simp [errW_none, errW_some] <;> rfl)) | (simp [*, errW_none, errW_some] <;> rfl), by repeat (first | (with_reducible first | exact HB.out | apply below_alloc | apply pw_below_drewN | apply below_drew1) | exact HB.out)⟩
                        · replace c45 := Bool.eq_false_iff.mpr c45
                          subst c45
                          have H1 : (if t223 = (ji41) then (if a0 = 0 then (some (t223 == (ji41))) else (some true)) else (none)) = some r := by rw [if_neg (show ¬ (false = true) by decide)] at H; exact H
                          clear H
                          have H := H1
                          clear H1
                          by_cases c51 : t223 = (ji41)
                          · rw [if_pos c51] at H
                            have c51b0 : (t223 == (ji41)) = true := beq_iff_eq.mpr c51
                            have c51b1 : (t223 != (ji41)) = false := bne_eq_false_iff_eq.mpr c51
                            clear c51
                            by_cases c52 : a0 = 0
                            · rw [if_pos c52] at H
                              have c52b0 : (a0 == 0) = true := beq_iff_eq.mpr c52
                              have c52b1 : (a0 != 0) = false := bne_eq_false_iff_eq.mpr c52
                              clear c52
                              obtain rfl := Option.some.inj H
                              obtain ⟨Ao53, co53, eo53⟩ := Kd.R_slice HO_13.out
                              subst eo53
                              go_wp2_with (first | (go_at_call 19; (with_reducible refine (snap_Rest.calls a0 _ _ l1 a2 a3 t223 t229 _ ?side1 ?side2 A43.out).mono ?_); (case side1 => repeat (first | exact (Kd.C_below HR1.out HB.out) | (with_reducible refine Kd.C_alloc ?_ _) | (with_reducible refine Kd.C_drewN ?_ _) | (with_reducible refine Kd.C_drew ?_))); (case side2 => exact HC1.out); rintro e w54 ⟨rfl, hb⟩; have n0_ := Aside0.mk (Kd.R_below (by (with_reducible repeat (first | apply Kd.R_alloc | apply Kd.R_drewN | apply Kd.R_drew)); exact HO_13.out) hb); have n1_ := Aside0.mk (below_step (by repeat (first | (with_reducible first | exact HB.out | apply below_alloc | apply pw_below_drewN | apply below_drew1) | exact HB.out)) hb); clear HO_13; clear HB; have HO_13 := n0_; have HB := n1_; clear n0_ n1_; (try clear hb); (try clear hb2); (try clear hk); (try clear hi)))
                              go_ret
                              exact ⟨by first | rfl | (cases Option.some.inj (A43.out.symm.trans A31.out); rfl) | (cases Option.some.inj (A62.out.symm.trans A31.out); rfl) | (cases Option.some.inj (A62.out.symm.trans A43.out); rfl) | (cases Option.some.inj (A31.out.symm.trans A43.out); rfl) | (cases Option.some.inj (A31.out.symm.trans A62.out); rfl) | (cases Option.some.inj (A43.out.symm.trans A62.out); rfl) | (simp [errW_none, errW_some] <;> rfl) | (simp only [← hji21, ← hji38, ← hji40, ← hji41]; first | rfl | (simp [errW_none, errW_some] <;> rfl)) | (simp [*, errW_none, errW_some] <;> rfl), by repeat (first | (with_reducible first | exact HB.out | apply below_alloc | apply pw_below_drewN | apply below_drew1) | exact HB.out)⟩
                            · rw [if_neg c52] at H
                              have c52b0 : (a0 == 0) = false := beq_eq_false_iff_ne.mpr c52
                              have c52b1 : (a0 != 0) = true := bne_iff_ne.mpr c52
                              obtain rfl := Option.some.inj H
                              obtain ⟨Ao55, co55, eo55⟩ := Kd.R_slice HO_13.out
                              subst eo55
                              go_wp2_with (first | (go_at_call 19; (with_reducible refine (snap_Rest.calls a0 _ _ l1 a2 a3 t223 t229 _ ?side1 ?side2 A43.out).mono ?_); (case side1 => repeat (first | exact (Kd.C_below HR1.out HB.out) | (with_reducible refine Kd.C_alloc ?_ _) | (with_reducible refine Kd.C_drewN ?_ _) | (with_reducible refine Kd.C_drew ?_))); (case side2 => exact HC1.out); rintro e w56 ⟨rfl, hb⟩; have n0_ := Aside0.mk (Kd.R_below (by (with_reducible repeat (first | apply Kd.R_alloc | apply Kd.R_drewN | apply Kd.R_drew)); exact HO_13.out) hb); have n1_ := Aside0.mk (below_step (by repeat (first | (with_reducible first | exact HB.out | apply below_alloc | apply pw_below_drewN | apply below_drew1) | exact HB.out)) hb); clear HO_13; clear HB; have HO_13 := n0_; have HB := n1_; clear n0_ n1_; (try clear hb); (try clear hb2); (try clear hk); (try clear hi)))
                              go_ret
                              exact ⟨by first | rfl | (cases Option.some.inj (A43.out.symm.trans A31.out); rfl) | (cases Option.some.inj (A62.out.symm.trans A31.out); rfl) | (cases Option.some.inj (A62.out.symm.trans A43.out); rfl) | (cases Option.some.inj (A31.out.symm.trans A43.out); rfl) | (cases Option.some.inj (A31.out.symm.trans A62.out); rfl) | (cases Option.some.inj (A43.out.symm.trans A62.out); rfl) | (simp [errW_none, errW_some] <;> rfl) | (simp only [← hji21, ← hji38, ← hji40, ← hji41]; first | rfl | (simp [errW_none, errW_some] <;> rfl)) | (simp [*, errW_none, errW_some] <;> rfl), by repeat (first | (with_reducible first | exact HB.out | apply below_alloc | apply pw_below_drewN | apply below_drew1) | exact HB.out)⟩
                          · rw [if_neg c51] at H
                            exact absurd H (by simp)
                      · rw [if_neg c44] at H
                        exact absurd H (by simp)
                    · exact absurd rfl c42
                · rw [if_neg c23] at H
                  have c23b0 : (a0 == 1) = false := beq_eq_false_iff_ne.mpr c23
                  have c23b1 : (a0 != 1) = true := bne_iff_ne.mpr c23
                  obtain ⟨ji57, hji57⟩ : ∃ j_ : Int, (mx a4 0) = j_ := ⟨_, rfl⟩
                  replace H : (if true = true then ((snap_Rest.f a0 l1 a2 a3 t223).bind fun t230 => (if t230 = t223 then (if x14_1 = true then (if a0 = 0 then (some (t223 == (mn (mn (ji57) (ji21)) 1099511627776))) else (some true)) else (if t223 = (mn (mn (ji57) (ji21)) 1099511627776) then (if a0 = 0 then (some (t223 == (mn (mn (ji57) (ji21)) 1099511627776))) else (some true)) else (none))) else (none))) else (none)) = some r := by first | (rw [hji57] at H; exact H) | (simp only [hji57] at H ⊢; exact H)
                  have hji57_ : (if a4 < 0 then 0 else a4) = ji57 := hji57
                  obtain ⟨ji59, hji59⟩ : ∃ j_ : Int, (mn (ji57) (ji21)) = j_ := ⟨_, rfl⟩
                  replace H : (if true = true then ((snap_Rest.f a0 l1 a2 a3 t223).bind fun t230 => (if t230 = t223 then (if x14_1 = true then (if a0 = 0 then (some (t223 == (mn (ji59) 1099511627776))) else (some true)) else (if t223 = (mn (ji59) 1099511627776) then (if a0 = 0 then (some (t223 == (mn (ji59) 1099511627776))) else (some true)) else (none))) else (none))) else (none)) = some r := by first | (rw [hji59] at H; exact H) | (simp only [hji59] at H ⊢; exact H)
                  have hji59_ : (if (ji21) < (ji57) then (ji21) else (ji57)) = ji59 := hji59
                  obtain ⟨ji60, hji60⟩ : ∃ j_ : Int, (mn (ji59) 1099511627776) = j_ := ⟨_, rfl⟩
                  replace H : (if true = true then ((snap_Rest.f a0 l1 a2 a3 t223).bind fun t230 => (if t230 = t223 then (if x14_1 = true then (if a0 = 0 then (some (t223 == (ji60))) else (some true)) else (if t223 = (ji60) then (if a0 = 0 then (some (t223 == (ji60))) else (some true)) else (none))) else (none))) else (none)) = some r := by first | (rw [hji60] at H; exact H) | (simp only [hji60] at H ⊢; exact H)
                  have hji60_ : (if 1099511627776 < (ji59) then 1099511627776 else (ji59)) = ji60 := hji60
                  by_cases c61 : true = true
                  · clear c61
                    have H1 : ((snap_Rest.f a0 l1 a2 a3 t223).bind fun t230 => (if t230 = t223 then (if x14_1 = true then (if a0 = 0 then (some (t223 == (ji60))) else (some true)) else (if t223 = (ji60) then (if a0 = 0 then (some (t223 == (ji60))) else (some true)) else (none))) else (none))) = some r := by first | (rw [if_pos rfl] at H; exact H) | (rw [if_pos True.intro] at H; exact H)
                    clear H
                    have H := H1
                    clear H1
                    replace H := Option.bind_eq_some_iff.mp H
                    obtain ⟨t230, A620, H⟩ := H
                    replace H : (if t230 = t223 then (if x14_1 = true then (if a0 = 0 then (some (t223 == (ji60))) else (some true)) else (if t223 = (ji60) then (if a0 = 0 then (some (t223 == (ji60))) else (some true)) else (none))) else (none)) = some r := H
                    have A62 := Aside0.mk A620
                    clear A620
                    by_cases c63 : t230 = t223
                    · rw [if_pos c63] at H
                      have c63b0 : (t230 == t223) = true := beq_iff_eq.mpr c63
                      have c63b1 : (t230 != t223) = false := bne_eq_false_iff_eq.mpr c63
                      clear c63
                      by_cases c64 : x14_1 = true
                      · subst c64
                        have H1 : (if a0 = 0 then (some (t223 == (ji60))) else (some true)) = some r := by first | (rw [if_pos rfl] at H; exact H) | (rw [if_pos True.intro] at H; exact H)
                        clear H
                        have H := H1
                        clear H1
                        by_cases c65 : a0 = 0
                        · rw [if_pos c65] at H
                          have c65b0 : (a0 == 0) = true := beq_iff_eq.mpr c65
                          have c65b1 : (a0 != 0) = false := bne_eq_false_iff_eq.mpr c65
                          clear c65
                          obtain rfl := Option.some.inj H
                          obtain ⟨Ao66, co66, eo66⟩ := Kd.R_slice HO_13.out
                          subst eo66
                          go_wp2_with (first | (go_at_call 19; (with_reducible refine (snap_Rest.calls a0 _ _ l1 a2 a3 t223 t230 _ ?side1 ?side2 A62.out).mono ?_); (case side1 => repeat (first | exact (Kd.C_below HR1.out HB.out) | (with_reducible refine Kd.C_alloc ?_ _) | (with_reducible refine Kd.C_drewN ?_ _) | (with_reducible refine Kd.C_drew ?_))); (case side2 => exact HC1.out); rintro e w67 ⟨rfl, hb⟩; have n0_ := Aside0.mk (Kd.R_below (by (with_reducible repeat (first | apply Kd.R_alloc | apply Kd.R_drewN | apply Kd.R_drew)); exact HO_13.out) hb); have n1_ := Aside0.mk (below_step (by repeat (first | (with_reducible first | exact HB.out | apply below_alloc | apply pw_below_drewN | apply below_drew1) | exact HB.out)) hb); clear HO_13; clear HB; have HO_13 := n0_; have HB := n1_; clear n0_ n1_; (try clear hb); (try clear hb2); (try clear hk); (try clear hi)))
                          go_ret
                          exact ⟨by first | rfl | (cases Option.some.inj (A43.out.symm.trans A31.out); rfl) | (cases Option.some.inj (A62.out.symm.trans A31.out); rfl) | (cases Option.some.inj (A62.out.symm.trans A43.out); rfl) | (cases Option.some.inj (A31.out.symm.trans A43.out); rfl) | (cases Option.some.inj (A31.out.symm.trans A62.out); rfl) | (cases Option.some.inj (A43.out.symm.trans A62.out); rfl) | (simp [errW_none, errW_some] <;> rfl) | (simp only [← hji21, ← hji57, ← hji59, ← hji60]; first | rfl | (simp [errW_none, errW_some] <;> rfl)) | (simp [*, errW_none, errW_some] <;> rfl), by repeat (first | (with_reducible first | exact HB.out | apply below_alloc | apply pw_below_drewN | apply below_drew1) | exact HB.out)⟩
                        · rw [if_neg c65] at H
                          have c65b0 : (a0 == 0) = false := beq_eq_false_iff_ne.mpr c65
                          have c65b1 : (a0 != 0) = true := bne_iff_ne.mpr c65
                          obtain rfl := Option.some.inj H
                          obtain ⟨Ao68, co68, eo68⟩ := Kd.R_slice HO_13.out
                          subst eo68
                          go_wp2_with (first | (go_at_call 19; (with_reducible refine (snap_Rest.calls a0 _ _ l1 a2 a3 t223 t230 _ ?side1 ?side2 A62.out).mono ?_); (case side1 => repeat (first | exact (Kd.C_below HR1.out HB.out) | (with_reducible refine Kd.C_alloc ?_ _) | (with_reducible refine Kd.C_drewN ?_ _) | (with_reducible refine Kd.C_drew ?_))); (case side2 => exact HC1.out); rintro e w69 ⟨rfl, hb⟩; have n0_ := Aside0.mk (Kd.R_below (by (with_reducible repeat (first | apply Kd.R_alloc | apply Kd.R_drewN | apply Kd.R_drew)); exact HO_13.out) hb); have n1_ := Aside0.mk (below_step (by repeat (first | (with_reducible first | exact HB.out | apply below_alloc | apply pw_below_drewN | apply below_drew1) | exact HB.out)) hb); clear HO_13; clear HB; have HO_13 := n0_; have HB := n1_; clear n0_ n1_; (try clear hb); (try clear hb2); (try clear hk); (try clear hi)))
                          go_ret
                          exact ⟨by first | rfl | (cases Option.some.inj (A43.out.symm.trans A31.out); rfl) | (cases Option.some.inj (A62.out.symm.trans A31.out); rfl) | (cases Option.some.inj (A62.out.symm.trans A43.out); rfl) | (cases Option.some.inj (A31.out.symm.trans A43.out); rfl) | (cases Option.some.inj (A31.out.symm.trans A62.out); rfl) | (cases Option.some.inj (A43.out.symm.trans A62.out); rfl) | (simp [errW_none, errW_some] <;> rfl) | (simp only [← hji21, ← hji57, ← hji59, ← hji60]; first | rfl | (simp [errW_none, errW_some] <;> rfl)) | (simp [*, errW_none, errW_some] <;> rfl), by repeat (first | (with_reducible first | exact HB.out | apply below_alloc | apply pw_below_drewN | apply below_drew1) | exact HB.out)⟩
                      · replace c64 := Bool.eq_false_iff.mpr c64
                        subst c64
                        have H1 : (if t223 = (ji60) then (if a0 = 0 then (some (t223 == (ji60))) else (some true)) else (none)) = some r := by rw [if_neg (show ¬ (false = true) by decide)] at H; exact H
                        clear H
                        have H := H1
                        clear H1
                        by_cases c70 : t223 = (ji60)
                        · rw [if_pos c70] at H
                          have c70b0 : (t223 == (ji60)) = true := beq_iff_eq.mpr c70
                          have c70b1 : (t223 != (ji60)) = false := bne_eq_false_iff_eq.mpr c70
                          clear c70
                          by_cases c71 : a0 = 0
                          · rw [if_pos c71] at H
                            have c71b0 : (a0 == 0) = true := beq_iff_eq.mpr c71
                            have c71b1 : (a0 != 0) = false := bne_eq_false_iff_eq.mpr c71
                            clear c71
                            obtain rfl := Option.some.inj H
                            obtain ⟨Ao72, co72, eo72⟩ := Kd.R_slice HO_13.out
                            subst eo72
                            go_wp2_with (first | (go_at_call 19; (with_reducible refine (snap_Rest.calls a0 _ _ l1 a2 a3 t223 t230 _ ?side1 ?side2 A62.out).mono ?_); (case side1 => repeat (first | exact (Kd.C_below HR1.out HB.out) | (with_reducible refine Kd.C_alloc ?_ _) | (with_reducible refine Kd.C_drewN ?_ _) | (with_reducible refine Kd.C_drew ?_))); (case side2 => exact HC1.out); rintro e w73 ⟨rfl, hb⟩; have n0_ := Aside0.mk (Kd.R_below (by (with_reducible repeat (first | apply Kd.R_alloc | apply Kd.R_drewN | apply Kd.R_drew)); exact HO_13.out) hb); have n1_ := Aside0.mk (below_step (by repeat (first | (with_reducible first | exact HB.out | apply below_alloc | apply pw_below_drewN | apply below_drew1) | exact HB.out)) hb); clear HO_13; clear HB; have HO_13 := n0_; have HB := n1_; clear n0_ n1_; (try clear hb); (try clear hb2); (try clear hk); (try clear hi)))
                            go_ret
                            exact ⟨by first | rfl | (cases Option.some.inj (A43.out.symm.trans A31.out); rfl) | (cases Option.some.inj (A62.out.symm.trans A31.out); rfl) | (cases Option.some.inj (A62.out.symm.trans A43.out); rfl) | (cases Option.some.inj (A31.out.symm.trans A43.out); rfl) | (cases Option.some.inj (A31.out.symm.trans A62.out); rfl) | (cases Option.some.inj (A43.out.symm.trans A62.out); rfl) | (simp [errW_none, errW_some] <;> rfl) | (simp only [← hji21, ← hji57, ← hji59, ← hji60]; first | rfl | (simp [errW_none, errW_some] <;> rfl)) | (simp [*, errW_none, errW_some] <;> rfl), by repeat (first | (with_reducible first | exact HB.out | apply below_alloc | apply pw_below_drewN | apply below_drew1) | exact HB.out)⟩
                          · rw [if_neg c71] at H
                            have c71b0 : (a0 == 0) = false := beq_eq_false_iff_ne.mpr c71
                            have c71b1 : (a0 != 0) = true := bne_iff_ne.mpr c71
                            obtain rfl := Option.some.inj H
                            obtain ⟨Ao74, co74, eo74⟩ := Kd.R_slice HO_13.out
                            subst eo74
                            go_wp2_with (first | (go_at_call 19; (with_reducible refine (snap_Rest.calls a0 _ _ l1 a2 a3 t223 t230 _ ?side1 ?side2 A62.out).mono ?_); (case side1 => repeat (first | exact (Kd.C_below HR1.out HB.out) | (with_reducible refine Kd.C_alloc ?_ _) | (with_reducible refine Kd.C_drewN ?_ _) | (with_reducible refine Kd.C_drew ?_))); (case side2 => exact HC1.out); rintro e w75 ⟨rfl, hb⟩; have n0_ := Aside0.mk (Kd.R_below (by (with_reducible repeat (first | apply Kd.R_alloc | apply Kd.R_drewN | apply Kd.R_drew)); exact HO_13.out) hb); have n1_ := Aside0.mk (below_step (by repeat (first | (with_reducible first | exact HB.out | apply below_alloc | apply pw_below_drewN | apply below_drew1) | exact HB.out)) hb); clear HO_13; clear HB; have HO_13 := n0_; have HB := n1_; clear n0_ n1_; (try clear hb); (try clear hb2); (try clear hk); (try clear hi)))
                            go_ret
                            exact ⟨by first | rfl | (cases Option.some.inj (A43.out.symm.trans A31.out); rfl) | (cases Option.some.inj (A62.out.symm.trans A31.out); rfl) | (cases Option.some.inj (A62.out.symm.trans A43.out); rfl) | (cases Option.some.inj (A31.out.symm.trans A43.out); rfl) | (cases Option.some.inj (A31.out.symm.trans A62.out); rfl) | (cases Option.some.inj (A43.out.symm.trans A62.out); rfl) | (simp [errW_none, errW_some] <;> rfl) | (simp only [← hji21, ← hji57, ← hji59, ← hji60]; first | rfl | (simp [errW_none, errW_some] <;> rfl)) | (simp [*, errW_none, errW_some] <;> rfl), by repeat (first | (with_reducible first | exact HB.out | apply below_alloc | apply pw_below_drewN | apply below_drew1) | exact HB.out)⟩
                        · rw [if_neg c70] at H
                          exact absurd H (by simp)
                    · rw [if_neg c63] at H
                      exact absurd H (by simp)
                  · exact absurd rfl c61
  · replace c7 := Bool.eq_false_iff.mpr c7
    subst c7
    have H1 : (none) = some r := by rw [if_neg (show ¬ (false = true) by decide)] at H; exact H
    clear H
    have H := H1
    clear H1
    exact absurd H (by simp)

/-- THE ONE PURE STATEMENT of valancelaw11_SnapWithin: yours. -/
def valancelaw11_SnapWithin.Pure : Prop := ∀ (a0 : Int) (l1 : List (S33)) (a2 : Int) (a3 : Int) (a4 : Int), (Lit.int .i64 a0).wf = true → l1.length ≤ maxLen → l1.length * 24 ≤ 140737488351232 → (∀ x ∈ l1, (Lit.int .i64 x.f0.f0).wf = true ∧ (Lit.int .i64 x.f0.f1).wf = true ∧ (Lit.int .i64 x.f1).wf = true) → (Lit.int .i64 a2).wf = true → (Lit.int .i64 a3).wf = true → (Lit.int .i64 a4).wf = true → ∃ k, valancelaw11_SnapWithin.f k a0 l1 a2 a3 a4 = some true
theorem valancelaw11_SnapWithin.walk (P : valancelaw11_SnapWithin.Pure) (a0 : Int) (a1 : Option Addr) (cap1 : Nat) (l1 : List (S33)) (a2 : Int) (a3 : Int) (a4 : Int) (w : World) (w0 : (Lit.int .i64 a0).wf = true) (hr1 : Kd.C k33 w a1 l1.length l1) (hc1 : l1.length ≤ cap1) (hm1 : l1.length ≤ maxLen) (y1 : l1.length * 24 ≤ 140737488351232) (hw1 : ∀ x ∈ l1, (Lit.int .i64 x.f0.f0).wf = true ∧ (Lit.int .i64 x.f0.f1).wf = true ∧ (Lit.int .i64 x.f1).wf = true) (w2 : (Lit.int .i64 a2).wf = true) (w3 : (Lit.int .i64 a3).wf = true) (w4 : (Lit.int .i64 a4).wf = true) :
    Calls Try.prog 5 #[.int .i64 a0, .slice a1 l1.length cap1, .int .i64 a2, .int .i64 a3, .int .i64 a4] w fun e w' => e = .returned (.bool true) ∧ Below w.heap.size w w' := by
  obtain ⟨k, h⟩ := P a0 l1 a2 a3 a4 w0 hm1 y1 hw1 w2 w3 w4
  refine (valancelaw11_SnapWithin.calls k a0 _ _ l1 a2 a3 a4 true w hr1 hc1 h).mono ?_
  rintro e w' ⟨rfl, hd⟩
  exact ⟨rfl, hd⟩

end Go.Proofs.Ytnmcefpnpfaklac.V
