/- What the functions of this seat answer, as plain Lean functions, and that the calls come to just that (written by a program of this repo, over the kit's printer; Lean checks it). -/
import Derived.Test.YtnmcefpnpfakladVx0
import Derived.Test.YtnmcefpnpfakladVx35
import Derived.Test.YtnmcefpnpfakladVx36
namespace Go.Proofs.Ytnmcefpnpfaklad.V
open Go.RowKit Go.Proofs.YtnmcefpnpfakladW.PrintWords Go.Proofs.YtnmcefpnpfakladW.PrintLast Go.Proofs.YtnmcefpnpfakladW.PrintMore
attribute [local go_sem] max2_int min2_int max_two min_two max_three min_three max_four min_four   -- for this text's walks alone
set_option linter.unusedVariables false
set_option linter.unusedSimpArgs false

/-! ### valancelaw07_LinesOrder: function 11 -/
mutual
def valancelaw07_LinesOrder.l0 : Nat → List Int → Bool → List Int → List Bool → Int → Option (Bool)
  | 0, _, _, _, _, _ => none
  | k + 1, x0, x3, x4, x5, x6 => if x6 < (x4.length : Int) then (if 0 ≤ x6 then (if (rd x4 x6) < 0 then (valancelaw07_LinesOrder.j1 k x0 x3 x4 x5 x6 true) else (if (rd x4 x6) ≥ (x0.length : Int) then (valancelaw07_LinesOrder.j1 k x0 x3 x4 x5 x6 true) else (if 0 ≤ (rd x4 x6) then (if (rd x4 x6) < (x5.length : Int) then (valancelaw07_LinesOrder.j1 k x0 x3 x4 x5 x6 (rdOf false x5 (rd x4 x6))) else (none)) else (none)))) else (none)) else (some x3)
def valancelaw07_LinesOrder.j1 : Nat → List Int → Bool → List Int → List Bool → Int → Bool → Option (Bool)
  | 0, _, _, _, _, _, _ => none
  | k + 1, x0, x3, x4, x5, x6, x52 => if x52 = true then (none) else (if 0 ≤ x6 then (if x6 < (x4.length : Int) then (if 0 ≤ (rd x4 x6) then (if (rd x4 x6) < (x5.length : Int) then ((some (x5.set ((rd x4 x6) : Int).toNat true : List Bool)).bind fun y404 => (if x6 > 0 then (if 0 ≤ (wrap64 (x6 - 1)) then (if (wrap64 (x6 - 1)) < (x4.length : Int) then (if 0 ≤ (rd x4 (wrap64 (x6 - 1))) then (if (rd x4 (wrap64 (x6 - 1))) < (x0.length : Int) then (if (rd x4 x6) < (x0.length : Int) then (if (rd x0 (rd x4 (wrap64 (x6 - 1)))) > (rd x0 (rd x4 x6)) then (none) else (if (rd x0 (rd x4 (wrap64 (x6 - 1)))) = (rd x0 (rd x4 x6)) then (if (rd x4 (wrap64 (x6 - 1))) > (rd x4 x6) then (none) else (valancelaw07_LinesOrder.l0 k x0 x3 x4 y404 (wrap64 (x6 + 1)))) else (valancelaw07_LinesOrder.l0 k x0 x3 x4 y404 (wrap64 (x6 + 1))))) else (none)) else (none)) else (none)) else (none)) else (none)) else (valancelaw07_LinesOrder.l0 k x0 x3 x4 y404 (wrap64 (x6 + 1))))) else (none)) else (none)) else (none)) else (none))
end
def valancelaw07_LinesOrder.f (k : Nat) (l0 : List Int) : Option (Bool) := (valancelaw07_works.f k).bind fun t392 => (if t392 = true then (if (l0.length : Int) > 200 then (some t392) else ((lines_Order.f l0).bind fun t393 => (if (t393.length : Int) = (l0.length : Int) then (if 0 ≤ (l0.length : Int) then (if ((l0.length : Int) : Int).toNat ≤ 281474976710656 then (valancelaw07_LinesOrder.l0 k l0 t392 t393 (List.replicate ((l0.length : Int) : Int).toNat false) 0) else (none)) else (none)) else (none)))) else (none))
theorem valancelaw07_LinesOrder.mono_l : ∀ k, (∀ y0 y1 y2 y3 y4, LeO (valancelaw07_LinesOrder.l0 k y0 y1 y2 y3 y4) (valancelaw07_LinesOrder.l0 (k + 1) y0 y1 y2 y3 y4)) ∧ (∀ y0 y1 y2 y3 y4 y5, LeO (valancelaw07_LinesOrder.j1 k y0 y1 y2 y3 y4 y5) (valancelaw07_LinesOrder.j1 (k + 1) y0 y1 y2 y3 y4 y5))
  | 0 => ⟨fun _ _ _ _ _ r h => by simp [valancelaw07_LinesOrder.l0] at h, fun _ _ _ _ _ _ r h => by simp [valancelaw07_LinesOrder.j1] at h⟩
  | k + 1 => by
    obtain ⟨ih0, ih1⟩ := valancelaw07_LinesOrder.mono_l k
    refine ⟨?_, ?_⟩
    · intro y0 y1 y2 y3 y4
      unfold valancelaw07_LinesOrder.l0
      repeat' first
      | (with_reducible exact ih0 _ _ _ _ _)
      | (with_reducible exact ih1 _ _ _ _ _ _)
      | (with_reducible exact valancelaw07_works.mono _)
      | (with_reducible exact LeO.refl _)
      | (with_reducible exact LeO.none _)
      | (with_reducible refine LeO.ite ?_ ?_)
      | (with_reducible refine LeO.bind ?_ (fun _ => ?_))
      | exact ih0 _ _ _ _ _
      | exact ih1 _ _ _ _ _ _
      | exact valancelaw07_works.mono _
      | exact LeO.none _
      | refine LeO.ite ?_ ?_
      | refine LeO.bind ?_ (fun _ => ?_)
    · intro y0 y1 y2 y3 y4 y5
      unfold valancelaw07_LinesOrder.j1
      repeat' first
      | (with_reducible exact ih0 _ _ _ _ _)
      | (with_reducible exact ih1 _ _ _ _ _ _)
      | (with_reducible exact valancelaw07_works.mono _)
      | (with_reducible exact LeO.refl _)
      | (with_reducible exact LeO.none _)
      | (with_reducible refine LeO.ite ?_ ?_)
      | (with_reducible refine LeO.bind ?_ (fun _ => ?_))
      | exact ih0 _ _ _ _ _
      | exact ih1 _ _ _ _ _ _
      | exact valancelaw07_works.mono _
      | exact LeO.none _
      | refine LeO.ite ?_ ?_
      | refine LeO.bind ?_ (fun _ => ?_)
theorem valancelaw07_LinesOrder.mono : ∀ a0 k, LeO (valancelaw07_LinesOrder.f k a0) (valancelaw07_LinesOrder.f (k + 1) a0) := by
  intro a0 k
  obtain ⟨ih0, ih1⟩ := valancelaw07_LinesOrder.mono_l k
  unfold valancelaw07_LinesOrder.f
  repeat' first
      | (with_reducible exact ih0 _ _ _ _ _)
      | (with_reducible exact ih1 _ _ _ _ _ _)
      | (with_reducible exact valancelaw07_works.mono _)
      | (with_reducible exact LeO.refl _)
      | (with_reducible exact LeO.none _)
      | (with_reducible refine LeO.ite ?_ ?_)
      | (with_reducible refine LeO.bind ?_ (fun _ => ?_))
      | exact ih0 _ _ _ _ _
      | exact ih1 _ _ _ _ _ _
      | exact valancelaw07_works.mono _
      | exact LeO.none _
      | refine LeO.ite ?_ ?_
      | refine LeO.bind ?_ (fun _ => ?_)
set_option maxHeartbeats 8000000 in
set_option maxRecDepth 100000 in
theorem valancelaw07_LinesOrder.calls (k : Nat) (A0 : Option Addr) (c0 : Nat) (l0 : List Int) (r : Bool) (w : World) (hr0 : Kd.C (Kd.int .i64) w A0 l0.length l0) (hc0 : l0.length ≤ c0) (h : valancelaw07_LinesOrder.f k l0 = some r) :
    Calls Try.prog 11 #[.slice A0 l0.length c0] w fun e w' => e = .returned (.bool r) ∧ Below w.heap.size w w' := by
  have HR0 := Aside0.mk hr0
  have HC0 := Aside0.mk hc0
  clear hr0 hc0
  have HB := Aside0.mk (Below.refl w.heap.size w)
  have H : ((valancelaw07_works.f k).bind fun t392 => (if t392 = true then (if (l0.length : Int) > 200 then (some t392) else ((lines_Order.f l0).bind fun t393 => (if (t393.length : Int) = (l0.length : Int) then (if 0 ≤ (l0.length : Int) then (if ((l0.length : Int) : Int).toNat ≤ 281474976710656 then (valancelaw07_LinesOrder.l0 k l0 t392 t393 (List.replicate ((l0.length : Int) : Int).toNat false) 0) else (none)) else (none)) else (none)))) else (none))) = some r := h
  clear h
  replace H := Option.bind_eq_some_iff.mp H
  obtain ⟨t392, A20, H⟩ := H
  replace H : (if t392 = true then (if (l0.length : Int) > 200 then (some t392) else ((lines_Order.f l0).bind fun t393 => (if (t393.length : Int) = (l0.length : Int) then (if 0 ≤ (l0.length : Int) then (if ((l0.length : Int) : Int).toNat ≤ 281474976710656 then (valancelaw07_LinesOrder.l0 k l0 t392 t393 (List.replicate ((l0.length : Int) : Int).toNat false) 0) else (none)) else (none)) else (none)))) else (none)) = some r := H
  have A2 := Aside0.mk A20
  clear A20
  by_cases c3 : t392 = true
  · subst c3
    have H1 : (if (l0.length : Int) > 200 then (some true) else ((lines_Order.f l0).bind fun t393 => (if (t393.length : Int) = (l0.length : Int) then (if 0 ≤ (l0.length : Int) then (if ((l0.length : Int) : Int).toNat ≤ 281474976710656 then (valancelaw07_LinesOrder.l0 k l0 true t393 (List.replicate ((l0.length : Int) : Int).toNat false) 0) else (none)) else (none)) else (none)))) = some r := by rw [if_pos rfl] at H; exact H
    clear H
    have H := H1
    clear H1
    by_cases c4 : (l0.length : Int) > 200
    · rw [if_pos c4] at H
      have c4b0 : decide (200 < (l0.length : Int)) = true := decide_eq_true c4
      have c4b1 : decide (200 < l0.length) = true := decide_eq_true (by omega)
      clear c4
      obtain rfl := Option.some.inj H
      go_enter Try.func11, Try.ntmps11
      go_wp2_with (first | (go_at_call 24; (with_reducible refine (valancelaw07_works.calls k  true _ A2.out).mono ?_); rintro e w5 ⟨rfl, hb⟩; have n0_ := Aside0.mk (below_step (by repeat (first | (with_reducible first | exact HB.out | apply below_alloc | apply pw_below_drewN | apply below_drew1) | exact HB.out)) hb); clear HB; have HB := n0_; clear n0_; (try clear hb); (try clear hb2); (try clear hk); (try clear hi)))
      repeat (go_quiet (first | (go_at_call 24; (with_reducible refine (valancelaw07_works.calls k  true _ A2.out).mono ?_); rintro e w5 ⟨rfl, hb⟩; have n0_ := Aside0.mk (below_step (by repeat (first | (with_reducible first | exact HB.out | apply below_alloc | apply pw_below_drewN | apply below_drew1) | exact HB.out)) hb); clear HB; have HB := n0_; clear n0_; (try clear hb); (try clear hb2); (try clear hk); (try clear hi))); try go_wp2_with (first | (go_at_call 24; (with_reducible refine (valancelaw07_works.calls k  true _ A2.out).mono ?_); rintro e w5 ⟨rfl, hb⟩; have n0_ := Aside0.mk (below_step (by repeat (first | (with_reducible first | exact HB.out | apply below_alloc | apply pw_below_drewN | apply below_drew1) | exact HB.out)) hb); clear HB; have HB := n0_; clear n0_; (try clear hb); (try clear hb2); (try clear hk); (try clear hi))))
      go_ret
      exact ⟨by first | rfl | (simp [errW_none, errW_some] <;> rfl) | (simp [*, errW_none, errW_some] <;> rfl), by repeat (first | (with_reducible first | exact HB.out | apply below_alloc | apply pw_below_drewN | apply below_drew1) | exact HB.out)⟩
    · rw [if_neg c4] at H
      have c4b0 : decide (200 < (l0.length : Int)) = false := decide_eq_false c4
      have c4b1 : decide (200 < l0.length) = false := decide_eq_false (by omega)
      clear c4
      replace H := Option.bind_eq_some_iff.mp H
      obtain ⟨t393, A60, H⟩ := H
      replace H : (if (t393.length : Int) = (l0.length : Int) then (if 0 ≤ (l0.length : Int) then (if ((l0.length : Int) : Int).toNat ≤ 281474976710656 then (valancelaw07_LinesOrder.l0 k l0 true t393 (List.replicate ((l0.length : Int) : Int).toNat false) 0) else (none)) else (none)) else (none)) = some r := H
      have A6 := Aside0.mk A60
      clear A60
      by_cases c7 : (t393.length : Int) = (l0.length : Int)
      · rw [if_pos c7] at H
        have c7b0 : ((t393.length : Int) == (l0.length : Int)) = true := beq_iff_eq.mpr c7
        have c7b1 : ((t393.length : Int) != (l0.length : Int)) = false := bne_eq_false_iff_eq.mpr c7
        have c7b2 : (t393.length == l0.length) = true := by first | simpa using c7 | (simp at c7 ⊢; omega)
        clear c7
        by_cases c8 : 0 ≤ (l0.length : Int)
        · rw [if_pos c8] at H
          have c8b0 := eq_true c8
          have c8b1 : decide (0 ≤ (l0.length : Int)) = true := decide_eq_true c8
          clear c8
          by_cases c9 : ((l0.length : Int) : Int).toNat ≤ 281474976710656
          · rw [if_pos c9] at H
            have c9b0 := eq_true c9
            have c9b1 : decide (((l0.length : Int) : Int).toNat ≤ 281474976710656) = true := decide_eq_true c9
            clear c9
            obtain ⟨y396, hy396⟩ : ∃ y_ : List Bool, y_ = (List.replicate ((l0.length : Int) : Int).toNat false) := ⟨_, rfl⟩
            replace H : (valancelaw07_LinesOrder.l0 k l0 true t393 y396 0) = some r := by first | (rw [hy396]; with_reducible exact H) | (have H2_ := (Option.bind_some _ _).symm.trans H; rw [hy396]; with_reducible exact H2_) | (have H2_ := (Option.bind_some _ _).symm.trans H; with_reducible exact H2_) | with_reducible exact H | (rw [hy396]; exact H) | exact H
            have Ny396 := Aside0.mk hy396
            clear hy396
            have H' := Aside0.mk H
            clear H
            go_enter Try.func11, Try.ntmps11
            go_wp2_with (first | (go_at_call 24; (with_reducible refine (valancelaw07_works.calls k  true _ A2.out).mono ?_); rintro e w10 ⟨rfl, hb⟩; have n0_ := Aside0.mk (below_step (by repeat (first | (with_reducible first | exact HB.out | apply below_alloc | apply pw_below_drewN | apply below_drew1) | exact HB.out)) hb); clear HB; have HB := n0_; clear n0_; (try clear hb); (try clear hb2); (try clear hk); (try clear hi)) | (go_at_call 29; (with_reducible refine (lines_Order.calls _ _ l0 t393 _ ?side1 ?side2 A6.out).mono ?_); (case side1 => repeat (first | exact (Kd.C_below HR0.out HB.out) | (with_reducible refine Kd.C_alloc ?_ _) | (with_reducible refine Kd.C_drewN ?_ _) | (with_reducible refine Kd.C_drew ?_))); (case side2 => exact HC0.out); rintro e w11 ⟨v394, rfl, ho0, hb⟩; have n0_ := Aside0.mk (Kd.R_lower ho0 (below_size (by repeat (first | (with_reducible first | exact HB.out | apply below_alloc | apply pw_below_drewN | apply below_drew1) | exact HB.out)))); have n1_ := Aside0.mk (below_step (by repeat (first | (with_reducible first | exact HB.out | apply below_alloc | apply pw_below_drewN | apply below_drew1) | exact HB.out)) hb); clear HB; have HO395 := n0_; have HB := n1_; clear n0_ n1_; (try clear hb); (try clear hb2); (try clear hk); (try clear hi); (try clear ho0); obtain ⟨Ao12, co12, eo12⟩ := Kd.R_slice HO395.out; subst eo12) | ((with_reducible refine gate_dst (N := 23) rfl ?_); (try (refine gate_guard (by rfl) ?_; dsimp only)); refine Kd.R_make Kd.bool _ 4 rfl (N := 23) rfl 42 _ _ rfl (l0.length : Int) rfl rfl Try.underlying42 (.bool false) 1 info4 rfl (by decide) (by omega) false (ok := fun _ => True) (okp := fun _ => True) rfl (fun _ hk => hk) trivial (of_decide_eq_true (by first | (with_reducible assumption) | assumption)) (Nat.le_trans (Nat.mul_le_mul_right _ (of_decide_eq_true (by first | (with_reducible assumption) | assumption) : (l0.length : Int).toNat ≤ 281474976710656)) (by omega)) (Below.refl _ _) (Nat.le_refl _) ?_; intro v397 w13 ho14 hb hg_ hnew_; clear hg_ hnew_; (first | rw [← Ny396.out] at ho14 | (simp only [Int.reduceToNat] at ho14; rw [← Ny396.out] at ho14)); have n0_ := Aside0.mk (Kd.R_below (by (with_reducible repeat (first | apply Kd.R_alloc | apply Kd.R_drewN | apply Kd.R_drew)); exact HO395.out) hb); have n1_ := Aside0.mk (Kd.R_lower ho14 (below_size (by repeat (first | (with_reducible first | exact HB.out | apply below_alloc | apply pw_below_drewN | apply below_drew1) | exact HB.out)))); have n2_ := Aside0.mk (below_step (by repeat (first | (with_reducible first | exact HB.out | apply below_alloc | apply pw_below_drewN | apply below_drew1) | exact HB.out)) hb); clear HO395; clear HB; have HO395 := n0_; have HO398 := n1_; have HB := n2_; clear n0_ n1_ n2_; clear hb ho14))
            repeat (go_quiet (first | (go_at_call 24; (with_reducible refine (valancelaw07_works.calls k  true _ A2.out).mono ?_); rintro e w10 ⟨rfl, hb⟩; have n0_ := Aside0.mk (below_step (by repeat (first | (with_reducible first | exact HB.out | apply below_alloc | apply pw_below_drewN | apply below_drew1) | exact HB.out)) hb); clear HB; have HB := n0_; clear n0_; (try clear hb); (try clear hb2); (try clear hk); (try clear hi)) | (go_at_call 29; (with_reducible refine (lines_Order.calls _ _ l0 t393 _ ?side1 ?side2 A6.out).mono ?_); (case side1 => repeat (first | exact (Kd.C_below HR0.out HB.out) | (with_reducible refine Kd.C_alloc ?_ _) | (with_reducible refine Kd.C_drewN ?_ _) | (with_reducible refine Kd.C_drew ?_))); (case side2 => exact HC0.out); rintro e w11 ⟨v394, rfl, ho0, hb⟩; have n0_ := Aside0.mk (Kd.R_lower ho0 (below_size (by repeat (first | (with_reducible first | exact HB.out | apply below_alloc | apply pw_below_drewN | apply below_drew1) | exact HB.out)))); have n1_ := Aside0.mk (below_step (by repeat (first | (with_reducible first | exact HB.out | apply below_alloc | apply pw_below_drewN | apply below_drew1) | exact HB.out)) hb); clear HB; have HO395 := n0_; have HB := n1_; clear n0_ n1_; (try clear hb); (try clear hb2); (try clear hk); (try clear hi); (try clear ho0); obtain ⟨Ao12, co12, eo12⟩ := Kd.R_slice HO395.out; subst eo12) | ((with_reducible refine gate_dst (N := 23) rfl ?_); (try (refine gate_guard (by rfl) ?_; dsimp only)); refine Kd.R_make Kd.bool _ 4 rfl (N := 23) rfl 42 _ _ rfl (l0.length : Int) rfl rfl Try.underlying42 (.bool false) 1 info4 rfl (by decide) (by omega) false (ok := fun _ => True) (okp := fun _ => True) rfl (fun _ hk => hk) trivial (of_decide_eq_true (by first | (with_reducible assumption) | assumption)) (Nat.le_trans (Nat.mul_le_mul_right _ (of_decide_eq_true (by first | (with_reducible assumption) | assumption) : (l0.length : Int).toNat ≤ 281474976710656)) (by omega)) (Below.refl _ _) (Nat.le_refl _) ?_; intro v397 w13 ho14 hb hg_ hnew_; clear hg_ hnew_; (first | rw [← Ny396.out] at ho14 | (simp only [Int.reduceToNat] at ho14; rw [← Ny396.out] at ho14)); have n0_ := Aside0.mk (Kd.R_below (by (with_reducible repeat (first | apply Kd.R_alloc | apply Kd.R_drewN | apply Kd.R_drew)); exact HO395.out) hb); have n1_ := Aside0.mk (Kd.R_lower ho14 (below_size (by repeat (first | (with_reducible first | exact HB.out | apply below_alloc | apply pw_below_drewN | apply below_drew1) | exact HB.out)))); have n2_ := Aside0.mk (below_step (by repeat (first | (with_reducible first | exact HB.out | apply below_alloc | apply pw_below_drewN | apply below_drew1) | exact HB.out)) hb); clear HO395; clear HB; have HO395 := n0_; have HO398 := n1_; have HB := n2_; clear n0_ n1_ n2_; clear hb ho14)); try go_wp2_with (first | (go_at_call 24; (with_reducible refine (valancelaw07_works.calls k  true _ A2.out).mono ?_); rintro e w10 ⟨rfl, hb⟩; have n0_ := Aside0.mk (below_step (by repeat (first | (with_reducible first | exact HB.out | apply below_alloc | apply pw_below_drewN | apply below_drew1) | exact HB.out)) hb); clear HB; have HB := n0_; clear n0_; (try clear hb); (try clear hb2); (try clear hk); (try clear hi)) | (go_at_call 29; (with_reducible refine (lines_Order.calls _ _ l0 t393 _ ?side1 ?side2 A6.out).mono ?_); (case side1 => repeat (first | exact (Kd.C_below HR0.out HB.out) | (with_reducible refine Kd.C_alloc ?_ _) | (with_reducible refine Kd.C_drewN ?_ _) | (with_reducible refine Kd.C_drew ?_))); (case side2 => exact HC0.out); rintro e w11 ⟨v394, rfl, ho0, hb⟩; have n0_ := Aside0.mk (Kd.R_lower ho0 (below_size (by repeat (first | (with_reducible first | exact HB.out | apply below_alloc | apply pw_below_drewN | apply below_drew1) | exact HB.out)))); have n1_ := Aside0.mk (below_step (by repeat (first | (with_reducible first | exact HB.out | apply below_alloc | apply pw_below_drewN | apply below_drew1) | exact HB.out)) hb); clear HB; have HO395 := n0_; have HB := n1_; clear n0_ n1_; (try clear hb); (try clear hb2); (try clear hk); (try clear hi); (try clear ho0); obtain ⟨Ao12, co12, eo12⟩ := Kd.R_slice HO395.out; subst eo12) | ((with_reducible refine gate_dst (N := 23) rfl ?_); (try (refine gate_guard (by rfl) ?_; dsimp only)); refine Kd.R_make Kd.bool _ 4 rfl (N := 23) rfl 42 _ _ rfl (l0.length : Int) rfl rfl Try.underlying42 (.bool false) 1 info4 rfl (by decide) (by omega) false (ok := fun _ => True) (okp := fun _ => True) rfl (fun _ hk => hk) trivial (of_decide_eq_true (by first | (with_reducible assumption) | assumption)) (Nat.le_trans (Nat.mul_le_mul_right _ (of_decide_eq_true (by first | (with_reducible assumption) | assumption) : (l0.length : Int).toNat ≤ 281474976710656)) (by omega)) (Below.refl _ _) (Nat.le_refl _) ?_; intro v397 w13 ho14 hb hg_ hnew_; clear hg_ hnew_; (first | rw [← Ny396.out] at ho14 | (simp only [Int.reduceToNat] at ho14; rw [← Ny396.out] at ho14)); have n0_ := Aside0.mk (Kd.R_below (by (with_reducible repeat (first | apply Kd.R_alloc | apply Kd.R_drewN | apply Kd.R_drew)); exact HO395.out) hb); have n1_ := Aside0.mk (Kd.R_lower ho14 (below_size (by repeat (first | (with_reducible first | exact HB.out | apply below_alloc | apply pw_below_drewN | apply below_drew1) | exact HB.out)))); have n2_ := Aside0.mk (below_step (by repeat (first | (with_reducible first | exact HB.out | apply below_alloc | apply pw_below_drewN | apply below_drew1) | exact HB.out)) hb); clear HO395; clear HB; have HO395 := n0_; have HO398 := n1_; have HB := n2_; clear n0_ n1_ n2_; clear hb ho14)))
            go_loopg [6] k (fun kq v6 w' => ∃ (x5_1 : List Bool) (x6_1 : Int), v6 = .int .i64 x6_1 ∧ Aside0 (valancelaw07_LinesOrder.l0 kq l0 true t393 x5_1 x6_1 = some r) ∧ Aside0 (kq ≤ k) ∧ Aside0 (Kd.R (Kd.int .i64) 3 w' w.heap.size (fun _ => True) (.slice Ao12 t393.length co12) t393) ∧ Aside0 (Kd.R Kd.bool 4 w' w.heap.size (fun _ => True) v397 x5_1) ∧ Aside0 (Below w.heap.size w w'))
            case atStart => exact ⟨(y396), (0), (by first | rfl | (simp; done) | (simp [*]; done)), H', ⟨Nat.le_refl _⟩, ⟨by (with_reducible repeat (first | apply Kd.R_alloc | apply Kd.R_drewN | apply Kd.R_drew)); exact HO395.out⟩, ⟨by (with_reducible repeat (first | apply Kd.R_alloc | apply Kd.R_drewN | apply Kd.R_drew)); exact HO398.out⟩, ⟨by repeat (first | (with_reducible first | exact HB.out | apply below_alloc | apply pw_below_drewN | apply below_drew1) | exact HB.out)⟩⟩
            case round =>
              clear H'
              try clear c1
              try clear p2
              try clear c3
              try clear c4
              try clear c4b0
              try clear c4b1
              try clear c7
              try clear c7b0
              try clear c7b1
              try clear c7b2
              try clear c8
              try clear c8b0
              try clear c8b1
              try clear c9
              try clear c9b0
              try clear c9b1
              try clear c11
              obtain ⟨x5_1, x6_1, rfl, HA, HK1, HO_4, HO_5, HB⟩ := hrel
              cases gk with
              | zero => exact absurd HA.out (by simp [valancelaw07_LinesOrder.l0])
              | succ k1 =>
                have H := HA.out
                clear HA
                simp only [valancelaw07_LinesOrder.l0] at H
                by_cases c15 : x6_1 < (t393.length : Int)
                · rw [if_pos c15] at H
                  have c15b0 : decide (x6_1 < (t393.length : Int)) = true := decide_eq_true c15
                  clear c15
                  have HC16 := Aside0.mk H
                  clear H
                  go_upto_region 13 with (fail)
                  repeat (go_quiet (fail); go_upto_region 13 with (fail))
                  go_cut [52] (fun v52 wc => ∃ (kq : Nat) (x52_15 : Bool), v52 = .bool x52_15 ∧ Aside0 (valancelaw07_LinesOrder.j1 kq l0 true t393 x5_1 x6_1 x52_15 = some r) ∧ Aside0 (kq ≤ k1) ∧ Aside0 (Kd.R (Kd.int .i64) 3 wc w.heap.size (fun _ => True) (.slice Ao12 t393.length co12) t393) ∧ Aside0 (Kd.R Kd.bool 4 wc w.heap.size (fun _ => True) v397 x5_1) ∧ Aside0 (Below w.heap.size w wc))
                  case first =>
                    have H := HC16.out
                    clear HC16
                    by_cases c17 : 0 ≤ x6_1
                    · rw [if_pos c17] at H
                      have c17b0 : decide (0 ≤ x6_1) = true := decide_eq_true c17
                      clear c17
                      (first | rw [c17b0] | (simp only [i64_w, i32_w]; rw [c17b0]) | skip)
                      by_cases c18 : (rd t393 x6_1) < 0
                      · rw [if_pos c18] at H
                        have c18b0 : decide ((rd t393 x6_1) < 0) = true := decide_eq_true c18
                        clear c18
                        have H' := Aside0.mk H
                        clear H
                        have p399 : 0 ≤ (x6_1 : Int) := of_decide_eq_true (by first | (with_reducible assumption) | assumption)
                        have q399 : x6_1 < (t393.length : Int) := of_decide_eq_true (by first | (with_reducible assumption) | assumption)
                        obtain ⟨ad399, e399, hx399_0⟩ := Kd.at_int (Kd.R_reads' HO_4.out).2.2 x6_1 p399 q399
                        cases e399
                        replace p399 := eq_true p399
                        replace q399 := eq_true q399
                        go_wp2
                        repeat (go_quiet (fail); try go_wp2)
                        go_meet
                        case rel => exact ⟨_, (true), (by first | rfl | (simp; done) | (simp [*]; done)), H', ⟨by have := HK1.out; first | omega | exact Nat.le_refl _⟩, ⟨by (with_reducible repeat (first | apply Kd.R_alloc | apply Kd.R_drewN | apply Kd.R_drew)); exact HO_4.out⟩, ⟨by (with_reducible repeat (first | apply Kd.R_alloc | apply Kd.R_drewN | apply Kd.R_drew)); exact HO_5.out⟩, ⟨by repeat (first | (with_reducible first | exact HB.out | apply below_alloc | apply pw_below_drewN | apply below_drew1) | exact HB.out)⟩⟩
                      · rw [if_neg c18] at H
                        have c18b0 : decide ((rd t393 x6_1) < 0) = false := decide_eq_false c18
                        clear c18
                        by_cases c19 : (rd t393 x6_1) ≥ (l0.length : Int)
                        · rw [if_pos c19] at H
                          have c19b0 : decide ((l0.length : Int) ≤ (rd t393 x6_1)) = true := decide_eq_true c19
                          clear c19
                          have H' := Aside0.mk H
                          clear H
                          have p399 : 0 ≤ (x6_1 : Int) := of_decide_eq_true (by first | (with_reducible assumption) | assumption)
                          have q399 : x6_1 < (t393.length : Int) := of_decide_eq_true (by first | (with_reducible assumption) | assumption)
                          obtain ⟨ad399, e399, hx399_0⟩ := Kd.at_int (Kd.R_reads' HO_4.out).2.2 x6_1 p399 q399
                          cases e399
                          replace p399 := eq_true p399
                          replace q399 := eq_true q399
                          have p400 : 0 ≤ (x6_1 : Int) := of_decide_eq_true (by first | (with_reducible assumption) | assumption)
                          have q400 : x6_1 < (t393.length : Int) := of_decide_eq_true (by first | (with_reducible assumption) | assumption)
                          obtain ⟨ad400, e400, hx400_0⟩ := Kd.at_int (Kd.R_reads' HO_4.out).2.2 x6_1 p400 q400
                          obtain rfl : ad399 = ad400 := (by injection e400)
                          replace p400 := eq_true p400
                          replace q400 := eq_true q400
                          go_wp2
                          repeat (go_quiet (fail); try go_wp2)
                          go_meet
                          case rel => exact ⟨_, (true), (by first | rfl | (simp; done) | (simp [*]; done)), H', ⟨by have := HK1.out; first | omega | exact Nat.le_refl _⟩, ⟨by (with_reducible repeat (first | apply Kd.R_alloc | apply Kd.R_drewN | apply Kd.R_drew)); exact HO_4.out⟩, ⟨by (with_reducible repeat (first | apply Kd.R_alloc | apply Kd.R_drewN | apply Kd.R_drew)); exact HO_5.out⟩, ⟨by repeat (first | (with_reducible first | exact HB.out | apply below_alloc | apply pw_below_drewN | apply below_drew1) | exact HB.out)⟩⟩
                        · rw [if_neg c19] at H
                          have c19b0 : decide ((l0.length : Int) ≤ (rd t393 x6_1)) = false := decide_eq_false c19
                          clear c19
                          by_cases c20 : 0 ≤ (rd t393 x6_1)
                          · rw [if_pos c20] at H
                            have c20b0 : decide (0 ≤ (rd t393 x6_1)) = true := decide_eq_true c20
                            clear c20
                            by_cases c21 : (rd t393 x6_1) < (x5_1.length : Int)
                            · rw [if_pos c21] at H
                              have c21b0 : decide ((rd t393 x6_1) < (x5_1.length : Int)) = true := decide_eq_true c21
                              clear c21
                              have H' := Aside0.mk H
                              clear H
                              have p399 : 0 ≤ (x6_1 : Int) := of_decide_eq_true (by first | (with_reducible assumption) | assumption)
                              have q399 : x6_1 < (t393.length : Int) := of_decide_eq_true (by first | (with_reducible assumption) | assumption)
                              obtain ⟨ad399, e399, hx399_0⟩ := Kd.at_int (Kd.R_reads' HO_4.out).2.2 x6_1 p399 q399
                              cases e399
                              replace p399 := eq_true p399
                              replace q399 := eq_true q399
                              have p400 : 0 ≤ (x6_1 : Int) := of_decide_eq_true (by first | (with_reducible assumption) | assumption)
                              have q400 : x6_1 < (t393.length : Int) := of_decide_eq_true (by first | (with_reducible assumption) | assumption)
                              obtain ⟨ad400, e400, hx400_0⟩ := Kd.at_int (Kd.R_reads' HO_4.out).2.2 x6_1 p400 q400
                              obtain rfl : ad399 = ad400 := (by injection e400)
                              replace p400 := eq_true p400
                              replace q400 := eq_true q400
                              have p401 : 0 ≤ (x6_1 : Int) := of_decide_eq_true (by first | (with_reducible assumption) | assumption)
                              have q401 : x6_1 < (t393.length : Int) := of_decide_eq_true (by first | (with_reducible assumption) | assumption)
                              obtain ⟨ad401, e401, hx401_0⟩ := Kd.at_int (Kd.R_reads' HO_4.out).2.2 x6_1 p401 q401
                              obtain rfl : ad399 = ad401 := (by injection e401)
                              replace p401 := eq_true p401
                              replace q401 := eq_true q401
                              obtain ⟨Ao22, co22, eo22⟩ := Kd.R_slice HO_5.out
                              subst eo22
                              have p402 : 0 ≤ ((rd t393 x6_1) : Int) := of_decide_eq_true (by first | (with_reducible assumption) | assumption)
                              have q402 : (rd t393 x6_1) < (x5_1.length : Int) := of_decide_eq_true (by first | (with_reducible assumption) | assumption)
                              obtain ⟨ad402, e402, hx402_0⟩ := Kd.at_bool (Kd.R_reads' HO_5.out).2.2 (rd t393 x6_1) p402 q402
                              cases e402
                              replace p402 := eq_true p402
                              replace q402 := eq_true q402
                              go_wp2
                              repeat (go_quiet (fail); try go_wp2)
                              go_meet
                              case rel => exact ⟨_, (rdOf false x5_1 (rd t393 x6_1)), (by first | rfl | (simp; done) | (simp [*]; done)), H', ⟨by have := HK1.out; first | omega | exact Nat.le_refl _⟩, ⟨by (with_reducible repeat (first | apply Kd.R_alloc | apply Kd.R_drewN | apply Kd.R_drew)); exact HO_4.out⟩, ⟨by (with_reducible repeat (first | apply Kd.R_alloc | apply Kd.R_drewN | apply Kd.R_drew)); exact HO_5.out⟩, ⟨by repeat (first | (with_reducible first | exact HB.out | apply below_alloc | apply pw_below_drewN | apply below_drew1) | exact HB.out)⟩⟩
                            · rw [if_neg c21] at H
                              exact absurd H (by simp)
                          · rw [if_neg c20] at H
                            exact absurd H (by simp)
                    · rw [if_neg c17] at H
                      exact absurd H (by simp)
                  case rest =>
                    clear HC16
                    try clear c1
                    try clear c2
                    try clear p2
                    try clear c3
                    try clear p3
                    try clear q3
                    try clear hx3
                    try clear c4
                    try clear c4b0
                    try clear c4b1
                    try clear p4
                    try clear q4
                    try clear hx4
                    try clear c7
                    try clear c7b0
                    try clear c7b1
                    try clear c7b2
                    try clear c8
                    try clear c8b0
                    try clear c8b1
                    try clear c9
                    try clear c9b0
                    try clear c9b1
                    try clear c11
                    try clear c15
                    try clear c15b0
                    try clear c17
                    try clear c17b0
                    try clear c18
                    try clear c18b0
                    try clear c19
                    try clear c19b0
                    try clear c20
                    try clear c20b0
                    try clear c21
                    try clear c21b0
                    try clear hx399_0
                    try clear hx400_0
                    try clear hx401_0
                    try clear hx402_0
                    try clear p2
                    try clear p399
                    try clear p400
                    try clear p401
                    try clear p402
                    try clear q399
                    try clear q400
                    try clear q401
                    try clear q402
                    obtain ⟨kq, x52_15, rfl, HA, HJ15, HO_4, HO_5, HB⟩ := hcut
                    cases kq with
                    | zero => exact absurd HA.out (by simp [valancelaw07_LinesOrder.j1])
                    | succ kj15 =>
                      have H := HA.out
                      clear HA
                      simp only [valancelaw07_LinesOrder.j1] at H
                      by_cases c23 : x52_15 = true
                      · subst c23
                        have H1 : (none) = some r := by rw [if_pos rfl] at H; exact H
                        clear H
                        have H := H1
                        clear H1
                        exact absurd H (by simp)
                      · replace c23 := Bool.eq_false_iff.mpr c23
                        subst c23
                        have H1 : (if 0 ≤ x6_1 then (if x6_1 < (t393.length : Int) then (if 0 ≤ (rd t393 x6_1) then (if (rd t393 x6_1) < (x5_1.length : Int) then ((some (x5_1.set ((rd t393 x6_1) : Int).toNat true : List Bool)).bind fun y404 => (if x6_1 > 0 then (if 0 ≤ (wrap64 (x6_1 - 1)) then (if (wrap64 (x6_1 - 1)) < (t393.length : Int) then (if 0 ≤ (rd t393 (wrap64 (x6_1 - 1))) then (if (rd t393 (wrap64 (x6_1 - 1))) < (l0.length : Int) then (if (rd t393 x6_1) < (l0.length : Int) then (if (rd l0 (rd t393 (wrap64 (x6_1 - 1)))) > (rd l0 (rd t393 x6_1)) then (none) else (if (rd l0 (rd t393 (wrap64 (x6_1 - 1)))) = (rd l0 (rd t393 x6_1)) then (if (rd t393 (wrap64 (x6_1 - 1))) > (rd t393 x6_1) then (none) else (valancelaw07_LinesOrder.l0 kj15 l0 true t393 y404 (wrap64 (x6_1 + 1)))) else (valancelaw07_LinesOrder.l0 kj15 l0 true t393 y404 (wrap64 (x6_1 + 1))))) else (none)) else (none)) else (none)) else (none)) else (none)) else (valancelaw07_LinesOrder.l0 kj15 l0 true t393 y404 (wrap64 (x6_1 + 1))))) else (none)) else (none)) else (none)) else (none)) = some r := by rw [if_neg (show ¬ (false = true) by decide)] at H; exact H
                        clear H
                        have H := H1
                        clear H1
                        by_cases c24 : 0 ≤ x6_1
                        · rw [if_pos c24] at H
                          have c24b0 : decide (0 ≤ x6_1) = true := decide_eq_true c24
                          clear c24
                          by_cases c25 : x6_1 < (t393.length : Int)
                          · rw [if_pos c25] at H
                            have c25b0 : decide (x6_1 < (t393.length : Int)) = true := decide_eq_true c25
                            clear c25
                            by_cases c26 : 0 ≤ (rd t393 x6_1)
                            · rw [if_pos c26] at H
                              have c26b0 : decide (0 ≤ (rd t393 x6_1)) = true := decide_eq_true c26
                              clear c26
                              by_cases c27 : (rd t393 x6_1) < (x5_1.length : Int)
                              · rw [if_pos c27] at H
                                have c27b0 : decide ((rd t393 x6_1) < (x5_1.length : Int)) = true := decide_eq_true c27
                                clear c27
                                obtain ⟨y404, hy404⟩ : ∃ y_ : List Bool, y_ = (x5_1.set ((rd t393 x6_1) : Int).toNat true) := ⟨_, rfl⟩
                                replace H : (if x6_1 > 0 then (if 0 ≤ (wrap64 (x6_1 - 1)) then (if (wrap64 (x6_1 - 1)) < (t393.length : Int) then (if 0 ≤ (rd t393 (wrap64 (x6_1 - 1))) then (if (rd t393 (wrap64 (x6_1 - 1))) < (l0.length : Int) then (if (rd t393 x6_1) < (l0.length : Int) then (if (rd l0 (rd t393 (wrap64 (x6_1 - 1)))) > (rd l0 (rd t393 x6_1)) then (none) else (if (rd l0 (rd t393 (wrap64 (x6_1 - 1)))) = (rd l0 (rd t393 x6_1)) then (if (rd t393 (wrap64 (x6_1 - 1))) > (rd t393 x6_1) then (none) else (valancelaw07_LinesOrder.l0 kj15 l0 true t393 y404 (wrap64 (x6_1 + 1)))) else (valancelaw07_LinesOrder.l0 kj15 l0 true t393 y404 (wrap64 (x6_1 + 1))))) else (none)) else (none)) else (none)) else (none)) else (none)) else (valancelaw07_LinesOrder.l0 kj15 l0 true t393 y404 (wrap64 (x6_1 + 1)))) = some r := by first | (rw [hy404]; with_reducible exact H) | (have H2_ := (Option.bind_some _ _).symm.trans H; rw [hy404]; with_reducible exact H2_) | (have H2_ := (Option.bind_some _ _).symm.trans H; with_reducible exact H2_) | with_reducible exact H | (rw [hy404]; exact H) | exact H
                                have Ny404 := Aside0.mk hy404
                                clear hy404
                                by_cases c29 : x6_1 > 0
                                · rw [if_pos c29] at H
                                  have c29b0 : decide (0 < x6_1) = true := decide_eq_true c29
                                  clear c29
                                  obtain ⟨ji30, hji30⟩ : ∃ j_ : Int, (wrap64 (x6_1 - 1)) = j_ := ⟨_, rfl⟩
                                  replace H : (if 0 ≤ (ji30) then (if (ji30) < (t393.length : Int) then (if 0 ≤ (rd t393 (ji30)) then (if (rd t393 (ji30)) < (l0.length : Int) then (if (rd t393 x6_1) < (l0.length : Int) then (if (rd l0 (rd t393 (ji30))) > (rd l0 (rd t393 x6_1)) then (none) else (if (rd l0 (rd t393 (ji30))) = (rd l0 (rd t393 x6_1)) then (if (rd t393 (ji30)) > (rd t393 x6_1) then (none) else (valancelaw07_LinesOrder.l0 kj15 l0 true t393 y404 (wrap64 (x6_1 + 1)))) else (valancelaw07_LinesOrder.l0 kj15 l0 true t393 y404 (wrap64 (x6_1 + 1))))) else (none)) else (none)) else (none)) else (none)) else (none)) = some r := by first | (rw [hji30] at H; exact H) | (simp only [hji30] at H ⊢; exact H)
                                  have hji30w : (IntKind.i64.wrap (x6_1 - 1)) = ji30 := (i64_w _).trans hji30
                                  by_cases c31 : 0 ≤ (ji30)
                                  · rw [if_pos c31] at H
                                    have c31b0 : decide (0 ≤ (ji30)) = true := decide_eq_true c31
                                    clear c31
                                    by_cases c32 : (ji30) < (t393.length : Int)
                                    · rw [if_pos c32] at H
                                      have c32b0 : decide ((ji30) < (t393.length : Int)) = true := decide_eq_true c32
                                      clear c32
                                      by_cases c33 : 0 ≤ (rd t393 (ji30))
                                      · rw [if_pos c33] at H
                                        have c33b0 : decide (0 ≤ (rd t393 (ji30))) = true := decide_eq_true c33
                                        clear c33
                                        by_cases c34 : (rd t393 (ji30)) < (l0.length : Int)
                                        · rw [if_pos c34] at H
                                          have c34b0 : decide ((rd t393 (ji30)) < (l0.length : Int)) = true := decide_eq_true c34
                                          clear c34
                                          by_cases c35 : (rd t393 x6_1) < (l0.length : Int)
                                          · rw [if_pos c35] at H
                                            have c35b0 : decide ((rd t393 x6_1) < (l0.length : Int)) = true := decide_eq_true c35
                                            clear c35
                                            by_cases c36 : (rd l0 (rd t393 (ji30))) > (rd l0 (rd t393 x6_1))
                                            · rw [if_pos c36] at H
                                              exact absurd H (by simp)
                                            · rw [if_neg c36] at H
                                              have c36b0 : decide ((rd l0 (rd t393 x6_1)) < (rd l0 (rd t393 (ji30)))) = false := decide_eq_false c36
                                              clear c36
                                              by_cases c37 : (rd l0 (rd t393 (ji30))) = (rd l0 (rd t393 x6_1))
                                              · rw [if_pos c37] at H
                                                have c37b0 : ((rd l0 (rd t393 (ji30))) == (rd l0 (rd t393 x6_1))) = true := beq_iff_eq.mpr c37
                                                have c37b1 : ((rd l0 (rd t393 (ji30))) != (rd l0 (rd t393 x6_1))) = false := bne_eq_false_iff_eq.mpr c37
                                                clear c37
                                                by_cases c38 : (rd t393 (ji30)) > (rd t393 x6_1)
                                                · rw [if_pos c38] at H
                                                  exact absurd H (by simp)
                                                · rw [if_neg c38] at H
                                                  have c38b0 : decide ((rd t393 x6_1) < (rd t393 (ji30))) = false := decide_eq_false c38
                                                  clear c38
                                                  have H' := Aside0.mk H
                                                  clear H
                                                  have p403 : 0 ≤ (x6_1 : Int) := of_decide_eq_true (by first | (with_reducible assumption) | assumption)
                                                  have q403 : x6_1 < (t393.length : Int) := of_decide_eq_true (by first | (with_reducible assumption) | assumption)
                                                  obtain ⟨ad403, e403, hx403_0⟩ := Kd.at_int (Kd.R_reads' HO_4.out).2.2 x6_1 p403 q403
                                                  cases e403
                                                  replace p403 := eq_true p403
                                                  replace q403 := eq_true q403
                                                  have p28 : 0 ≤ ((rd t393 x6_1) : Int) := of_decide_eq_true (by first | (with_reducible assumption) | assumption)
                                                  have q28 : ((rd t393 x6_1) : Int) < ((x5_1.length : Int) : Int) := of_decide_eq_true (by first | (with_reducible assumption) | assumption)
                                                  obtain ⟨go28, co28, eo28, gb28, gl28, cl28, HG28⟩ := Kd.R_form HO_5.out (by omega)
                                                  (first | cases eo28 | (injection eo28 with ea_ en_ ec_; (first | subst ea_ | (injection ea_ with ea_; subst ea_)); subst ec_; clear en_))
                                                  have GB28 := Aside0.mk gb28
                                                  have GG28 := Aside0.mk HG28
                                                  clear gb28 gl28 HG28
                                                  obtain ⟨hx28_0, hf28_0⟩ := Kd.R_celln false HO_5.out ((rd t393 x6_1) : Int) p28 q28
                                                  replace p28 := eq_true p28
                                                  replace q28 := eq_true q28
                                                  have HP39 := Kd.R_putg HO_5.out ((rd t393 x6_1) : Int) true
                                                  go_wp2_with (first | ((with_reducible refine gate_store (t := 4) (p := 58) rfl ?_); (try (rw [drewN_self wc]; generalize hq_ : World.drewN wc _ = wc; have n0_ := Aside0.mk (Kd.R_at hq_ HO_4.out); have n1_ := Aside0.mk (Kd.R_at hq_ HO_5.out); have n2_ := Aside0.mk (below_at hq_ HB.out); clear hq_ HO_4 HO_5 HB; have HO_4 := n0_; have HO_5 := n1_; have HB := n2_; clear n0_ n1_ n2_; (try (have HP39 := Kd.R_putg HO_5.out ((rd t393 x6_1) : Int) true)))); refine store_event (t := 4) (p := 58) (v := ?vo_w40) (w1 := (wc.setCell ⟨go28, ((rd t393 x6_1) : Int).toNat, none⟩ (.bool true))) ?hg ?ho ?hn ?hr ?_; (case ho => rfl); (case hg => rfl); (case hn => rfl); (case hr => first | (go_simp; done) | (go_simp; rfl)); intro w40 hw; have hg : wc.grownBy w40 (some go28) := (by rw [hw]; exact HP39.2); have hp_ : Kd.R Kd.bool 4 w40 w.heap.size (fun _ => True) (.slice (some ⟨go28, 0, none⟩) x5_1.length co28) y404 := (by rw [hw, Ny404.out]; exact HP39.1); clear HP39; have n0_ := Aside0.mk (Kd.R_over' (v := (.slice (some ⟨go28, 0, none⟩) x5_1.length co28)) (by (with_reducible repeat (first | apply Kd.R_alloc | apply Kd.R_drewN | apply Kd.R_drew)); exact HO_4.out) (Kd.R_typed HO_5.out) (by decide) hg); have n1_ := Aside0.mk (hp_); have n2_ := Aside0.mk ((by rw [hw]; exact below_set (HB.out) GB28.out : Below w.heap.size w w40)); clear HO_4; clear HO_5; clear HB; have HO_4 := n0_; have HO_5 := n1_; have HB := n2_; clear n0_ n1_ n2_; clear hg hw hp_; have p405 : 0 ≤ ((ji30) : Int) := of_decide_eq_true (by first | (with_reducible assumption) | assumption); have q405 : (ji30) < (t393.length : Int) := of_decide_eq_true (by first | (with_reducible assumption) | assumption); obtain ⟨ad405, e405, hx405_0⟩ := Kd.at_int (Kd.R_reads' HO_4.out).2.2 (ji30) p405 q405; obtain rfl : ad403 = ad405 := (by injection e405); replace p405 := eq_true p405; replace q405 := eq_true q405; have p406 : 0 ≤ ((rd t393 (ji30)) : Int) := of_decide_eq_true (by first | (with_reducible assumption) | assumption); have q406 : (rd t393 (ji30)) < (l0.length : Int) := of_decide_eq_true (by first | (with_reducible assumption) | assumption); obtain ⟨ad406, e406, hx406_0⟩ := Kd.at_int HR0.out (rd t393 (ji30)) p406 q406; cases e406; replace hx406_0 := (HB.out.cell (World.block_lt_of_cell? w _ hx406_0)).trans hx406_0; replace p406 := eq_true p406; replace q406 := eq_true q406; have p407 : 0 ≤ (x6_1 : Int) := of_decide_eq_true (by first | (with_reducible assumption) | assumption); have q407 : x6_1 < (t393.length : Int) := of_decide_eq_true (by first | (with_reducible assumption) | assumption); obtain ⟨ad407, e407, hx407_0⟩ := Kd.at_int (Kd.R_reads' HO_4.out).2.2 x6_1 p407 q407; obtain rfl : ad403 = ad407 := (by injection e407); replace p407 := eq_true p407; replace q407 := eq_true q407; have p408 : 0 ≤ ((rd t393 x6_1) : Int) := of_decide_eq_true (by first | (with_reducible assumption) | assumption); have q408 : (rd t393 x6_1) < (l0.length : Int) := of_decide_eq_true (by first | (with_reducible assumption) | assumption); obtain ⟨ad408, e408, hx408_0⟩ := Kd.at_int HR0.out (rd t393 x6_1) p408 q408; obtain rfl : ad406 = ad408 := (by injection e408); replace hx408_0 := (HB.out.cell (World.block_lt_of_cell? w _ hx408_0)).trans hx408_0; replace p408 := eq_true p408; replace q408 := eq_true q408; have p409 : 0 ≤ ((ji30) : Int) := of_decide_eq_true (by first | (with_reducible assumption) | assumption); have q409 : (ji30) < (t393.length : Int) := of_decide_eq_true (by first | (with_reducible assumption) | assumption); obtain ⟨ad409, e409, hx409_0⟩ := Kd.at_int (Kd.R_reads' HO_4.out).2.2 (ji30) p409 q409; obtain rfl : ad403 = ad409 := (by injection e409); replace p409 := eq_true p409; replace q409 := eq_true q409; have p410 : 0 ≤ ((rd t393 (ji30)) : Int) := of_decide_eq_true (by first | (with_reducible assumption) | assumption); have q410 : (rd t393 (ji30)) < (l0.length : Int) := of_decide_eq_true (by first | (with_reducible assumption) | assumption); obtain ⟨ad410, e410, hx410_0⟩ := Kd.at_int HR0.out (rd t393 (ji30)) p410 q410; obtain rfl : ad406 = ad410 := (by injection e410); replace hx410_0 := (HB.out.cell (World.block_lt_of_cell? w _ hx410_0)).trans hx410_0; replace p410 := eq_true p410; replace q410 := eq_true q410; have p411 : 0 ≤ (x6_1 : Int) := of_decide_eq_true (by first | (with_reducible assumption) | assumption); have q411 : x6_1 < (t393.length : Int) := of_decide_eq_true (by first | (with_reducible assumption) | assumption); obtain ⟨ad411, e411, hx411_0⟩ := Kd.at_int (Kd.R_reads' HO_4.out).2.2 x6_1 p411 q411; obtain rfl : ad403 = ad411 := (by injection e411); replace p411 := eq_true p411; replace q411 := eq_true q411; have p412 : 0 ≤ ((rd t393 x6_1) : Int) := of_decide_eq_true (by first | (with_reducible assumption) | assumption); have q412 : (rd t393 x6_1) < (l0.length : Int) := of_decide_eq_true (by first | (with_reducible assumption) | assumption); obtain ⟨ad412, e412, hx412_0⟩ := Kd.at_int HR0.out (rd t393 x6_1) p412 q412; obtain rfl : ad406 = ad412 := (by injection e412); replace hx412_0 := (HB.out.cell (World.block_lt_of_cell? w _ hx412_0)).trans hx412_0; replace p412 := eq_true p412; replace q412 := eq_true q412; have p413 : 0 ≤ ((ji30) : Int) := of_decide_eq_true (by first | (with_reducible assumption) | assumption); have q413 : (ji30) < (t393.length : Int) := of_decide_eq_true (by first | (with_reducible assumption) | assumption); obtain ⟨ad413, e413, hx413_0⟩ := Kd.at_int (Kd.R_reads' HO_4.out).2.2 (ji30) p413 q413; obtain rfl : ad403 = ad413 := (by injection e413); replace p413 := eq_true p413; replace q413 := eq_true q413; have p414 : 0 ≤ (x6_1 : Int) := of_decide_eq_true (by first | (with_reducible assumption) | assumption); have q414 : x6_1 < (t393.length : Int) := of_decide_eq_true (by first | (with_reducible assumption) | assumption); obtain ⟨ad414, e414, hx414_0⟩ := Kd.at_int (Kd.R_reads' HO_4.out).2.2 x6_1 p414 q414; obtain rfl : ad403 = ad414 := (by injection e414); replace p414 := eq_true p414; replace q414 := eq_true q414))
                                                  repeat (go_quiet (first | ((with_reducible refine gate_store (t := 4) (p := 58) rfl ?_); (try (rw [drewN_self wc]; generalize hq_ : World.drewN wc _ = wc; have n0_ := Aside0.mk (Kd.R_at hq_ HO_4.out); have n1_ := Aside0.mk (Kd.R_at hq_ HO_5.out); have n2_ := Aside0.mk (below_at hq_ HB.out); clear hq_ HO_4 HO_5 HB; have HO_4 := n0_; have HO_5 := n1_; have HB := n2_; clear n0_ n1_ n2_; (try (have HP39 := Kd.R_putg HO_5.out ((rd t393 x6_1) : Int) true)))); refine store_event (t := 4) (p := 58) (v := ?vo_w40) (w1 := (wc.setCell ⟨go28, ((rd t393 x6_1) : Int).toNat, none⟩ (.bool true))) ?hg ?ho ?hn ?hr ?_; (case ho => rfl); (case hg => rfl); (case hn => rfl); (case hr => first | (go_simp; done) | (go_simp; rfl)); intro w40 hw; have hg : wc.grownBy w40 (some go28) := (by rw [hw]; exact HP39.2); have hp_ : Kd.R Kd.bool 4 w40 w.heap.size (fun _ => True) (.slice (some ⟨go28, 0, none⟩) x5_1.length co28) y404 := (by rw [hw, Ny404.out]; exact HP39.1); clear HP39; have n0_ := Aside0.mk (Kd.R_over' (v := (.slice (some ⟨go28, 0, none⟩) x5_1.length co28)) (by (with_reducible repeat (first | apply Kd.R_alloc | apply Kd.R_drewN | apply Kd.R_drew)); exact HO_4.out) (Kd.R_typed HO_5.out) (by decide) hg); have n1_ := Aside0.mk (hp_); have n2_ := Aside0.mk ((by rw [hw]; exact below_set (HB.out) GB28.out : Below w.heap.size w w40)); clear HO_4; clear HO_5; clear HB; have HO_4 := n0_; have HO_5 := n1_; have HB := n2_; clear n0_ n1_ n2_; clear hg hw hp_; have p405 : 0 ≤ ((ji30) : Int) := of_decide_eq_true (by first | (with_reducible assumption) | assumption); have q405 : (ji30) < (t393.length : Int) := of_decide_eq_true (by first | (with_reducible assumption) | assumption); obtain ⟨ad405, e405, hx405_0⟩ := Kd.at_int (Kd.R_reads' HO_4.out).2.2 (ji30) p405 q405; obtain rfl : ad403 = ad405 := (by injection e405); replace p405 := eq_true p405; replace q405 := eq_true q405; have p406 : 0 ≤ ((rd t393 (ji30)) : Int) := of_decide_eq_true (by first | (with_reducible assumption) | assumption); have q406 : (rd t393 (ji30)) < (l0.length : Int) := of_decide_eq_true (by first | (with_reducible assumption) | assumption); obtain ⟨ad406, e406, hx406_0⟩ := Kd.at_int HR0.out (rd t393 (ji30)) p406 q406; cases e406; replace hx406_0 := (HB.out.cell (World.block_lt_of_cell? w _ hx406_0)).trans hx406_0; replace p406 := eq_true p406; replace q406 := eq_true q406; have p407 : 0 ≤ (x6_1 : Int) := of_decide_eq_true (by first | (with_reducible assumption) | assumption); have q407 : x6_1 < (t393.length : Int) := of_decide_eq_true (by first | (with_reducible assumption) | assumption); obtain ⟨ad407, e407, hx407_0⟩ := Kd.at_int (Kd.R_reads' HO_4.out).2.2 x6_1 p407 q407; obtain rfl : ad403 = ad407 := (by injection e407); replace p407 := eq_true p407; replace q407 := eq_true q407; have p408 : 0 ≤ ((rd t393 x6_1) : Int) := of_decide_eq_true (by first | (with_reducible assumption) | assumption); have q408 : (rd t393 x6_1) < (l0.length : Int) := of_decide_eq_true (by first | (with_reducible assumption) | assumption); obtain ⟨ad408, e408, hx408_0⟩ := Kd.at_int HR0.out (rd t393 x6_1) p408 q408; obtain rfl : ad406 = ad408 := (by injection e408); replace hx408_0 := (HB.out.cell (World.block_lt_of_cell? w _ hx408_0)).trans hx408_0; replace p408 := eq_true p408; replace q408 := eq_true q408; have p409 : 0 ≤ ((ji30) : Int) := of_decide_eq_true (by first | (with_reducible assumption) | assumption); have q409 : (ji30) < (t393.length : Int) := of_decide_eq_true (by first | (with_reducible assumption) | assumption); obtain ⟨ad409, e409, hx409_0⟩ := Kd.at_int (Kd.R_reads' HO_4.out).2.2 (ji30) p409 q409; obtain rfl : ad403 = ad409 := (by injection e409); replace p409 := eq_true p409; replace q409 := eq_true q409; have p410 : 0 ≤ ((rd t393 (ji30)) : Int) := of_decide_eq_true (by first | (with_reducible assumption) | assumption); have q410 : (rd t393 (ji30)) < (l0.length : Int) := of_decide_eq_true (by first | (with_reducible assumption) | assumption); obtain ⟨ad410, e410, hx410_0⟩ := Kd.at_int HR0.out (rd t393 (ji30)) p410 q410; obtain rfl : ad406 = ad410 := (by injection e410); replace hx410_0 := (HB.out.cell (World.block_lt_of_cell? w _ hx410_0)).trans hx410_0; replace p410 := eq_true p410; replace q410 := eq_true q410; have p411 : 0 ≤ (x6_1 : Int) := of_decide_eq_true (by first | (with_reducible assumption) | assumption); have q411 : x6_1 < (t393.length : Int) := of_decide_eq_true (by first | (with_reducible assumption) | assumption); obtain ⟨ad411, e411, hx411_0⟩ := Kd.at_int (Kd.R_reads' HO_4.out).2.2 x6_1 p411 q411; obtain rfl : ad403 = ad411 := (by injection e411); replace p411 := eq_true p411; replace q411 := eq_true q411; have p412 : 0 ≤ ((rd t393 x6_1) : Int) := of_decide_eq_true (by first | (with_reducible assumption) | assumption); have q412 : (rd t393 x6_1) < (l0.length : Int) := of_decide_eq_true (by first | (with_reducible assumption) | assumption); obtain ⟨ad412, e412, hx412_0⟩ := Kd.at_int HR0.out (rd t393 x6_1) p412 q412; obtain rfl : ad406 = ad412 := (by injection e412); replace hx412_0 := (HB.out.cell (World.block_lt_of_cell? w _ hx412_0)).trans hx412_0; replace p412 := eq_true p412; replace q412 := eq_true q412; have p413 : 0 ≤ ((ji30) : Int) := of_decide_eq_true (by first | (with_reducible assumption) | assumption); have q413 : (ji30) < (t393.length : Int) := of_decide_eq_true (by first | (with_reducible assumption) | assumption); obtain ⟨ad413, e413, hx413_0⟩ := Kd.at_int (Kd.R_reads' HO_4.out).2.2 (ji30) p413 q413; obtain rfl : ad403 = ad413 := (by injection e413); replace p413 := eq_true p413; replace q413 := eq_true q413; have p414 : 0 ≤ (x6_1 : Int) := of_decide_eq_true (by first | (with_reducible assumption) | assumption); have q414 : x6_1 < (t393.length : Int) := of_decide_eq_true (by first | (with_reducible assumption) | assumption); obtain ⟨ad414, e414, hx414_0⟩ := Kd.at_int (Kd.R_reads' HO_4.out).2.2 x6_1 p414 q414; obtain rfl : ad403 = ad414 := (by injection e414); replace p414 := eq_true p414; replace q414 := eq_true q414)); try go_wp2_with (first | ((with_reducible refine gate_store (t := 4) (p := 58) rfl ?_); (try (rw [drewN_self wc]; generalize hq_ : World.drewN wc _ = wc; have n0_ := Aside0.mk (Kd.R_at hq_ HO_4.out); have n1_ := Aside0.mk (Kd.R_at hq_ HO_5.out); have n2_ := Aside0.mk (below_at hq_ HB.out); clear hq_ HO_4 HO_5 HB; have HO_4 := n0_; have HO_5 := n1_; have HB := n2_; clear n0_ n1_ n2_; (try (have HP39 := Kd.R_putg HO_5.out ((rd t393 x6_1) : Int) true)))); refine store_event (t := 4) (p := 58) (v := ?vo_w40) (w1 := (wc.setCell ⟨go28, ((rd t393 x6_1) : Int).toNat, none⟩ (.bool true))) ?hg ?ho ?hn ?hr ?_; (case ho => rfl); (case hg => rfl); (case hn => rfl); (case hr => first | (go_simp; done) | (go_simp; rfl)); intro w40 hw; have hg : wc.grownBy w40 (some go28) := (by rw [hw]; exact HP39.2); have hp_ : Kd.R Kd.bool 4 w40 w.heap.size (fun _ => True) (.slice (some ⟨go28, 0, none⟩) x5_1.length co28) y404 := (by rw [hw, Ny404.out]; exact HP39.1); clear HP39; have n0_ := Aside0.mk (Kd.R_over' (v := (.slice (some ⟨go28, 0, none⟩) x5_1.length co28)) (by (with_reducible repeat (first | apply Kd.R_alloc | apply Kd.R_drewN | apply Kd.R_drew)); exact HO_4.out) (Kd.R_typed HO_5.out) (by decide) hg); have n1_ := Aside0.mk (hp_); have n2_ := Aside0.mk ((by rw [hw]; exact below_set (HB.out) GB28.out : Below w.heap.size w w40)); clear HO_4; clear HO_5; clear HB; have HO_4 := n0_; have HO_5 := n1_; have HB := n2_; clear n0_ n1_ n2_; clear hg hw hp_; have p405 : 0 ≤ ((ji30) : Int) := of_decide_eq_true (by first | (with_reducible assumption) | assumption); have q405 : (ji30) < (t393.length : Int) := of_decide_eq_true (by first | (with_reducible assumption) | assumption); obtain ⟨ad405, e405, hx405_0⟩ := Kd.at_int (Kd.R_reads' HO_4.out).2.2 (ji30) p405 q405; obtain rfl : ad403 = ad405 := (by injection e405); replace p405 := eq_true p405; replace q405 := eq_true q405; have p406 : 0 ≤ ((rd t393 (ji30)) : Int) := of_decide_eq_true (by first | (with_reducible assumption) | assumption); have q406 : (rd t393 (ji30)) < (l0.length : Int) := of_decide_eq_true (by first | (with_reducible assumption) | assumption); obtain ⟨ad406, e406, hx406_0⟩ := Kd.at_int HR0.out (rd t393 (ji30)) p406 q406; cases e406; replace hx406_0 := (HB.out.cell (World.block_lt_of_cell? w _ hx406_0)).trans hx406_0; replace p406 := eq_true p406; replace q406 := eq_true q406; have p407 : 0 ≤ (x6_1 : Int) := of_decide_eq_true (by first | (with_reducible assumption) | assumption); have q407 : x6_1 < (t393.length : Int) := of_decide_eq_true (by first | (with_reducible assumption) | assumption); obtain ⟨ad407, e407, hx407_0⟩ := Kd.at_int (Kd.R_reads' HO_4.out).2.2 x6_1 p407 q407; obtain rfl : ad403 = ad407 := (by injection e407); replace p407 := eq_true p407; replace q407 := eq_true q407; have p408 : 0 ≤ ((rd t393 x6_1) : Int) := of_decide_eq_true (by first | (with_reducible assumption) | assumption); have q408 : (rd t393 x6_1) < (l0.length : Int) := of_decide_eq_true (by first | (with_reducible assumption) | assumption); obtain ⟨ad408, e408, hx408_0⟩ := Kd.at_int HR0.out (rd t393 x6_1) p408 q408; obtain rfl : ad406 = ad408 := (by injection e408); replace hx408_0 := (HB.out.cell (World.block_lt_of_cell? w _ hx408_0)).trans hx408_0; replace p408 := eq_true p408; replace q408 := eq_true q408; have p409 : 0 ≤ ((ji30) : Int) := of_decide_eq_true (by first | (with_reducible assumption) | assumption); have q409 : (ji30) < (t393.length : Int) := of_decide_eq_true (by first | (with_reducible assumption) | assumption); obtain ⟨ad409, e409, hx409_0⟩ := Kd.at_int (Kd.R_reads' HO_4.out).2.2 (ji30) p409 q409; obtain rfl : ad403 = ad409 := (by injection e409); replace p409 := eq_true p409; replace q409 := eq_true q409; have p410 : 0 ≤ ((rd t393 (ji30)) : Int) := of_decide_eq_true (by first | (with_reducible assumption) | assumption); have q410 : (rd t393 (ji30)) < (l0.length : Int) := of_decide_eq_true (by first | (with_reducible assumption) | assumption); obtain ⟨ad410, e410, hx410_0⟩ := Kd.at_int HR0.out (rd t393 (ji30)) p410 q410; obtain rfl : ad406 = ad410 := (by injection e410); replace hx410_0 := (HB.out.cell (World.block_lt_of_cell? w _ hx410_0)).trans hx410_0; replace p410 := eq_true p410; replace q410 := eq_true q410; have p411 : 0 ≤ (x6_1 : Int) := of_decide_eq_true (by first | (with_reducible assumption) | assumption); have q411 : x6_1 < (t393.length : Int) := of_decide_eq_true (by first | (with_reducible assumption) | assumption); obtain ⟨ad411, e411, hx411_0⟩ := Kd.at_int (Kd.R_reads' HO_4.out).2.2 x6_1 p411 q411; obtain rfl : ad403 = ad411 := (by injection e411); replace p411 := eq_true p411; replace q411 := eq_true q411; have p412 : 0 ≤ ((rd t393 x6_1) : Int) := of_decide_eq_true (by first | (with_reducible assumption) | assumption); have q412 : (rd t393 x6_1) < (l0.length : Int) := of_decide_eq_true (by first | (with_reducible assumption) | assumption); obtain ⟨ad412, e412, hx412_0⟩ := Kd.at_int HR0.out (rd t393 x6_1) p412 q412; obtain rfl : ad406 = ad412 := (by injection e412); replace hx412_0 := (HB.out.cell (World.block_lt_of_cell? w _ hx412_0)).trans hx412_0; replace p412 := eq_true p412; replace q412 := eq_true q412; have p413 : 0 ≤ ((ji30) : Int) := of_decide_eq_true (by first | (with_reducible assumption) | assumption); have q413 : (ji30) < (t393.length : Int) := of_decide_eq_true (by first | (with_reducible assumption) | assumption); obtain ⟨ad413, e413, hx413_0⟩ := Kd.at_int (Kd.R_reads' HO_4.out).2.2 (ji30) p413 q413; obtain rfl : ad403 = ad413 := (by injection e413); replace p413 := eq_true p413; replace q413 := eq_true q413; have p414 : 0 ≤ (x6_1 : Int) := of_decide_eq_true (by first | (with_reducible assumption) | assumption); have q414 : x6_1 < (t393.length : Int) := of_decide_eq_true (by first | (with_reducible assumption) | assumption); obtain ⟨ad414, e414, hx414_0⟩ := Kd.at_int (Kd.R_reads' HO_4.out).2.2 x6_1 p414 q414; obtain rfl : ad403 = ad414 := (by injection e414); replace p414 := eq_true p414; replace q414 := eq_true q414)))
                                                  go_roundg kj15
                                                  case measure => have := HK1.out; have := HJ15.out; omega
                                                  case rel => exact ⟨(y404), (wrap64 (x6_1 + 1)), (by first | rfl | (simp; done) | (simp [*]; done)), H', ⟨by have := HK1.out; have := HJ15.out; omega⟩, ⟨by (with_reducible repeat (first | apply Kd.R_alloc | apply Kd.R_drewN | apply Kd.R_drew)); exact HO_4.out⟩, ⟨by (with_reducible repeat (first | apply Kd.R_alloc | apply Kd.R_drewN | apply Kd.R_drew)); exact HO_5.out⟩, ⟨by repeat (first | (with_reducible first | exact HB.out | apply below_alloc | apply pw_below_drewN | apply below_drew1) | exact HB.out)⟩⟩
                                              · rw [if_neg c37] at H
                                                have c37b0 : ((rd l0 (rd t393 (ji30))) == (rd l0 (rd t393 x6_1))) = false := beq_eq_false_iff_ne.mpr c37
                                                have c37b1 : ((rd l0 (rd t393 (ji30))) != (rd l0 (rd t393 x6_1))) = true := bne_iff_ne.mpr c37
                                                have H' := Aside0.mk H
                                                clear H
                                                have p403 : 0 ≤ (x6_1 : Int) := of_decide_eq_true (by first | (with_reducible assumption) | assumption)
                                                have q403 : x6_1 < (t393.length : Int) := of_decide_eq_true (by first | (with_reducible assumption) | assumption)
                                                obtain ⟨ad403, e403, hx403_0⟩ := Kd.at_int (Kd.R_reads' HO_4.out).2.2 x6_1 p403 q403
                                                cases e403
                                                replace p403 := eq_true p403
                                                replace q403 := eq_true q403
                                                have p28 : 0 ≤ ((rd t393 x6_1) : Int) := of_decide_eq_true (by first | (with_reducible assumption) | assumption)
                                                have q28 : ((rd t393 x6_1) : Int) < ((x5_1.length : Int) : Int) := of_decide_eq_true (by first | (with_reducible assumption) | assumption)
                                                obtain ⟨go28, co28, eo28, gb28, gl28, cl28, HG28⟩ := Kd.R_form HO_5.out (by omega)
                                                (first | cases eo28 | (injection eo28 with ea_ en_ ec_; (first | subst ea_ | (injection ea_ with ea_; subst ea_)); subst ec_; clear en_))
                                                have GB28 := Aside0.mk gb28
                                                have GG28 := Aside0.mk HG28
                                                clear gb28 gl28 HG28
                                                obtain ⟨hx28_0, hf28_0⟩ := Kd.R_celln false HO_5.out ((rd t393 x6_1) : Int) p28 q28
                                                replace p28 := eq_true p28
                                                replace q28 := eq_true q28
                                                have HP41 := Kd.R_putg HO_5.out ((rd t393 x6_1) : Int) true
                                                go_wp2_with (first | ((with_reducible refine gate_store (t := 4) (p := 58) rfl ?_); (try (rw [drewN_self wc]; generalize hq_ : World.drewN wc _ = wc; have n0_ := Aside0.mk (Kd.R_at hq_ HO_4.out); have n1_ := Aside0.mk (Kd.R_at hq_ HO_5.out); have n2_ := Aside0.mk (below_at hq_ HB.out); clear hq_ HO_4 HO_5 HB; have HO_4 := n0_; have HO_5 := n1_; have HB := n2_; clear n0_ n1_ n2_; (try (have HP41 := Kd.R_putg HO_5.out ((rd t393 x6_1) : Int) true)))); refine store_event (t := 4) (p := 58) (v := ?vo_w42) (w1 := (wc.setCell ⟨go28, ((rd t393 x6_1) : Int).toNat, none⟩ (.bool true))) ?hg ?ho ?hn ?hr ?_; (case ho => rfl); (case hg => rfl); (case hn => rfl); (case hr => first | (go_simp; done) | (go_simp; rfl)); intro w42 hw; have hg : wc.grownBy w42 (some go28) := (by rw [hw]; exact HP41.2); have hp_ : Kd.R Kd.bool 4 w42 w.heap.size (fun _ => True) (.slice (some ⟨go28, 0, none⟩) x5_1.length co28) y404 := (by rw [hw, Ny404.out]; exact HP41.1); clear HP41; have n0_ := Aside0.mk (Kd.R_over' (v := (.slice (some ⟨go28, 0, none⟩) x5_1.length co28)) (by (with_reducible repeat (first | apply Kd.R_alloc | apply Kd.R_drewN | apply Kd.R_drew)); exact HO_4.out) (Kd.R_typed HO_5.out) (by decide) hg); have n1_ := Aside0.mk (hp_); have n2_ := Aside0.mk ((by rw [hw]; exact below_set (HB.out) GB28.out : Below w.heap.size w w42)); clear HO_4; clear HO_5; clear HB; have HO_4 := n0_; have HO_5 := n1_; have HB := n2_; clear n0_ n1_ n2_; clear hg hw hp_; have p405 : 0 ≤ ((ji30) : Int) := of_decide_eq_true (by first | (with_reducible assumption) | assumption); have q405 : (ji30) < (t393.length : Int) := of_decide_eq_true (by first | (with_reducible assumption) | assumption); obtain ⟨ad405, e405, hx405_0⟩ := Kd.at_int (Kd.R_reads' HO_4.out).2.2 (ji30) p405 q405; obtain rfl : ad403 = ad405 := (by injection e405); replace p405 := eq_true p405; replace q405 := eq_true q405; have p406 : 0 ≤ ((rd t393 (ji30)) : Int) := of_decide_eq_true (by first | (with_reducible assumption) | assumption); have q406 : (rd t393 (ji30)) < (l0.length : Int) := of_decide_eq_true (by first | (with_reducible assumption) | assumption); obtain ⟨ad406, e406, hx406_0⟩ := Kd.at_int HR0.out (rd t393 (ji30)) p406 q406; cases e406; replace hx406_0 := (HB.out.cell (World.block_lt_of_cell? w _ hx406_0)).trans hx406_0; replace p406 := eq_true p406; replace q406 := eq_true q406; have p407 : 0 ≤ (x6_1 : Int) := of_decide_eq_true (by first | (with_reducible assumption) | assumption); have q407 : x6_1 < (t393.length : Int) := of_decide_eq_true (by first | (with_reducible assumption) | assumption); obtain ⟨ad407, e407, hx407_0⟩ := Kd.at_int (Kd.R_reads' HO_4.out).2.2 x6_1 p407 q407; obtain rfl : ad403 = ad407 := (by injection e407); replace p407 := eq_true p407; replace q407 := eq_true q407; have p408 : 0 ≤ ((rd t393 x6_1) : Int) := of_decide_eq_true (by first | (with_reducible assumption) | assumption); have q408 : (rd t393 x6_1) < (l0.length : Int) := of_decide_eq_true (by first | (with_reducible assumption) | assumption); obtain ⟨ad408, e408, hx408_0⟩ := Kd.at_int HR0.out (rd t393 x6_1) p408 q408; obtain rfl : ad406 = ad408 := (by injection e408); replace hx408_0 := (HB.out.cell (World.block_lt_of_cell? w _ hx408_0)).trans hx408_0; replace p408 := eq_true p408; replace q408 := eq_true q408; have p409 : 0 ≤ ((ji30) : Int) := of_decide_eq_true (by first | (with_reducible assumption) | assumption); have q409 : (ji30) < (t393.length : Int) := of_decide_eq_true (by first | (with_reducible assumption) | assumption); obtain ⟨ad409, e409, hx409_0⟩ := Kd.at_int (Kd.R_reads' HO_4.out).2.2 (ji30) p409 q409; obtain rfl : ad403 = ad409 := (by injection e409); replace p409 := eq_true p409; replace q409 := eq_true q409; have p410 : 0 ≤ ((rd t393 (ji30)) : Int) := of_decide_eq_true (by first | (with_reducible assumption) | assumption); have q410 : (rd t393 (ji30)) < (l0.length : Int) := of_decide_eq_true (by first | (with_reducible assumption) | assumption); obtain ⟨ad410, e410, hx410_0⟩ := Kd.at_int HR0.out (rd t393 (ji30)) p410 q410; obtain rfl : ad406 = ad410 := (by injection e410); replace hx410_0 := (HB.out.cell (World.block_lt_of_cell? w _ hx410_0)).trans hx410_0; replace p410 := eq_true p410; replace q410 := eq_true q410; have p411 : 0 ≤ (x6_1 : Int) := of_decide_eq_true (by first | (with_reducible assumption) | assumption); have q411 : x6_1 < (t393.length : Int) := of_decide_eq_true (by first | (with_reducible assumption) | assumption); obtain ⟨ad411, e411, hx411_0⟩ := Kd.at_int (Kd.R_reads' HO_4.out).2.2 x6_1 p411 q411; obtain rfl : ad403 = ad411 := (by injection e411); replace p411 := eq_true p411; replace q411 := eq_true q411; have p412 : 0 ≤ ((rd t393 x6_1) : Int) := of_decide_eq_true (by first | (with_reducible assumption) | assumption); have q412 : (rd t393 x6_1) < (l0.length : Int) := of_decide_eq_true (by first | (with_reducible assumption) | assumption); obtain ⟨ad412, e412, hx412_0⟩ := Kd.at_int HR0.out (rd t393 x6_1) p412 q412; obtain rfl : ad406 = ad412 := (by injection e412); replace hx412_0 := (HB.out.cell (World.block_lt_of_cell? w _ hx412_0)).trans hx412_0; replace p412 := eq_true p412; replace q412 := eq_true q412))
                                                repeat (go_quiet (first | ((with_reducible refine gate_store (t := 4) (p := 58) rfl ?_); (try (rw [drewN_self wc]; generalize hq_ : World.drewN wc _ = wc; have n0_ := Aside0.mk (Kd.R_at hq_ HO_4.out); have n1_ := Aside0.mk (Kd.R_at hq_ HO_5.out); have n2_ := Aside0.mk (below_at hq_ HB.out); clear hq_ HO_4 HO_5 HB; have HO_4 := n0_; have HO_5 := n1_; have HB := n2_; clear n0_ n1_ n2_; (try (have HP41 := Kd.R_putg HO_5.out ((rd t393 x6_1) : Int) true)))); refine store_event (t := 4) (p := 58) (v := ?vo_w42) (w1 := (wc.setCell ⟨go28, ((rd t393 x6_1) : Int).toNat, none⟩ (.bool true))) ?hg ?ho ?hn ?hr ?_; (case ho => rfl); (case hg => rfl); (case hn => rfl); (case hr => first | (go_simp; done) | (go_simp; rfl)); intro w42 hw; have hg : wc.grownBy w42 (some go28) := (by rw [hw]; exact HP41.2); have hp_ : Kd.R Kd.bool 4 w42 w.heap.size (fun _ => True) (.slice (some ⟨go28, 0, none⟩) x5_1.length co28) y404 := (by rw [hw, Ny404.out]; exact HP41.1); clear HP41; have n0_ := Aside0.mk (Kd.R_over' (v := (.slice (some ⟨go28, 0, none⟩) x5_1.length co28)) (by (with_reducible repeat (first | apply Kd.R_alloc | apply Kd.R_drewN | apply Kd.R_drew)); exact HO_4.out) (Kd.R_typed HO_5.out) (by decide) hg); have n1_ := Aside0.mk (hp_); have n2_ := Aside0.mk ((by rw [hw]; exact below_set (HB.out) GB28.out : Below w.heap.size w w42)); clear HO_4; clear HO_5; clear HB; have HO_4 := n0_; have HO_5 := n1_; have HB := n2_; clear n0_ n1_ n2_; clear hg hw hp_; have p405 : 0 ≤ ((ji30) : Int) := of_decide_eq_true (by first | (with_reducible assumption) | assumption); have q405 : (ji30) < (t393.length : Int) := of_decide_eq_true (by first | (with_reducible assumption) | assumption); obtain ⟨ad405, e405, hx405_0⟩ := Kd.at_int (Kd.R_reads' HO_4.out).2.2 (ji30) p405 q405; obtain rfl : ad403 = ad405 := (by injection e405); replace p405 := eq_true p405; replace q405 := eq_true q405; have p406 : 0 ≤ ((rd t393 (ji30)) : Int) := of_decide_eq_true (by first | (with_reducible assumption) | assumption); have q406 : (rd t393 (ji30)) < (l0.length : Int) := of_decide_eq_true (by first | (with_reducible assumption) | assumption); obtain ⟨ad406, e406, hx406_0⟩ := Kd.at_int HR0.out (rd t393 (ji30)) p406 q406; cases e406; replace hx406_0 := (HB.out.cell (World.block_lt_of_cell? w _ hx406_0)).trans hx406_0; replace p406 := eq_true p406; replace q406 := eq_true q406; have p407 : 0 ≤ (x6_1 : Int) := of_decide_eq_true (by first | (with_reducible assumption) | assumption); have q407 : x6_1 < (t393.length : Int) := of_decide_eq_true (by first | (with_reducible assumption) | assumption); obtain ⟨ad407, e407, hx407_0⟩ := Kd.at_int (Kd.R_reads' HO_4.out).2.2 x6_1 p407 q407; obtain rfl : ad403 = ad407 := (by injection e407); replace p407 := eq_true p407; replace q407 := eq_true q407; have p408 : 0 ≤ ((rd t393 x6_1) : Int) := of_decide_eq_true (by first | (with_reducible assumption) | assumption); have q408 : (rd t393 x6_1) < (l0.length : Int) := of_decide_eq_true (by first | (with_reducible assumption) | assumption); obtain ⟨ad408, e408, hx408_0⟩ := Kd.at_int HR0.out (rd t393 x6_1) p408 q408; obtain rfl : ad406 = ad408 := (by injection e408); replace hx408_0 := (HB.out.cell (World.block_lt_of_cell? w _ hx408_0)).trans hx408_0; replace p408 := eq_true p408; replace q408 := eq_true q408; have p409 : 0 ≤ ((ji30) : Int) := of_decide_eq_true (by first | (with_reducible assumption) | assumption); have q409 : (ji30) < (t393.length : Int) := of_decide_eq_true (by first | (with_reducible assumption) | assumption); obtain ⟨ad409, e409, hx409_0⟩ := Kd.at_int (Kd.R_reads' HO_4.out).2.2 (ji30) p409 q409; obtain rfl : ad403 = ad409 := (by injection e409); replace p409 := eq_true p409; replace q409 := eq_true q409; have p410 : 0 ≤ ((rd t393 (ji30)) : Int) := of_decide_eq_true (by first | (with_reducible assumption) | assumption); have q410 : (rd t393 (ji30)) < (l0.length : Int) := of_decide_eq_true (by first | (with_reducible assumption) | assumption); obtain ⟨ad410, e410, hx410_0⟩ := Kd.at_int HR0.out (rd t393 (ji30)) p410 q410; obtain rfl : ad406 = ad410 := (by injection e410); replace hx410_0 := (HB.out.cell (World.block_lt_of_cell? w _ hx410_0)).trans hx410_0; replace p410 := eq_true p410; replace q410 := eq_true q410; have p411 : 0 ≤ (x6_1 : Int) := of_decide_eq_true (by first | (with_reducible assumption) | assumption); have q411 : x6_1 < (t393.length : Int) := of_decide_eq_true (by first | (with_reducible assumption) | assumption); obtain ⟨ad411, e411, hx411_0⟩ := Kd.at_int (Kd.R_reads' HO_4.out).2.2 x6_1 p411 q411; obtain rfl : ad403 = ad411 := (by injection e411); replace p411 := eq_true p411; replace q411 := eq_true q411; have p412 : 0 ≤ ((rd t393 x6_1) : Int) := of_decide_eq_true (by first | (with_reducible assumption) | assumption); have q412 : (rd t393 x6_1) < (l0.length : Int) := of_decide_eq_true (by first | (with_reducible assumption) | assumption); obtain ⟨ad412, e412, hx412_0⟩ := Kd.at_int HR0.out (rd t393 x6_1) p412 q412; obtain rfl : ad406 = ad412 := (by injection e412); replace hx412_0 := (HB.out.cell (World.block_lt_of_cell? w _ hx412_0)).trans hx412_0; replace p412 := eq_true p412; replace q412 := eq_true q412)); try go_wp2_with (first | ((with_reducible refine gate_store (t := 4) (p := 58) rfl ?_); (try (rw [drewN_self wc]; generalize hq_ : World.drewN wc _ = wc; have n0_ := Aside0.mk (Kd.R_at hq_ HO_4.out); have n1_ := Aside0.mk (Kd.R_at hq_ HO_5.out); have n2_ := Aside0.mk (below_at hq_ HB.out); clear hq_ HO_4 HO_5 HB; have HO_4 := n0_; have HO_5 := n1_; have HB := n2_; clear n0_ n1_ n2_; (try (have HP41 := Kd.R_putg HO_5.out ((rd t393 x6_1) : Int) true)))); refine store_event (t := 4) (p := 58) (v := ?vo_w42) (w1 := (wc.setCell ⟨go28, ((rd t393 x6_1) : Int).toNat, none⟩ (.bool true))) ?hg ?ho ?hn ?hr ?_; (case ho => rfl); (case hg => rfl); (case hn => rfl); (case hr => first | (go_simp; done) | (go_simp; rfl)); intro w42 hw; have hg : wc.grownBy w42 (some go28) := (by rw [hw]; exact HP41.2); have hp_ : Kd.R Kd.bool 4 w42 w.heap.size (fun _ => True) (.slice (some ⟨go28, 0, none⟩) x5_1.length co28) y404 := (by rw [hw, Ny404.out]; exact HP41.1); clear HP41; have n0_ := Aside0.mk (Kd.R_over' (v := (.slice (some ⟨go28, 0, none⟩) x5_1.length co28)) (by (with_reducible repeat (first | apply Kd.R_alloc | apply Kd.R_drewN | apply Kd.R_drew)); exact HO_4.out) (Kd.R_typed HO_5.out) (by decide) hg); have n1_ := Aside0.mk (hp_); have n2_ := Aside0.mk ((by rw [hw]; exact below_set (HB.out) GB28.out : Below w.heap.size w w42)); clear HO_4; clear HO_5; clear HB; have HO_4 := n0_; have HO_5 := n1_; have HB := n2_; clear n0_ n1_ n2_; clear hg hw hp_; have p405 : 0 ≤ ((ji30) : Int) := of_decide_eq_true (by first | (with_reducible assumption) | assumption); have q405 : (ji30) < (t393.length : Int) := of_decide_eq_true (by first | (with_reducible assumption) | assumption); obtain ⟨ad405, e405, hx405_0⟩ := Kd.at_int (Kd.R_reads' HO_4.out).2.2 (ji30) p405 q405; obtain rfl : ad403 = ad405 := (by injection e405); replace p405 := eq_true p405; replace q405 := eq_true q405; have p406 : 0 ≤ ((rd t393 (ji30)) : Int) := of_decide_eq_true (by first | (with_reducible assumption) | assumption); have q406 : (rd t393 (ji30)) < (l0.length : Int) := of_decide_eq_true (by first | (with_reducible assumption) | assumption); obtain ⟨ad406, e406, hx406_0⟩ := Kd.at_int HR0.out (rd t393 (ji30)) p406 q406; cases e406; replace hx406_0 := (HB.out.cell (World.block_lt_of_cell? w _ hx406_0)).trans hx406_0; replace p406 := eq_true p406; replace q406 := eq_true q406; have p407 : 0 ≤ (x6_1 : Int) := of_decide_eq_true (by first | (with_reducible assumption) | assumption); have q407 : x6_1 < (t393.length : Int) := of_decide_eq_true (by first | (with_reducible assumption) | assumption); obtain ⟨ad407, e407, hx407_0⟩ := Kd.at_int (Kd.R_reads' HO_4.out).2.2 x6_1 p407 q407; obtain rfl : ad403 = ad407 := (by injection e407); replace p407 := eq_true p407; replace q407 := eq_true q407; have p408 : 0 ≤ ((rd t393 x6_1) : Int) := of_decide_eq_true (by first | (with_reducible assumption) | assumption); have q408 : (rd t393 x6_1) < (l0.length : Int) := of_decide_eq_true (by first | (with_reducible assumption) | assumption); obtain ⟨ad408, e408, hx408_0⟩ := Kd.at_int HR0.out (rd t393 x6_1) p408 q408; obtain rfl : ad406 = ad408 := (by injection e408); replace hx408_0 := (HB.out.cell (World.block_lt_of_cell? w _ hx408_0)).trans hx408_0; replace p408 := eq_true p408; replace q408 := eq_true q408; have p409 : 0 ≤ ((ji30) : Int) := of_decide_eq_true (by first | (with_reducible assumption) | assumption); have q409 : (ji30) < (t393.length : Int) := of_decide_eq_true (by first | (with_reducible assumption) | assumption); obtain ⟨ad409, e409, hx409_0⟩ := Kd.at_int (Kd.R_reads' HO_4.out).2.2 (ji30) p409 q409; obtain rfl : ad403 = ad409 := (by injection e409); replace p409 := eq_true p409; replace q409 := eq_true q409; have p410 : 0 ≤ ((rd t393 (ji30)) : Int) := of_decide_eq_true (by first | (with_reducible assumption) | assumption); have q410 : (rd t393 (ji30)) < (l0.length : Int) := of_decide_eq_true (by first | (with_reducible assumption) | assumption); obtain ⟨ad410, e410, hx410_0⟩ := Kd.at_int HR0.out (rd t393 (ji30)) p410 q410; obtain rfl : ad406 = ad410 := (by injection e410); replace hx410_0 := (HB.out.cell (World.block_lt_of_cell? w _ hx410_0)).trans hx410_0; replace p410 := eq_true p410; replace q410 := eq_true q410; have p411 : 0 ≤ (x6_1 : Int) := of_decide_eq_true (by first | (with_reducible assumption) | assumption); have q411 : x6_1 < (t393.length : Int) := of_decide_eq_true (by first | (with_reducible assumption) | assumption); obtain ⟨ad411, e411, hx411_0⟩ := Kd.at_int (Kd.R_reads' HO_4.out).2.2 x6_1 p411 q411; obtain rfl : ad403 = ad411 := (by injection e411); replace p411 := eq_true p411; replace q411 := eq_true q411; have p412 : 0 ≤ ((rd t393 x6_1) : Int) := of_decide_eq_true (by first | (with_reducible assumption) | assumption); have q412 : (rd t393 x6_1) < (l0.length : Int) := of_decide_eq_true (by first | (with_reducible assumption) | assumption); obtain ⟨ad412, e412, hx412_0⟩ := Kd.at_int HR0.out (rd t393 x6_1) p412 q412; obtain rfl : ad406 = ad412 := (by injection e412); replace hx412_0 := (HB.out.cell (World.block_lt_of_cell? w _ hx412_0)).trans hx412_0; replace p412 := eq_true p412; replace q412 := eq_true q412)))
                                                go_roundg kj15
                                                case measure => have := HK1.out; have := HJ15.out; omega
                                                case rel => exact ⟨(y404), (wrap64 (x6_1 + 1)), (by first | rfl | (simp; done) | (simp [*]; done)), H', ⟨by have := HK1.out; have := HJ15.out; omega⟩, ⟨by (with_reducible repeat (first | apply Kd.R_alloc | apply Kd.R_drewN | apply Kd.R_drew)); exact HO_4.out⟩, ⟨by (with_reducible repeat (first | apply Kd.R_alloc | apply Kd.R_drewN | apply Kd.R_drew)); exact HO_5.out⟩, ⟨by repeat (first | (with_reducible first | exact HB.out | apply below_alloc | apply pw_below_drewN | apply below_drew1) | exact HB.out)⟩⟩
                                          · rw [if_neg c35] at H
                                            exact absurd H (by simp)
                                        · rw [if_neg c34] at H
                                          exact absurd H (by simp)
                                      · rw [if_neg c33] at H
                                        exact absurd H (by simp)
                                    · rw [if_neg c32] at H
                                      exact absurd H (by simp)
                                  · rw [if_neg c31] at H
                                    exact absurd H (by simp)
                                · rw [if_neg c29] at H
                                  have c29b0 : decide (0 < x6_1) = false := decide_eq_false c29
                                  clear c29
                                  have H' := Aside0.mk H
                                  clear H
                                  have p403 : 0 ≤ (x6_1 : Int) := of_decide_eq_true (by first | (with_reducible assumption) | assumption)
                                  have q403 : x6_1 < (t393.length : Int) := of_decide_eq_true (by first | (with_reducible assumption) | assumption)
                                  obtain ⟨ad403, e403, hx403_0⟩ := Kd.at_int (Kd.R_reads' HO_4.out).2.2 x6_1 p403 q403
                                  cases e403
                                  replace p403 := eq_true p403
                                  replace q403 := eq_true q403
                                  have p28 : 0 ≤ ((rd t393 x6_1) : Int) := of_decide_eq_true (by first | (with_reducible assumption) | assumption)
                                  have q28 : ((rd t393 x6_1) : Int) < ((x5_1.length : Int) : Int) := of_decide_eq_true (by first | (with_reducible assumption) | assumption)
                                  obtain ⟨go28, co28, eo28, gb28, gl28, cl28, HG28⟩ := Kd.R_form HO_5.out (by omega)
                                  (first | cases eo28 | (injection eo28 with ea_ en_ ec_; (first | subst ea_ | (injection ea_ with ea_; subst ea_)); subst ec_; clear en_))
                                  have GB28 := Aside0.mk gb28
                                  have GG28 := Aside0.mk HG28
                                  clear gb28 gl28 HG28
                                  obtain ⟨hx28_0, hf28_0⟩ := Kd.R_celln false HO_5.out ((rd t393 x6_1) : Int) p28 q28
                                  replace p28 := eq_true p28
                                  replace q28 := eq_true q28
                                  have HP43 := Kd.R_putg HO_5.out ((rd t393 x6_1) : Int) true
                                  go_wp2_with (first | ((with_reducible refine gate_store (t := 4) (p := 58) rfl ?_); (try (rw [drewN_self wc]; generalize hq_ : World.drewN wc _ = wc; have n0_ := Aside0.mk (Kd.R_at hq_ HO_4.out); have n1_ := Aside0.mk (Kd.R_at hq_ HO_5.out); have n2_ := Aside0.mk (below_at hq_ HB.out); clear hq_ HO_4 HO_5 HB; have HO_4 := n0_; have HO_5 := n1_; have HB := n2_; clear n0_ n1_ n2_; (try (have HP43 := Kd.R_putg HO_5.out ((rd t393 x6_1) : Int) true)))); refine store_event (t := 4) (p := 58) (v := ?vo_w44) (w1 := (wc.setCell ⟨go28, ((rd t393 x6_1) : Int).toNat, none⟩ (.bool true))) ?hg ?ho ?hn ?hr ?_; (case ho => rfl); (case hg => rfl); (case hn => rfl); (case hr => first | (go_simp; done) | (go_simp; rfl)); intro w44 hw; have hg : wc.grownBy w44 (some go28) := (by rw [hw]; exact HP43.2); have hp_ : Kd.R Kd.bool 4 w44 w.heap.size (fun _ => True) (.slice (some ⟨go28, 0, none⟩) x5_1.length co28) y404 := (by rw [hw, Ny404.out]; exact HP43.1); clear HP43; have n0_ := Aside0.mk (Kd.R_over' (v := (.slice (some ⟨go28, 0, none⟩) x5_1.length co28)) (by (with_reducible repeat (first | apply Kd.R_alloc | apply Kd.R_drewN | apply Kd.R_drew)); exact HO_4.out) (Kd.R_typed HO_5.out) (by decide) hg); have n1_ := Aside0.mk (hp_); have n2_ := Aside0.mk ((by rw [hw]; exact below_set (HB.out) GB28.out : Below w.heap.size w w44)); clear HO_4; clear HO_5; clear HB; have HO_4 := n0_; have HO_5 := n1_; have HB := n2_; clear n0_ n1_ n2_; clear hg hw hp_))
                                  repeat (go_quiet (first | ((with_reducible refine gate_store (t := 4) (p := 58) rfl ?_); (try (rw [drewN_self wc]; generalize hq_ : World.drewN wc _ = wc; have n0_ := Aside0.mk (Kd.R_at hq_ HO_4.out); have n1_ := Aside0.mk (Kd.R_at hq_ HO_5.out); have n2_ := Aside0.mk (below_at hq_ HB.out); clear hq_ HO_4 HO_5 HB; have HO_4 := n0_; have HO_5 := n1_; have HB := n2_; clear n0_ n1_ n2_; (try (have HP43 := Kd.R_putg HO_5.out ((rd t393 x6_1) : Int) true)))); refine store_event (t := 4) (p := 58) (v := ?vo_w44) (w1 := (wc.setCell ⟨go28, ((rd t393 x6_1) : Int).toNat, none⟩ (.bool true))) ?hg ?ho ?hn ?hr ?_; (case ho => rfl); (case hg => rfl); (case hn => rfl); (case hr => first | (go_simp; done) | (go_simp; rfl)); intro w44 hw; have hg : wc.grownBy w44 (some go28) := (by rw [hw]; exact HP43.2); have hp_ : Kd.R Kd.bool 4 w44 w.heap.size (fun _ => True) (.slice (some ⟨go28, 0, none⟩) x5_1.length co28) y404 := (by rw [hw, Ny404.out]; exact HP43.1); clear HP43; have n0_ := Aside0.mk (Kd.R_over' (v := (.slice (some ⟨go28, 0, none⟩) x5_1.length co28)) (by (with_reducible repeat (first | apply Kd.R_alloc | apply Kd.R_drewN | apply Kd.R_drew)); exact HO_4.out) (Kd.R_typed HO_5.out) (by decide) hg); have n1_ := Aside0.mk (hp_); have n2_ := Aside0.mk ((by rw [hw]; exact below_set (HB.out) GB28.out : Below w.heap.size w w44)); clear HO_4; clear HO_5; clear HB; have HO_4 := n0_; have HO_5 := n1_; have HB := n2_; clear n0_ n1_ n2_; clear hg hw hp_)); try go_wp2_with (first | ((with_reducible refine gate_store (t := 4) (p := 58) rfl ?_); (try (rw [drewN_self wc]; generalize hq_ : World.drewN wc _ = wc; have n0_ := Aside0.mk (Kd.R_at hq_ HO_4.out); have n1_ := Aside0.mk (Kd.R_at hq_ HO_5.out); have n2_ := Aside0.mk (below_at hq_ HB.out); clear hq_ HO_4 HO_5 HB; have HO_4 := n0_; have HO_5 := n1_; have HB := n2_; clear n0_ n1_ n2_; (try (have HP43 := Kd.R_putg HO_5.out ((rd t393 x6_1) : Int) true)))); refine store_event (t := 4) (p := 58) (v := ?vo_w44) (w1 := (wc.setCell ⟨go28, ((rd t393 x6_1) : Int).toNat, none⟩ (.bool true))) ?hg ?ho ?hn ?hr ?_; (case ho => rfl); (case hg => rfl); (case hn => rfl); (case hr => first | (go_simp; done) | (go_simp; rfl)); intro w44 hw; have hg : wc.grownBy w44 (some go28) := (by rw [hw]; exact HP43.2); have hp_ : Kd.R Kd.bool 4 w44 w.heap.size (fun _ => True) (.slice (some ⟨go28, 0, none⟩) x5_1.length co28) y404 := (by rw [hw, Ny404.out]; exact HP43.1); clear HP43; have n0_ := Aside0.mk (Kd.R_over' (v := (.slice (some ⟨go28, 0, none⟩) x5_1.length co28)) (by (with_reducible repeat (first | apply Kd.R_alloc | apply Kd.R_drewN | apply Kd.R_drew)); exact HO_4.out) (Kd.R_typed HO_5.out) (by decide) hg); have n1_ := Aside0.mk (hp_); have n2_ := Aside0.mk ((by rw [hw]; exact below_set (HB.out) GB28.out : Below w.heap.size w w44)); clear HO_4; clear HO_5; clear HB; have HO_4 := n0_; have HO_5 := n1_; have HB := n2_; clear n0_ n1_ n2_; clear hg hw hp_)))
                                  go_roundg kj15
                                  case measure => have := HK1.out; have := HJ15.out; omega
                                  case rel => exact ⟨(y404), (wrap64 (x6_1 + 1)), (by first | rfl | (simp; done) | (simp [*]; done)), H', ⟨by have := HK1.out; have := HJ15.out; omega⟩, ⟨by (with_reducible repeat (first | apply Kd.R_alloc | apply Kd.R_drewN | apply Kd.R_drew)); exact HO_4.out⟩, ⟨by (with_reducible repeat (first | apply Kd.R_alloc | apply Kd.R_drewN | apply Kd.R_drew)); exact HO_5.out⟩, ⟨by repeat (first | (with_reducible first | exact HB.out | apply below_alloc | apply pw_below_drewN | apply below_drew1) | exact HB.out)⟩⟩
                              · rw [if_neg c27] at H
                                exact absurd H (by simp)
                            · rw [if_neg c26] at H
                              exact absurd H (by simp)
                          · rw [if_neg c25] at H
                            exact absurd H (by simp)
                        · rw [if_neg c24] at H
                          exact absurd H (by simp)
                · rw [if_neg c15] at H
                  have c15b0 : decide (x6_1 < (t393.length : Int)) = false := decide_eq_false c15
                  clear c15
                  obtain rfl := Option.some.inj H
                  go_wp2
                  repeat (go_quiet (fail); try go_wp2)
                  go_ret
                  exact ⟨by first | rfl | (simp [errW_none, errW_some] <;> rfl) | (simp [*, errW_none, errW_some] <;> rfl), by repeat (first | (with_reducible first | exact HB.out | apply below_alloc | apply pw_below_drewN | apply below_drew1) | exact HB.out)⟩
          · rw [if_neg c9] at H
            exact absurd H (by simp)
        · rw [if_neg c8] at H
          exact absurd H (by simp)
      · rw [if_neg c7] at H
        exact absurd H (by simp)
  · replace c3 := Bool.eq_false_iff.mpr c3
    subst c3
    have H1 : (none) = some r := by rw [if_neg (show ¬ (false = true) by decide)] at H; exact H
    clear H
    have H := H1
    clear H1
    exact absurd H (by simp)

/-- THE ONE PURE STATEMENT of valancelaw07_LinesOrder: yours. -/
def valancelaw07_LinesOrder.Pure : Prop := ∀ (l0 : List Int), l0.length ≤ maxLen → l0.length * 8 ≤ 140737488351232 → (∀ x ∈ l0, (Lit.int .i64 x).wf = true) → ∃ k, valancelaw07_LinesOrder.f k l0 = some true
theorem valancelaw07_LinesOrder.walk (P : valancelaw07_LinesOrder.Pure) (a0 : Option Addr) (len0 cap0 : Nat) (z0 : List Int) (w : World) (w0 : (a0 = none ∧ len0 = 0 ∧ cap0 = 0 ∧ z0 = []) ∨ ∃ x, a0 = some x ∧ len0 ≤ cap0 ∧ cap0 ≤ maxLen ∧ z0.length = cap0 ∧ (∀ i, i < z0.length → w.cell? (x.add i) = some (.int .i64 (z0.getD i 0))) ∧ ∀ n ∈ z0, (Lit.int .i64 n).wf = true) (y0 : len0 * 8 ≤ 140737488351232) :
    Calls Try.prog 11 #[.slice a0 len0 cap0] w fun e w' => e = .returned (.bool true) ∧ Below w.heap.size w w' := by
  obtain ⟨l0, rfl, hr0, hm0, hw0, hc0⟩ := ReadsInt.ofRowC w0
  obtain ⟨k, h⟩ := P l0 hm0 y0 hw0
  refine (valancelaw07_LinesOrder.calls k _ _ l0 true w (Kd.C_of_reads (d := (0 : Int)) (h1 := fun _ => rfl) hr0) hc0 h).mono ?_
  rintro e w' ⟨rfl, hd⟩
  exact ⟨rfl, hd⟩

end Go.Proofs.Ytnmcefpnpfaklad.V
