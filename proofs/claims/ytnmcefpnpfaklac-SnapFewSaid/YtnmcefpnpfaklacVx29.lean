/- What the functions of this seat answer, as plain Lean functions, and that the calls come to just that (written by a program of this repo, over the kit's printer; Lean checks it). -/
import Derived.Test.YtnmcefpnpfaklacVx0
import Derived.Test.YtnmcefpnpfaklacVx4
import Derived.Test.YtnmcefpnpfaklacVx5
import Derived.Test.YtnmcefpnpfaklacVx10
namespace Go.Proofs.Ytnmcefpnpfaklac.V
open Go.RowKit Go.Proofs.YtnmcefpnpfaklacW.PrintWords Go.Proofs.YtnmcefpnpfaklacW.PrintLast Go.Proofs.YtnmcefpnpfaklacW.PrintMore
attribute [local go_sem] max2_int min2_int max_two min_two max_three min_three max_four min_four   -- for this text's walks alone
set_option linter.unusedVariables false
set_option linter.unusedSimpArgs false

/-! ### valancelaw11_SnapFew: function 9 -/
mutual
def valancelaw11_SnapFew.l0 : Nat → List (S33) → Int → Int → Bool → List Int → Int → Int → Option (Bool)
  | 0, _, _, _, _, _, _, _ => none
  | k + 1, x0, x1, x2, x7, x8, x9, x10 => if x10 < (x0.length : Int) then (if 0 ≤ x10 then ((snap_At.f ((rd_T33 x0 x10).f0.f0) ((rd_T33 x0 x10).f0.f1) ((rd_T33 x0 x10).f1) x1).bind fun bt267 => (if bt267.2 = true then (if bt267.1 < 0 then (valancelaw11_SnapFew.j1 k x0 x1 x2 x7 x8 x9 x10 bt267.1 true) else (valancelaw11_SnapFew.j1 k x0 x1 x2 x7 x8 x9 x10 bt267.1 (decide (bt267.1 > (mx x2 0))))) else (valancelaw11_SnapFew.j1 k x0 x1 x2 x7 x8 x9 x10 bt267.1 true))) else (none)) else (if x7 = true then (if x9 = (x8.length : Int) then ((snap_Stops.f ([] : List (S33)) x1 x2).bind fun t263 => (some ((t263.length : Int) == 0))) else (none)) else (none))
def valancelaw11_SnapFew.j1 : Nat → List (S33) → Int → Int → Bool → List Int → Int → Int → Int → Bool → Option (Bool)
  | 0, _, _, _, _, _, _, _, _, _ => none
  | k + 1, x0, x1, x2, x7, x8, x9, x10, x11, x50 => if x50 = true then (valancelaw11_SnapFew.l0 k x0 x1 x2 x7 x8 x9 (wrap64 (x10 + 1))) else (if x9 ≥ (x8.length : Int) then (none) else (if 0 ≤ x9 then (if x9 < (x8.length : Int) then (if (rd x8 x9) = x11 then (valancelaw11_SnapFew.l0 k x0 x1 x2 x7 x8 (wrap64 (x9 + 1)) (wrap64 (x10 + 1))) else (none)) else (none)) else (none)))
end
def valancelaw11_SnapFew.f (k : Nat) (l0 : List (S33)) (a1 : Int) (a2 : Int) : Option (Bool) := (valancelaw11_works.f).bind fun t259 => (if t259 = true then (if (l0.length : Int) > 300 then (some t259) else ((snap_Stops.f l0 a1 a2).bind fun t260 => (valancelaw11_SnapFew.l0 k l0 a1 a2 t259 t260 0 0))) else (none))
theorem valancelaw11_SnapFew.mono_l : ∀ k, (∀ y0 y1 y2 y3 y4 y5 y6, LeO (valancelaw11_SnapFew.l0 k y0 y1 y2 y3 y4 y5 y6) (valancelaw11_SnapFew.l0 (k + 1) y0 y1 y2 y3 y4 y5 y6)) ∧ (∀ y0 y1 y2 y3 y4 y5 y6 y7 y8, LeO (valancelaw11_SnapFew.j1 k y0 y1 y2 y3 y4 y5 y6 y7 y8) (valancelaw11_SnapFew.j1 (k + 1) y0 y1 y2 y3 y4 y5 y6 y7 y8))
  | 0 => ⟨fun _ _ _ _ _ _ _ r h => by simp [valancelaw11_SnapFew.l0] at h, fun _ _ _ _ _ _ _ _ _ r h => by simp [valancelaw11_SnapFew.j1] at h⟩
  | k + 1 => by
    obtain ⟨ih0, ih1⟩ := valancelaw11_SnapFew.mono_l k
    refine ⟨?_, ?_⟩
    · intro y0 y1 y2 y3 y4 y5 y6
      unfold valancelaw11_SnapFew.l0
      repeat' first
      | (with_reducible exact ih0 _ _ _ _ _ _ _)
      | (with_reducible exact ih1 _ _ _ _ _ _ _ _ _)
      | (with_reducible exact LeO.refl _)
      | (with_reducible exact LeO.none _)
      | (with_reducible refine LeO.ite ?_ ?_)
      | (with_reducible refine LeO.bind ?_ (fun _ => ?_))
      | exact ih0 _ _ _ _ _ _ _
      | exact ih1 _ _ _ _ _ _ _ _ _
      | exact LeO.none _
      | refine LeO.ite ?_ ?_
      | refine LeO.bind ?_ (fun _ => ?_)
    · intro y0 y1 y2 y3 y4 y5 y6 y7 y8
      unfold valancelaw11_SnapFew.j1
      repeat' first
      | (with_reducible exact ih0 _ _ _ _ _ _ _)
      | (with_reducible exact ih1 _ _ _ _ _ _ _ _ _)
      | (with_reducible exact LeO.refl _)
      | (with_reducible exact LeO.none _)
      | (with_reducible refine LeO.ite ?_ ?_)
      | (with_reducible refine LeO.bind ?_ (fun _ => ?_))
      | exact ih0 _ _ _ _ _ _ _
      | exact ih1 _ _ _ _ _ _ _ _ _
      | exact LeO.none _
      | refine LeO.ite ?_ ?_
      | refine LeO.bind ?_ (fun _ => ?_)
theorem valancelaw11_SnapFew.mono : ∀ a0 a1 a2 k, LeO (valancelaw11_SnapFew.f k a0 a1 a2) (valancelaw11_SnapFew.f (k + 1) a0 a1 a2) := by
  intro a0 a1 a2 k
  obtain ⟨ih0, ih1⟩ := valancelaw11_SnapFew.mono_l k
  unfold valancelaw11_SnapFew.f
  repeat' first
      | (with_reducible exact ih0 _ _ _ _ _ _ _)
      | (with_reducible exact ih1 _ _ _ _ _ _ _ _ _)
      | (with_reducible exact LeO.refl _)
      | (with_reducible exact LeO.none _)
      | (with_reducible refine LeO.ite ?_ ?_)
      | (with_reducible refine LeO.bind ?_ (fun _ => ?_))
      | exact ih0 _ _ _ _ _ _ _
      | exact ih1 _ _ _ _ _ _ _ _ _
      | exact LeO.none _
      | refine LeO.ite ?_ ?_
      | refine LeO.bind ?_ (fun _ => ?_)
set_option maxHeartbeats 8000000 in
set_option maxRecDepth 100000 in
theorem valancelaw11_SnapFew.calls (k : Nat) (A0 : Option Addr) (c0 : Nat) (l0 : List (S33)) (a1 : Int) (a2 : Int) (r : Bool) (w : World) (hr0 : Kd.C k33 w A0 l0.length l0) (hc0 : l0.length ≤ c0) (h : valancelaw11_SnapFew.f k l0 a1 a2 = some r) :
    Calls Try.prog 9 #[.slice A0 l0.length c0, .int .i64 a1, .int .i64 a2] w fun e w' => e = .returned (.bool r) ∧ Below w.heap.size w w' := by
  have hu33 := Try.underlying33
  have HR0 := Aside0.mk hr0
  have HC0 := Aside0.mk hc0
  clear hr0 hc0
  have HB := Aside0.mk (Below.refl w.heap.size w)
  have H : ((valancelaw11_works.f).bind fun t259 => (if t259 = true then (if (l0.length : Int) > 300 then (some t259) else ((snap_Stops.f l0 a1 a2).bind fun t260 => (valancelaw11_SnapFew.l0 k l0 a1 a2 t259 t260 0 0))) else (none))) = some r := h
  clear h
  replace H := Option.bind_eq_some_iff.mp H
  obtain ⟨t259, A40, H⟩ := H
  replace H : (if t259 = true then (if (l0.length : Int) > 300 then (some t259) else ((snap_Stops.f l0 a1 a2).bind fun t260 => (valancelaw11_SnapFew.l0 k l0 a1 a2 t259 t260 0 0))) else (none)) = some r := H
  have A4 := Aside0.mk A40
  clear A40
  by_cases c5 : t259 = true
  · subst c5
    have H1 : (if (l0.length : Int) > 300 then (some true) else ((snap_Stops.f l0 a1 a2).bind fun t260 => (valancelaw11_SnapFew.l0 k l0 a1 a2 true t260 0 0))) = some r := by rw [if_pos rfl] at H; exact H
    clear H
    have H := H1
    clear H1
    by_cases c6 : (l0.length : Int) > 300
    · rw [if_pos c6] at H
      have c6b0 : decide (300 < (l0.length : Int)) = true := decide_eq_true c6
      have c6b1 : decide (300 < l0.length) = true := decide_eq_true (by omega)
      clear c6
      obtain rfl := Option.some.inj H
      go_enter Try.func9, Try.ntmps9
      go_wp2_with (first | ((with_reducible refine gate_callee (f := 15) rfl ?_); refine goesL_ (some 13) rfl rfl Try.func15 (by kernel_rfl) rfl #[] rfl (by (try simp only [List.map_toArray, List.map_cons, List.map_nil]); first | done | rfl | (simp only [List.length_drop, List.length_take]; rfl)) ?_; (with_reducible refine (valancelaw11_works.calls  true _ A4.out).mono ?_); rintro e w7 ⟨rfl, hb⟩; refine ⟨_, rfl, ?_⟩; have n0_ := Aside0.mk (below_step (by repeat (first | (with_reducible first | exact HB.out | apply below_alloc | apply pw_below_drewN | apply below_drew1) | exact HB.out)) hb); clear HB; have HB := n0_; clear n0_; (try clear hb); (try clear hb2); (try clear hk); (try clear hi)))
      go_ret
      exact ⟨by first | rfl | (simp [errW_none, errW_some] <;> rfl) | (simp [*, errW_none, errW_some] <;> rfl), by repeat (first | (with_reducible first | exact HB.out | apply below_alloc | apply pw_below_drewN | apply below_drew1) | exact HB.out)⟩
    · rw [if_neg c6] at H
      have c6b0 : decide (300 < (l0.length : Int)) = false := decide_eq_false c6
      have c6b1 : decide (300 < l0.length) = false := decide_eq_false (by omega)
      clear c6
      replace H := Option.bind_eq_some_iff.mp H
      obtain ⟨t260, A80, H⟩ := H
      replace H : (valancelaw11_SnapFew.l0 k l0 a1 a2 true t260 0 0) = some r := H
      have A8 := Aside0.mk A80
      clear A80
      have H' := Aside0.mk H
      clear H
      go_enter Try.func9, Try.ntmps9
      go_wp2_with (first | ((with_reducible refine gate_callee (f := 15) rfl ?_); refine goesL_ (some 13) rfl rfl Try.func15 (by kernel_rfl) rfl #[] rfl (by (try simp only [List.map_toArray, List.map_cons, List.map_nil]); first | done | rfl | (simp only [List.length_drop, List.length_take]; rfl)) ?_; (with_reducible refine (valancelaw11_works.calls  true _ A4.out).mono ?_); rintro e w9 ⟨rfl, hb⟩; refine ⟨_, rfl, ?_⟩; have n0_ := Aside0.mk (below_step (by repeat (first | (with_reducible first | exact HB.out | apply below_alloc | apply pw_below_drewN | apply below_drew1) | exact HB.out)) hb); clear HB; have HB := n0_; clear n0_; (try clear hb); (try clear hb2); (try clear hk); (try clear hi)) | ((with_reducible refine gate_callee (f := 22) rfl ?_); refine goesL_ (some 23) rfl rfl Try.func22 (by kernel_rfl) rfl #[.slice A0 l0.length c0, .int .i64 a1, .int .i64 a2] rfl (by (try simp only [List.map_toArray, List.map_cons, List.map_nil]); first | done | rfl | (simp only [List.length_drop, List.length_take]; rfl)) ?_; (with_reducible refine (snap_Stops.calls _ _ l0 a1 a2 t260 _ ?side1 ?side2 A8.out).mono ?_); (case side1 => repeat (first | exact (Kd.C_below HR0.out HB.out) | (with_reducible refine Kd.C_alloc ?_ _) | (with_reducible refine Kd.C_drewN ?_ _) | (with_reducible refine Kd.C_drew ?_))); (case side2 => exact HC0.out); rintro e w10 ⟨v261, rfl, ho0, hb⟩; refine ⟨_, rfl, ?_⟩; have n0_ := Aside0.mk (Kd.R_lower ho0 (below_size (by repeat (first | (with_reducible first | exact HB.out | apply below_alloc | apply pw_below_drewN | apply below_drew1) | exact HB.out)))); have n1_ := Aside0.mk (below_step (by repeat (first | (with_reducible first | exact HB.out | apply below_alloc | apply pw_below_drewN | apply below_drew1) | exact HB.out)) hb); clear HB; have HO262 := n0_; have HB := n1_; clear n0_ n1_; (try clear hb); (try clear hb2); (try clear hk); (try clear hi); (try clear ho0)))
      go_loopg [9, 10] k (fun kq v9 v10 w' => ∃ (x9_1 : Int) (x10_1 : Int), v9 = .int .i64 x9_1 ∧ v10 = .int .i64 x10_1 ∧ Aside0 (valancelaw11_SnapFew.l0 kq l0 a1 a2 true t260 x9_1 x10_1 = some r) ∧ Aside0 (kq ≤ k) ∧ Aside0 (Kd.R (Kd.int .i64) 3 w' w.heap.size (fun _ => True) v261 t260) ∧ Aside0 (Below w.heap.size w w'))
      case atStart => exact ⟨(0), (0), (by first | rfl | (simp; done) | (simp [*]; done)), (by first | rfl | (simp; done) | (simp [*]; done)), H', ⟨Nat.le_refl _⟩, ⟨by (with_reducible repeat (first | apply Kd.R_alloc | apply Kd.R_drewN | apply Kd.R_drew)); exact HO262.out⟩, ⟨by repeat (first | (with_reducible first | exact HB.out | apply below_alloc | apply pw_below_drewN | apply below_drew1) | exact HB.out)⟩⟩
      case round =>
        clear H'
        try clear c1
        try clear c2
        try clear p2
        try clear c5
        try clear c6
        try clear c6b0
        try clear c6b1
        try clear c9
        obtain ⟨x9_1, x10_1, rfl, rfl, HA, HK1, HO_8, HB⟩ := hrel
        cases gk with
        | zero => exact absurd HA.out (by simp [valancelaw11_SnapFew.l0])
        | succ k1 =>
          have H := HA.out
          clear HA
          simp only [valancelaw11_SnapFew.l0] at H
          by_cases c11 : x10_1 < (l0.length : Int)
          · rw [if_pos c11] at H
            have c11b0 : decide (x10_1 < (l0.length : Int)) = true := decide_eq_true c11
            clear c11
            by_cases c12 : 0 ≤ x10_1
            · rw [if_pos c12] at H
              have c12b0 : decide (0 ≤ x10_1) = true := decide_eq_true c12
              clear c12
              replace H := Option.bind_eq_some_iff.mp H
              obtain ⟨⟨t267, t268⟩, A130, H⟩ := H
              replace H : (if t268 = true then (if t267 < 0 then (valancelaw11_SnapFew.j1 k1 l0 a1 a2 true t260 x9_1 x10_1 t267 true) else (valancelaw11_SnapFew.j1 k1 l0 a1 a2 true t260 x9_1 x10_1 t267 (decide (t267 > (mx a2 0))))) else (valancelaw11_SnapFew.j1 k1 l0 a1 a2 true t260 x9_1 x10_1 t267 true)) = some r := H
              have A13 := Aside0.mk A130
              clear A130
              have HC14 := Aside0.mk H
              clear H
              have p266 : 0 ≤ (x10_1 : Int) := of_decide_eq_true (by first | (with_reducible assumption) | assumption)
              have q266 : x10_1 < (l0.length : Int) := of_decide_eq_true (by first | (with_reducible assumption) | assumption)
              obtain ⟨ad266, e266, hx266_0, hx266_1, hx266_2⟩ := at_T33 HR0.out x10_1 p266 q266
              cases e266
              replace hx266_0 := (HB.out.cell (World.block_lt_of_cell? w _ hx266_0)).trans hx266_0
              replace hx266_1 := (HB.out.cell (World.block_lt_of_cell? w _ hx266_1)).trans hx266_1
              replace hx266_2 := (HB.out.cell (World.block_lt_of_cell? w _ hx266_2)).trans hx266_2
              replace p266 := eq_true p266
              replace q266 := eq_true q266
              go_upto_region 12 with (first | ((with_reducible refine gate_callee (f := 17) rfl ?_); refine goesL_ (some 36) rfl rfl Try.func17 (by kernel_rfl) rfl #[.agg #[.int .i64 ((rd_T33 l0 x10_1).f0.f0), .int .i64 ((rd_T33 l0 x10_1).f0.f1), .int .i64 ((rd_T33 l0 x10_1).f1)], .int .i64 a1] rfl (by (try simp only [List.map_toArray, List.map_cons, List.map_nil]); first | done | rfl | (simp only [List.length_drop, List.length_take]; rfl)) ?_; (with_reducible refine (snap_At.calls ((rd_T33 l0 x10_1).f0.f0) ((rd_T33 l0 x10_1).f0.f1) ((rd_T33 l0 x10_1).f1) a1 t267 t268 _ A13.out).mono ?_); rintro e w15 ⟨rfl, hb⟩; refine ⟨_, rfl, ?_⟩; have n0_ := Aside0.mk (Kd.R_below (by (with_reducible repeat (first | apply Kd.R_alloc | apply Kd.R_drewN | apply Kd.R_drew)); exact HO_8.out) hb); have n1_ := Aside0.mk (below_step (by repeat (first | (with_reducible first | exact HB.out | apply below_alloc | apply pw_below_drewN | apply below_drew1) | exact HB.out)) hb); clear HO_8; clear HB; have HO_8 := n0_; have HB := n1_; clear n0_ n1_; (try clear hb); (try clear hb2); (try clear hk); (try clear hi)))
              (try simp only [Act.put, List.setIfInBounds_toArray, List.set_cons_zero, List.set_cons_succ])
              go_cut [50] (fun v50 wc => ∃ (kq : Nat) (x50_13 : Bool), v50 = .bool x50_13 ∧ Aside0 (valancelaw11_SnapFew.j1 kq l0 a1 a2 true t260 x9_1 x10_1 t267 x50_13 = some r) ∧ Aside0 (kq ≤ k1) ∧ Aside0 (Kd.R (Kd.int .i64) 3 wc w.heap.size (fun _ => True) v261 t260) ∧ Aside0 (Below w.heap.size w wc))
              case first =>
                have H := HC14.out
                clear HC14
                by_cases c16 : t268 = true
                · subst c16
                  have H1 : (if t267 < 0 then (valancelaw11_SnapFew.j1 k1 l0 a1 a2 true t260 x9_1 x10_1 t267 true) else (valancelaw11_SnapFew.j1 k1 l0 a1 a2 true t260 x9_1 x10_1 t267 (decide (t267 > (mx a2 0))))) = some r := by rw [if_pos rfl] at H; exact H
                  clear H
                  have H := H1
                  clear H1
                  by_cases c17 : t267 < 0
                  · rw [if_pos c17] at H
                    have c17b0 : decide (t267 < 0) = true := decide_eq_true c17
                    clear c17
                    (first | rw [c17b0] | (simp only [i64_w, i32_w]; rw [c17b0]) | skip)
                    have H' := Aside0.mk H
                    clear H
                    go_wp2
                    go_meet
                    case rel => exact ⟨_, (true), (by first | rfl | (simp; done) | (simp [*]; done)), H', ⟨by have := HK1.out; first | omega | exact Nat.le_refl _⟩, ⟨by (with_reducible repeat (first | apply Kd.R_alloc | apply Kd.R_drewN | apply Kd.R_drew)); exact HO_8.out⟩, ⟨by repeat (first | (with_reducible first | exact HB.out | apply below_alloc | apply pw_below_drewN | apply below_drew1) | exact HB.out)⟩⟩
                  · rw [if_neg c17] at H
                    have c17b0 : decide (t267 < 0) = false := decide_eq_false c17
                    clear c17
                    (first | rw [c17b0] | (simp only [i64_w, i32_w]; rw [c17b0]) | skip)
                    obtain ⟨ji18, hji18⟩ : ∃ j_ : Int, (mx a2 0) = j_ := ⟨_, rfl⟩
                    replace H : (valancelaw11_SnapFew.j1 k1 l0 a1 a2 true t260 x9_1 x10_1 t267 (decide (t267 > (ji18)))) = some r := by first | (rw [hji18] at H; exact H) | (simp only [hji18] at H ⊢; exact H)
                    have hji18_ : (if a2 < 0 then 0 else a2) = ji18 := hji18
                    have H' := Aside0.mk H
                    clear H
                    go_wp2
                    go_meet
                    case rel => exact ⟨_, (decide (t267 > (ji18))), (by first | rfl | (simp; done) | (simp only [← hji18] <;> (first | rfl | simp)) | (simp [*]; done)), H', ⟨by have := HK1.out; first | omega | exact Nat.le_refl _⟩, ⟨by (with_reducible repeat (first | apply Kd.R_alloc | apply Kd.R_drewN | apply Kd.R_drew)); exact HO_8.out⟩, ⟨by repeat (first | (with_reducible first | exact HB.out | apply below_alloc | apply pw_below_drewN | apply below_drew1) | exact HB.out)⟩⟩
                · replace c16 := Bool.eq_false_iff.mpr c16
                  subst c16
                  have H1 : (valancelaw11_SnapFew.j1 k1 l0 a1 a2 true t260 x9_1 x10_1 t267 true) = some r := by rw [if_neg (show ¬ (false = true) by decide)] at H; exact H
                  clear H
                  have H := H1
                  clear H1
                  have H' := Aside0.mk H
                  clear H
                  go_wp2
                  go_meet
                  case rel => exact ⟨_, (true), (by first | rfl | (simp; done) | (simp [*]; done)), H', ⟨by have := HK1.out; first | omega | exact Nat.le_refl _⟩, ⟨by (with_reducible repeat (first | apply Kd.R_alloc | apply Kd.R_drewN | apply Kd.R_drew)); exact HO_8.out⟩, ⟨by repeat (first | (with_reducible first | exact HB.out | apply below_alloc | apply pw_below_drewN | apply below_drew1) | exact HB.out)⟩⟩
              case rest =>
                clear HC14
                try clear c1
                try clear c2
                try clear p2
                try clear q2
                try clear hx2
                try clear c5
                try clear c6
                try clear c6b0
                try clear c6b1
                try clear c9
                try clear c11
                try clear c11b0
                try clear c12
                try clear c12b0
                try clear c15
                try clear c16
                try clear c17
                try clear c17b0
                try clear hx266_0
                try clear hx266_1
                try clear hx266_2
                try clear p2
                try clear p266
                try clear q266
                obtain ⟨kq, x50_13, rfl, HA, HJ13, HO_8, HB⟩ := hcut
                cases kq with
                | zero => exact absurd HA.out (by simp [valancelaw11_SnapFew.j1])
                | succ kj13 =>
                  have H := HA.out
                  clear HA
                  simp only [valancelaw11_SnapFew.j1] at H
                  by_cases c19 : x50_13 = true
                  · subst c19
                    have H1 : (valancelaw11_SnapFew.l0 kj13 l0 a1 a2 true t260 x9_1 (wrap64 (x10_1 + 1))) = some r := by rw [if_pos rfl] at H; exact H
                    clear H
                    have H := H1
                    clear H1
                    have H' := Aside0.mk H
                    clear H
                    go_wp2
                    go_roundg kj13
                    case measure => have := HK1.out; have := HJ13.out; omega
                    case rel => exact ⟨(x9_1), (wrap64 (x10_1 + 1)), (by first | rfl | (simp; done) | (simp [*]; done)), (by first | rfl | (simp; done) | (simp [*]; done)), H', ⟨by have := HK1.out; have := HJ13.out; omega⟩, ⟨by (with_reducible repeat (first | apply Kd.R_alloc | apply Kd.R_drewN | apply Kd.R_drew)); exact HO_8.out⟩, ⟨by repeat (first | (with_reducible first | exact HB.out | apply below_alloc | apply pw_below_drewN | apply below_drew1) | exact HB.out)⟩⟩
                  · replace c19 := Bool.eq_false_iff.mpr c19
                    subst c19
                    have H1 : (if x9_1 ≥ (t260.length : Int) then (none) else (if 0 ≤ x9_1 then (if x9_1 < (t260.length : Int) then (if (rd t260 x9_1) = t267 then (valancelaw11_SnapFew.l0 kj13 l0 a1 a2 true t260 (wrap64 (x9_1 + 1)) (wrap64 (x10_1 + 1))) else (none)) else (none)) else (none))) = some r := by rw [if_neg (show ¬ (false = true) by decide)] at H; exact H
                    clear H
                    have H := H1
                    clear H1
                    by_cases c20 : x9_1 ≥ (t260.length : Int)
                    · rw [if_pos c20] at H
                      exact absurd H (by simp)
                    · rw [if_neg c20] at H
                      have c20b0 : decide ((t260.length : Int) ≤ x9_1) = false := decide_eq_false c20
                      clear c20
                      by_cases c21 : 0 ≤ x9_1
                      · rw [if_pos c21] at H
                        have c21b0 : decide (0 ≤ x9_1) = true := decide_eq_true c21
                        clear c21
                        by_cases c22 : x9_1 < (t260.length : Int)
                        · rw [if_pos c22] at H
                          have c22b0 : decide (x9_1 < (t260.length : Int)) = true := decide_eq_true c22
                          clear c22
                          by_cases c23 : (rd t260 x9_1) = t267
                          · rw [if_pos c23] at H
                            have c23b0 : ((rd t260 x9_1) == t267) = true := beq_iff_eq.mpr c23
                            have c23b1 : ((rd t260 x9_1) != t267) = false := bne_eq_false_iff_eq.mpr c23
                            clear c23
                            have H' := Aside0.mk H
                            clear H
                            obtain ⟨Ao24, co24, eo24⟩ := Kd.R_slice HO_8.out
                            subst eo24
                            have p269 : 0 ≤ (x9_1 : Int) := of_decide_eq_true (by first | (with_reducible assumption) | assumption)
                            have q269 : x9_1 < (t260.length : Int) := of_decide_eq_true (by first | (with_reducible assumption) | assumption)
                            obtain ⟨ad269, e269, hx269_0⟩ := Kd.at_int (Kd.R_reads' HO_8.out).2.2 x9_1 p269 q269
                            cases e269
                            replace p269 := eq_true p269
                            replace q269 := eq_true q269
                            go_wp2
                            go_roundg kj13
                            case measure => have := HK1.out; have := HJ13.out; omega
                            case rel => exact ⟨(wrap64 (x9_1 + 1)), (wrap64 (x10_1 + 1)), (by first | rfl | (simp; done) | (simp [*]; done)), (by first | rfl | (simp; done) | (simp [*]; done)), H', ⟨by have := HK1.out; have := HJ13.out; omega⟩, ⟨by (with_reducible repeat (first | apply Kd.R_alloc | apply Kd.R_drewN | apply Kd.R_drew)); exact HO_8.out⟩, ⟨by repeat (first | (with_reducible first | exact HB.out | apply below_alloc | apply pw_below_drewN | apply below_drew1) | exact HB.out)⟩⟩
                          · rw [if_neg c23] at H
                            exact absurd H (by simp)
                        · rw [if_neg c22] at H
                          exact absurd H (by simp)
                      · rw [if_neg c21] at H
                        exact absurd H (by simp)
            · rw [if_neg c12] at H
              exact absurd H (by simp)
          · rw [if_neg c11] at H
            have c11b0 : decide (x10_1 < (l0.length : Int)) = false := decide_eq_false c11
            clear c11
            by_cases c25 : true = true
            · clear c25
              have H1 : (if x9_1 = (t260.length : Int) then ((snap_Stops.f ([] : List (S33)) a1 a2).bind fun t263 => (some ((t263.length : Int) == 0))) else (none)) = some r := by first | (rw [if_pos rfl] at H; exact H) | (rw [if_pos True.intro] at H; exact H)
              clear H
              have H := H1
              clear H1
              by_cases c26 : x9_1 = (t260.length : Int)
              · rw [if_pos c26] at H
                have c26b0 : (x9_1 == (t260.length : Int)) = true := beq_iff_eq.mpr c26
                have c26b1 : (x9_1 != (t260.length : Int)) = false := bne_eq_false_iff_eq.mpr c26
                clear c26
                replace H := Option.bind_eq_some_iff.mp H
                obtain ⟨t263, A270, H⟩ := H
                replace H : (some ((t263.length : Int) == 0)) = some r := H
                have A27 := Aside0.mk A270
                clear A270
                obtain rfl := Option.some.inj H
                obtain ⟨Ao28, co28, eo28⟩ := Kd.R_slice HO_8.out
                subst eo28
                go_wp2_with (first | (go_at_call 22; (refine (snap_Stops.calls _ _ ([] : List (S33)) a1 a2 t263 _ ?side1 ?side2 A27.out).mono ?_); (case side1 => exact Kd.C_nil _ _); (case side2 => exact Nat.le_refl _); rintro e w29 ⟨v264, rfl, ho0, hb⟩; have n0_ := Aside0.mk (Kd.R_elder' (by (with_reducible repeat (first | apply Kd.R_alloc | apply Kd.R_drewN | apply Kd.R_drew)); exact HO_8.out) (Kd.R_base ho0) hb); have n1_ := Aside0.mk (Kd.R_lower (Kd.R_new' ho0 (Kd.R_lt (by (with_reducible repeat (first | apply Kd.R_alloc | apply Kd.R_drewN | apply Kd.R_drew)); exact HO_8.out))) (below_size (by repeat (first | (with_reducible first | exact HB.out | apply below_alloc | apply pw_below_drewN | apply below_drew1) | exact HB.out)))); have n2_ := Aside0.mk (below_step (by repeat (first | (with_reducible first | exact HB.out | apply below_alloc | apply pw_below_drewN | apply below_drew1) | exact HB.out)) hb); clear HO_8; clear HB; have HO_8 := n0_; have HO265 := n1_; have HB := n2_; clear n0_ n1_ n2_; (try clear hb); (try clear hb2); (try clear hk); (try clear hi); (try clear ho0); obtain ⟨Ao30, co30, eo30⟩ := Kd.R_slice HO265.out; subst eo30))
                go_ret
                exact ⟨by first | rfl | (simp [errW_none, errW_some] <;> rfl) | (simp [*, errW_none, errW_some] <;> rfl), by repeat (first | (with_reducible first | exact HB.out | apply below_alloc | apply pw_below_drewN | apply below_drew1) | exact HB.out)⟩
              · rw [if_neg c26] at H
                exact absurd H (by simp)
            · exact absurd rfl c25
  · replace c5 := Bool.eq_false_iff.mpr c5
    subst c5
    have H1 : (none) = some r := by rw [if_neg (show ¬ (false = true) by decide)] at H; exact H
    clear H
    have H := H1
    clear H1
    exact absurd H (by simp)

/-- THE ONE PURE STATEMENT of valancelaw11_SnapFew: yours. -/
def valancelaw11_SnapFew.Pure : Prop := ∀ (l0 : List (S33)) (a1 : Int) (a2 : Int), l0.length ≤ maxLen → l0.length * 24 ≤ 140737488351232 → (∀ x ∈ l0, (Lit.int .i64 x.f0.f0).wf = true ∧ (Lit.int .i64 x.f0.f1).wf = true ∧ (Lit.int .i64 x.f1).wf = true) → (Lit.int .i64 a1).wf = true → (Lit.int .i64 a2).wf = true → ∃ k, valancelaw11_SnapFew.f k l0 a1 a2 = some true
theorem valancelaw11_SnapFew.walk (P : valancelaw11_SnapFew.Pure) (a0 : Option Addr) (cap0 : Nat) (l0 : List (S33)) (a1 : Int) (a2 : Int) (w : World) (hr0 : Kd.C k33 w a0 l0.length l0) (hc0 : l0.length ≤ cap0) (hm0 : l0.length ≤ maxLen) (y0 : l0.length * 24 ≤ 140737488351232) (hw0 : ∀ x ∈ l0, (Lit.int .i64 x.f0.f0).wf = true ∧ (Lit.int .i64 x.f0.f1).wf = true ∧ (Lit.int .i64 x.f1).wf = true) (w1 : (Lit.int .i64 a1).wf = true) (w2 : (Lit.int .i64 a2).wf = true) :
    Calls Try.prog 9 #[.slice a0 l0.length cap0, .int .i64 a1, .int .i64 a2] w fun e w' => e = .returned (.bool true) ∧ Below w.heap.size w w' := by
  obtain ⟨k, h⟩ := P l0 a1 a2 hm0 y0 hw0 w1 w2
  refine (valancelaw11_SnapFew.calls k _ _ l0 a1 a2 true w hr0 hc0 h).mono ?_
  rintro e w' ⟨rfl, hd⟩
  exact ⟨rfl, hd⟩

end Go.Proofs.Ytnmcefpnpfaklac.V
