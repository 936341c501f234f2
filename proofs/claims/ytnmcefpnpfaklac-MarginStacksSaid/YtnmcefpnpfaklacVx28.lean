/- What the functions of this seat answer, as plain Lean functions, and that the calls come to just that (written by a program of this repo, over the kit's printer; Lean checks it). -/
import Derived.Test.YtnmcefpnpfaklacVx0
import Derived.Test.YtnmcefpnpfaklacVx1
import Derived.Test.YtnmcefpnpfaklacVx7
import Derived.Test.YtnmcefpnpfaklacVx8
import Derived.Test.YtnmcefpnpfaklacVx26
import Derived.Test.YtnmcefpnpfaklacVx27
namespace Go.Proofs.Ytnmcefpnpfaklac.V
open Go.RowKit Go.Proofs.YtnmcefpnpfaklacW.PrintWords Go.Proofs.YtnmcefpnpfaklacW.PrintLast Go.Proofs.YtnmcefpnpfaklacW.PrintMore
attribute [local go_sem] max2_int min2_int max_two min_two max_three min_three max_four min_four   -- for this text's walks alone
set_option linter.unusedVariables false
set_option linter.unusedSimpArgs false


theorem ref_Auto_eq (q : Nat) (hq : 3 ≤ q) (room size k1 n1 k2 n2 base : Int) : valanceref06_Auto.f q room size k1 n1 k2 n2 base = some (vauto room size k1 n1 k2 n2 base) := by
  obtain ⟨q, rfl⟩ : ∃ m, q = m + 2 := ⟨q - 2, by omega⟩
  unfold valanceref06_Auto.f vauto
  simp only [ref_LOf_eq (q + 2) (by omega), ref_Fixed_eq, ref_Sub_eq, Option.bind_some, valanceref06_Auto.j0, valanceref06_Auto.j1]
  have bd := vcut_bd (vcut (vsub (vsub room size) (vof k1 n1 base 0)) - vcut (vof k2 n2 base 0))
  have hl : vsub (vsub (vsub room size) (vof k1 n1 base 0)) (vof k2 n2 base 0) = vcut (vcut (vsub (vsub room size) (vof k1 n1 base 0)) - vcut (vof k2 n2 base 0)) := rfl
  rw [← hl] at bd
  generalize vsub (vsub (vsub room size) (vof k1 n1 base 0)) (vof k2 n2 base 0) = left at *
  by_cases h : left ≤ 0
  · rw [if_pos h, if_pos h]; rfl
  · have hd : vdivd left 2 = left / 2 := by unfold vdivd; rw [if_neg (by omega), vcut_id (n := left) (by omega) (by omega)]; rfl
    rw [if_neg h, if_neg h, ref_Div_eq, hd]
    simp only [Option.bind_some]
    rw [w64 (x := left - left / 2) (by omega) (by omega)]
    cases vfixed k1 base <;> cases vfixed k2 base <;> simp

/-! ### valanceref06_Collapse: function 30 -/
def valanceref06_Collapse.l0 : Nat → List Int → Int → Int → Int → Option (Int)
  | 0, _, _, _, _ => none
  | k + 1, x0, x3, x4, x5 => if x5 < (x0.length : Int) then (if 0 ≤ x5 then ((valanceref01_Cut.f (rd x0 x5)).bind fun t249 => ((valanceref01_Cut.f (rd x0 x5)).bind fun t251 => (valanceref06_Collapse.l0 k x0 (mx x3 t249) (mn x4 t251) (wrap64 (x5 + 1))))) else (none)) else ((valanceref01_Add.f x3 x4).bind fun t252 => (some t252))
def valanceref06_Collapse.f (k : Nat) (l0 : List Int) : Option (Int) := valanceref06_Collapse.l0 k l0 0 0 0
theorem valanceref06_Collapse.mono_l : ∀ k, (∀ y0 y1 y2 y3, LeO (valanceref06_Collapse.l0 k y0 y1 y2 y3) (valanceref06_Collapse.l0 (k + 1) y0 y1 y2 y3))
  | 0 => fun _ _ _ _ r h => by simp [valanceref06_Collapse.l0] at h
  | k + 1 => by
    have ih0 := valanceref06_Collapse.mono_l k
    · intro y0 y1 y2 y3
      unfold valanceref06_Collapse.l0
      repeat' first
      | (with_reducible exact ih0 _ _ _ _)
      | (with_reducible exact LeO.refl _)
      | (with_reducible exact LeO.none _)
      | (with_reducible refine LeO.ite ?_ ?_)
      | (with_reducible refine LeO.bind ?_ (fun _ => ?_))
      | exact ih0 _ _ _ _
      | exact LeO.none _
      | refine LeO.ite ?_ ?_
      | refine LeO.bind ?_ (fun _ => ?_)
theorem valanceref06_Collapse.mono : ∀ a0 k, LeO (valanceref06_Collapse.f k a0) (valanceref06_Collapse.f (k + 1) a0) := by
  intro a0 k
  have ih0 := valanceref06_Collapse.mono_l k
  unfold valanceref06_Collapse.f
  repeat' first
      | (with_reducible exact ih0 _ _ _ _)
      | (with_reducible exact LeO.refl _)
      | (with_reducible exact LeO.none _)
      | (with_reducible refine LeO.ite ?_ ?_)
      | (with_reducible refine LeO.bind ?_ (fun _ => ?_))
      | exact ih0 _ _ _ _
      | exact LeO.none _
      | refine LeO.ite ?_ ?_
      | refine LeO.bind ?_ (fun _ => ?_)
set_option maxHeartbeats 8000000 in
set_option maxRecDepth 100000 in
theorem valanceref06_Collapse.calls (k : Nat) (A0 : Option Addr) (c0 : Nat) (l0 : List Int) (r : Int) (w : World) (hr0 : Kd.C (Kd.int .i64) w A0 l0.length l0) (hc0 : l0.length ≤ c0) (h : valanceref06_Collapse.f k l0 = some r) :
    Calls Try.prog 30 #[.slice A0 l0.length c0] w fun e w' => e = .returned (.int .i64 r) ∧ Below w.heap.size w w' := by
  have HR0 := Aside0.mk hr0
  have HC0 := Aside0.mk hc0
  clear hr0 hc0
  have HB := Aside0.mk (Below.refl w.heap.size w)
  have H : (valanceref06_Collapse.l0 k l0 0 0 0) = some r := h
  clear h
  have H' := Aside0.mk H
  clear H
  go_enter Try.func30, Try.ntmps30
  go_wp2
  go_loopg [3, 4, 5] k (fun kq v3 v4 v5 w' => ∃ (x3_1 : Int) (x4_1 : Int) (x5_1 : Int), v3 = .int .i64 x3_1 ∧ v4 = .int .i64 x4_1 ∧ v5 = .int .i64 x5_1 ∧ Aside0 (valanceref06_Collapse.l0 kq l0 x3_1 x4_1 x5_1 = some r) ∧ Aside0 (kq ≤ k) ∧ Aside0 (Below w.heap.size w w'))
  case atStart => exact ⟨(0), (0), (0), (by first | rfl | (simp; done) | (simp [*]; done)), (by first | rfl | (simp; done) | (simp [*]; done)), (by first | rfl | (simp; done) | (simp [*]; done)), H', ⟨Nat.le_refl _⟩, ⟨by repeat (first | (with_reducible first | exact HB.out | apply below_alloc | apply pw_below_drewN | apply below_drew1) | exact HB.out)⟩⟩
  case round =>
    clear H'
    obtain ⟨x3_1, x4_1, x5_1, rfl, rfl, rfl, HA, HK1, HB⟩ := hrel
    cases gk with
    | zero => exact absurd HA.out (by simp [valanceref06_Collapse.l0])
    | succ k1 =>
      have H := HA.out
      clear HA
      simp only [valanceref06_Collapse.l0] at H
      by_cases c2 : x5_1 < (l0.length : Int)
      · rw [if_pos c2] at H
        have c2b0 : decide (x5_1 < (l0.length : Int)) = true := decide_eq_true c2
        clear c2
        by_cases c3 : 0 ≤ x5_1
        · rw [if_pos c3] at H
          have c3b0 : decide (0 ≤ x5_1) = true := decide_eq_true c3
          clear c3
          replace H := Option.bind_eq_some_iff.mp H
          obtain ⟨t249, A40, H⟩ := H
          replace H : ((valanceref01_Cut.f (rd l0 x5_1)).bind fun t251 => (valanceref06_Collapse.l0 k1 l0 (mx x3_1 t249) (mn x4_1 t251) (wrap64 (x5_1 + 1)))) = some r := H
          have A4 := Aside0.mk A40
          clear A40
          obtain ⟨ji5, hji5⟩ : ∃ j_ : Int, (mx x3_1 t249) = j_ := ⟨_, rfl⟩
          replace H : ((valanceref01_Cut.f (rd l0 x5_1)).bind fun t251 => (valanceref06_Collapse.l0 k1 l0 ji5 (mn x4_1 t251) (wrap64 (x5_1 + 1)))) = some r := by first | (rw [hji5] at H; exact H) | (simp only [hji5] at H ⊢; exact H)
          (try rw [hji5] at A4)
          have hji5_ : (if x3_1 < t249 then t249 else x3_1) = ji5 := hji5
          replace H := Option.bind_eq_some_iff.mp H
          obtain ⟨t251, A60, H⟩ := H
          replace H : (valanceref06_Collapse.l0 k1 l0 ji5 (mn x4_1 t251) (wrap64 (x5_1 + 1))) = some r := H
          have A6 := Aside0.mk A60
          clear A60
          obtain ⟨ji7, hji7⟩ : ∃ j_ : Int, (mn x4_1 t251) = j_ := ⟨_, rfl⟩
          replace H : (valanceref06_Collapse.l0 k1 l0 ji5 ji7 (wrap64 (x5_1 + 1))) = some r := by first | (rw [hji7] at H; exact H) | (simp only [hji7] at H ⊢; exact H)
          (try rw [hji7] at A4)
          (try rw [hji7] at A6)
          have hji7_ : (if t251 < x4_1 then t251 else x4_1) = ji7 := hji7
          have H' := Aside0.mk H
          clear H
          have p248 : 0 ≤ (x5_1 : Int) := of_decide_eq_true (by first | (with_reducible assumption) | assumption)
          have q248 : x5_1 < (l0.length : Int) := of_decide_eq_true (by first | (with_reducible assumption) | assumption)
          obtain ⟨ad248, e248, hx248_0⟩ := Kd.at_int HR0.out x5_1 p248 q248
          cases e248
          replace hx248_0 := (HB.out.cell (World.block_lt_of_cell? w _ hx248_0)).trans hx248_0
          replace p248 := eq_true p248
          replace q248 := eq_true q248
          go_wp2_with (first | ((with_reducible refine gate_callee (f := 40) rfl ?_); refine goesL_ (some 17) rfl rfl Try.func40 (by kernel_rfl) rfl #[.int .i64 (rd l0 x5_1)] rfl (by (try simp only [List.map_toArray, List.map_cons, List.map_nil]); first | done | rfl | (simp only [List.length_drop, List.length_take]; rfl)) ?_; (with_reducible refine (valanceref01_Cut.calls (rd l0 x5_1) t249 _ A4.out).mono ?_); rintro e w' ⟨rfl, ⟨nd, rfl⟩⟩; refine ⟨_, rfl, ?_⟩; have p250 : 0 ≤ (x5_1 : Int) := of_decide_eq_true (by first | (with_reducible assumption) | assumption); have q250 : x5_1 < (l0.length : Int) := of_decide_eq_true (by first | (with_reducible assumption) | assumption); obtain ⟨ad250, e250, hx250_0⟩ := Kd.at_int HR0.out x5_1 p250 q250; obtain rfl : ad248 = ad250 := (by injection e250); replace hx250_0 := (HB.out.cell (World.block_lt_of_cell? w _ hx250_0)).trans hx250_0; replace p250 := eq_true p250; replace q250 := eq_true q250) | ((with_reducible refine gate_callee (f := 40) rfl ?_); refine goesL_ (some 24) rfl rfl Try.func40 (by kernel_rfl) rfl #[.int .i64 (rd l0 x5_1)] rfl (by (try simp only [List.map_toArray, List.map_cons, List.map_nil]); first | done | rfl | (simp only [List.length_drop, List.length_take]; rfl)) ?_; (with_reducible refine (valanceref01_Cut.calls (rd l0 x5_1) t251 _ A6.out).mono ?_); rintro e w' ⟨rfl, ⟨nd, rfl⟩⟩; refine ⟨_, rfl, ?_⟩))
          go_roundg k1
          case measure => have := HK1.out; omega
          case rel => exact ⟨(ji5), (ji7), (wrap64 (x5_1 + 1)), (by first | rfl | (simp; done) | (simp only [← hji5] <;> (first | rfl | simp)) | (simp [*]; done)), (by first | rfl | (simp; done) | (simp only [← hji7] <;> (first | rfl | simp)) | (simp [*]; done)), (by first | rfl | (simp; done) | (simp [*]; done)), H', ⟨by have := HK1.out; omega⟩, ⟨by repeat (first | (with_reducible first | exact HB.out | apply below_alloc | apply pw_below_drewN | apply below_drew1) | exact HB.out)⟩⟩
        · rw [if_neg c3] at H
          exact absurd H (by simp)
      · rw [if_neg c2] at H
        have c2b0 : decide (x5_1 < (l0.length : Int)) = false := decide_eq_false c2
        clear c2
        replace H := Option.bind_eq_some_iff.mp H
        obtain ⟨t252, A80, H⟩ := H
        replace H : (some t252) = some r := H
        have A8 := Aside0.mk A80
        clear A80
        obtain rfl := Option.some.inj H
        go_wp2_with (first | ((with_reducible refine gate_callee (f := 43) rfl ?_); refine goesL_ (some 28) rfl rfl Try.func43 (by kernel_rfl) rfl #[.int .i64 x3_1, .int .i64 x4_1] rfl (by (try simp only [List.map_toArray, List.map_cons, List.map_nil]); first | done | rfl | (simp only [List.length_drop, List.length_take]; rfl)) ?_; (with_reducible refine (valanceref01_Add.calls x3_1 x4_1 t252 _ A8.out).mono ?_); rintro e w' ⟨rfl, ⟨nd, rfl⟩⟩; refine ⟨_, rfl, ?_⟩))
        go_ret
        exact ⟨by first | rfl | (cases Option.some.inj (A6.out.symm.trans A4.out); rfl) | (simp [errW_none, errW_some] <;> rfl) | (simp [*, errW_none, errW_some] <;> rfl), by repeat (first | (with_reducible first | exact HB.out | apply below_alloc | apply pw_below_drewN | apply below_drew1) | exact HB.out)⟩

end Go.Proofs.Ytnmcefpnpfaklac.V
