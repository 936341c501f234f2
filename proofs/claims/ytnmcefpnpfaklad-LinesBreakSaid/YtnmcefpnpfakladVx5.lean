/- What the functions of this seat answer, as plain Lean functions, and that the calls come to just that (written by a program of this repo, over the kit's printer; Lean checks it). -/
import Derived.Test.YtnmcefpnpfakladVx0
import Derived.Test.YtnmcefpnpfakladVx2
import Derived.Test.YtnmcefpnpfakladVx3
namespace Go.Proofs.Ytnmcefpnpfaklad.V
open Go.RowKit Go.Proofs.YtnmcefpnpfakladW.PrintWords Go.Proofs.YtnmcefpnpfakladW.PrintLast Go.Proofs.YtnmcefpnpfakladW.PrintMore
attribute [local go_sem] max2_int min2_int max_two min_two max_three min_three max_four min_four   -- for this text's walks alone
set_option linter.unusedVariables false
set_option linter.unusedSimpArgs false

/-! ### fix_down: function 55 -/
def fix_down.f (a0 : Int) (a1 : Int) : Option (Int) := if a1 = 0 then (none) else (if (wrap64 ((wrap64 (Int.tdiv a0 a1)) * a1)) > a0 then (some (wrap64 ((wrap64 (Int.tdiv a0 a1)) - 1))) else (some (wrap64 (Int.tdiv a0 a1))))
set_option maxHeartbeats 8000000 in
set_option maxRecDepth 100000 in
theorem fix_down.calls (a0 : Int) (a1 : Int) (r : Int) (w : World) (h : fix_down.f a0 a1 = some r) :
    Calls Try.prog 55 #[.int .i64 a0, .int .i64 a1] w fun e w' => e = .returned (.int .i64 r) ∧ Drawn0 w w' := by
  have H : (if a1 = 0 then (none) else (if (wrap64 ((wrap64 (Int.tdiv a0 a1)) * a1)) > a0 then (some (wrap64 ((wrap64 (Int.tdiv a0 a1)) - 1))) else (some (wrap64 (Int.tdiv a0 a1))))) = some r := h
  clear h
  by_cases c3 : a1 = 0
  · rw [if_pos c3] at H
    exact absurd H (by simp)
  · rw [if_neg c3] at H
    have c3b0 : (a1 == 0) = false := beq_eq_false_iff_ne.mpr c3
    have c3b1 : (a1 != 0) = true := bne_iff_ne.mpr c3
    by_cases c4 : (wrap64 ((wrap64 (Int.tdiv a0 a1)) * a1)) > a0
    · rw [if_pos c4] at H
      have c4b0 : decide (a0 < (wrap64 ((wrap64 (Int.tdiv a0 a1)) * a1))) = true := decide_eq_true c4
      clear c4
      obtain rfl := Option.some.inj H
      go_enter Try.func55, Try.ntmps55
      go_wp2
      go_ret
      exact ⟨by first | rfl | (simp; done) | (simp [*]; done), by repeat (first | exact Drawn0.refl _ | apply Drawn0.step)⟩
    · rw [if_neg c4] at H
      have c4b0 : decide (a0 < (wrap64 ((wrap64 (Int.tdiv a0 a1)) * a1))) = false := decide_eq_false c4
      clear c4
      obtain rfl := Option.some.inj H
      go_enter Try.func55, Try.ntmps55
      go_wp2
      go_ret
      exact ⟨by first | rfl | (simp; done) | (simp [*]; done), by repeat (first | exact Drawn0.refl _ | apply Drawn0.step)⟩


theorem fix_down_eq (a b : Int) (ha : -4611686018427387904 ≤ a) (ha2 : a ≤ 4611686018427387904) (hb : 0 < b) (hb2 : b ≤ 4611686018427387904) : fix_down.f a b = some (a / b) := by
  unfold fix_down.f
  obtain ⟨t1, t2⟩ := tdiv_floor (a := a) hb
  obtain ⟨d1, d2⟩ := ediv_bd (a := a) hb
  have l1 := Int.ediv_mul_le a (b := b) (by omega)
  have l2 := Int.lt_ediv_add_one_mul_self a hb
  rw [Int.add_mul] at l2 t2
  rw [if_neg (by omega)]
  by_cases hc : 0 ≤ a ∨ b ∣ a
  · obtain ⟨e, _⟩ := t1 hc
    have hq : -4611686018427387904 ≤ a / b ∧ a / b ≤ 4611686018427387904 := by omega
    rw [e, w64 (x := a / b) (by omega) (by omega), w64 (x := a / b * b) (by omega) (by omega), if_neg (by omega)]
  · obtain ⟨e, g⟩ := t2 hc
    have ha0 : a < 0 := by omega
    have hm : (a / b + 1) * b ≤ 0 := by
      have : (a / b + 1) * b ≤ 0 * b := Int.mul_le_mul_of_nonneg_right (by omega) (by omega)
      omega
    rw [Int.add_mul] at hm
    have hq : -4611686018427387904 ≤ a / b ∧ a / b ≤ 4611686018427387904 := by omega
    rw [e, w64 (x := a / b + 1) (by omega) (by omega), Int.add_mul, w64 (x := a / b * b + 1 * b) (by omega) (by omega), if_pos (by omega), w64 (x := a / b + 1 - 1) (by omega) (by omega)]
    simp only [Option.some.injEq]; omega


/-! ### fix_Div: function 37 -/
def fix_Div.f (a0 : Int) (a1 : Int) : Option (Int) := if a1 ≤ 0 then (some 0) else ((fix_Cut.f a0).bind fun t108 => ((fix_Cut.f a1).bind fun t109 => ((fix_down.f t108 t109).bind fun t110 => (some t110))))
set_option maxHeartbeats 8000000 in
set_option maxRecDepth 100000 in
theorem fix_Div.calls (a0 : Int) (a1 : Int) (r : Int) (w : World) (h : fix_Div.f a0 a1 = some r) :
    Calls Try.prog 37 #[.int .i64 a0, .int .i64 a1] w fun e w' => e = .returned (.int .i64 r) ∧ Below w.heap.size w w' := by
  have HB := Aside0.mk (Below.refl w.heap.size w)
  have H : (if a1 ≤ 0 then (some 0) else ((fix_Cut.f a0).bind fun t108 => ((fix_Cut.f a1).bind fun t109 => ((fix_down.f t108 t109).bind fun t110 => (some t110))))) = some r := h
  clear h
  by_cases c3 : a1 ≤ 0
  · rw [if_pos c3] at H
    have c3b0 : decide (a1 ≤ 0) = true := decide_eq_true c3
    clear c3
    obtain rfl := Option.some.inj H
    go_enter Try.func37, Try.ntmps37
    go_wp2
    go_ret
    exact ⟨by first | rfl | (simp [errW_none, errW_some] <;> rfl) | (simp [*, errW_none, errW_some] <;> rfl), by repeat (first | (with_reducible first | exact HB.out | apply below_alloc | apply pw_below_drewN | apply below_drew1) | exact HB.out)⟩
  · rw [if_neg c3] at H
    have c3b0 : decide (a1 ≤ 0) = false := decide_eq_false c3
    clear c3
    replace H := Option.bind_eq_some_iff.mp H
    obtain ⟨t108, A40, H⟩ := H
    replace H : ((fix_Cut.f a1).bind fun t109 => ((fix_down.f t108 t109).bind fun t110 => (some t110))) = some r := H
    have A4 := Aside0.mk A40
    clear A40
    replace H := Option.bind_eq_some_iff.mp H
    obtain ⟨t109, A50, H⟩ := H
    replace H : ((fix_down.f t108 t109).bind fun t110 => (some t110)) = some r := H
    have A5 := Aside0.mk A50
    clear A50
    replace H := Option.bind_eq_some_iff.mp H
    obtain ⟨t110, A60, H⟩ := H
    replace H : (some t110) = some r := H
    have A6 := Aside0.mk A60
    clear A60
    obtain rfl := Option.some.inj H
    go_enter Try.func37, Try.ntmps37
    go_wp2_with (first | ((with_reducible refine gate_callee (f := 52) rfl ?_); refine goesL_ (some 8) rfl rfl Try.func52 (by kernel_rfl) rfl #[.int .i64 a0] rfl (by (try simp only [List.map_toArray, List.map_cons, List.map_nil]); first | done | rfl | (simp only [List.length_drop, List.length_take]; rfl)) ?_; (with_reducible refine (fix_Cut.calls a0 t108 _ A4.out).mono ?_); rintro e w7 ⟨rfl, hb⟩; refine ⟨_, rfl, ?_⟩; have n0_ := Aside0.mk (below_step (by repeat (first | (with_reducible first | exact HB.out | apply below_alloc | apply pw_below_drewN | apply below_drew1) | exact HB.out)) hb); clear HB; have HB := n0_; clear n0_; (try clear hb); (try clear hb2); (try clear hk); (try clear hi)) | ((with_reducible refine gate_callee (f := 52) rfl ?_); refine goesL_ (some 10) rfl rfl Try.func52 (by kernel_rfl) rfl #[.int .i64 a1] rfl (by (try simp only [List.map_toArray, List.map_cons, List.map_nil]); first | done | rfl | (simp only [List.length_drop, List.length_take]; rfl)) ?_; (with_reducible refine (fix_Cut.calls a1 t109 _ A5.out).mono ?_); rintro e w8 ⟨rfl, hb⟩; refine ⟨_, rfl, ?_⟩; have n0_ := Aside0.mk (below_step (by repeat (first | (with_reducible first | exact HB.out | apply below_alloc | apply pw_below_drewN | apply below_drew1) | exact HB.out)) hb); clear HB; have HB := n0_; clear n0_; (try clear hb); (try clear hb2); (try clear hk); (try clear hi)) | ((with_reducible refine gate_callee (f := 55) rfl ?_); refine goesL_ (some 11) rfl rfl Try.func55 (by kernel_rfl) rfl #[.int .i64 t108, .int .i64 t109] rfl (by (try simp only [List.map_toArray, List.map_cons, List.map_nil]); first | done | rfl | (simp only [List.length_drop, List.length_take]; rfl)) ?_; (with_reducible refine (fix_down.calls t108 t109 t110 _ A6.out).mono ?_); rintro e w' ⟨rfl, ⟨nd, rfl⟩⟩; refine ⟨_, rfl, ?_⟩))
    go_ret
    exact ⟨by first | rfl | (simp [errW_none, errW_some] <;> rfl) | (simp [*, errW_none, errW_some] <;> rfl), by repeat (first | (with_reducible first | exact HB.out | apply below_alloc | apply pw_below_drewN | apply below_drew1) | exact HB.out)⟩


theorem fix_Div_eq (a b : Int) : fix_Div.f a b = some (vdivd a b) := by
  unfold fix_Div.f vdivd
  have h1 := vcut_bd a
  have h2 := vcut_bd b
  by_cases h : b ≤ 0
  · rw [if_pos h, if_pos h]
  · have : 0 < vcut b := by unfold vcut; (repeat' split) <;> omega
    rw [if_neg h, if_neg h]
    simp only [fix_Cut_eq, Option.bind_some]
    rw [fix_down_eq _ _ (by omega) (by omega) this (by omega)]
    simp only [Option.bind_some]


end Go.Proofs.Ytnmcefpnpfaklad.V
