/- What the functions of this seat answer, as plain Lean functions, and that the calls come to just that (written by a program of this repo, over the kit's printer; Lean checks it). -/
import Derived.Test.YtcadddijlgcnbaaVx0
import Derived.Test.YtcadddijlgcnbaaVx2
import Derived.Test.YtcadddijlgcnbaaVx28
namespace Go.Proofs.Ytcadddijlgcnbaa.V
open Go.RowKit Go.Proofs.YtcadddijlgcnbaaW.PrintWords Go.Proofs.YtcadddijlgcnbaaW.PrintLast Go.Proofs.YtcadddijlgcnbaaW.PrintMore
attribute [local go_sem] max2_int min2_int max_two min_two max_three min_three max_four min_four   -- for this text's walks alone
set_option linter.unusedVariables false
set_option linter.unusedSimpArgs false


theorem fix_down_eq (a b : Int) (ha : -4611686018427387904 ≤ a) (ha2 : a ≤ 4611686018427387904) (hb : 0 < b) (hb2 : b ≤ 4611686018427387904) : fix_down.f a b = some (a / b) := by
  unfold fix_down.f
  obtain ⟨t1, t2⟩ := tdiv_floor (a := a) hb
  obtain ⟨d1, d2⟩ := ediv_bd (a := a) hb
  have l1 := Int.ediv_mul_le a (b := b) (by omega)
  have l2 := Int.lt_ediv_add_one_mul_self a hb
  rw [Int.add_mul] at l2 t2
  rw [if_neg (by omega)]
  by_cases hc : 0 ≤ a ∨ b ∣ a
  · obtain ⟨e, _⟩ := t1 hc
    have hq : -4611686018427387904 ≤ a / b ∧ a / b ≤ 4611686018427387904 := by omega
    rw [e, w64 (x := a / b) (by omega) (by omega), w64 (x := a / b * b) (by omega) (by omega), if_neg (by omega)]
  · obtain ⟨e, g⟩ := t2 hc
    have ha0 : a < 0 := by omega
    have hm : (a / b + 1) * b ≤ 0 := by
      have : (a / b + 1) * b ≤ 0 * b := Int.mul_le_mul_of_nonneg_right (by omega) (by omega)
      omega
    rw [Int.add_mul] at hm
    have hq : -4611686018427387904 ≤ a / b ∧ a / b ≤ 4611686018427387904 := by omega
    rw [e, w64 (x := a / b + 1) (by omega) (by omega), Int.add_mul, w64 (x := a / b * b + 1 * b) (by omega) (by omega), if_pos (by omega), w64 (x := a / b + 1 - 1) (by omega) (by omega)]
    simp only [Option.some.injEq]; omega


/-! ### fix_Div: function 43 -/
def fix_Div.f (a0 : Int) (a1 : Int) : Option (Int) := if a1 ≤ 0 then (some 0) else ((fix_Cut.f a0).bind fun t313 => ((fix_Cut.f a1).bind fun t314 => ((fix_down.f t313 t314).bind fun t315 => (some t315))))
set_option maxHeartbeats 8000000 in
set_option maxRecDepth 100000 in
theorem fix_Div.calls (a0 : Int) (a1 : Int) (r : Int) (w : World) (h : fix_Div.f a0 a1 = some r) :
    Calls Try.prog 43 #[.int .i64 a0, .int .i64 a1] w fun e w' => e = .returned (.int .i64 r) ∧ Below w.heap.size w w' := by
  have HB := Aside0.mk (Below.refl w.heap.size w)
  have H : (if a1 ≤ 0 then (some 0) else ((fix_Cut.f a0).bind fun t313 => ((fix_Cut.f a1).bind fun t314 => ((fix_down.f t313 t314).bind fun t315 => (some t315))))) = some r := h
  clear h
  by_cases c3 : a1 ≤ 0
  · rw [if_pos c3] at H
    have c3b0 : decide (a1 ≤ 0) = true := decide_eq_true c3
    clear c3
    obtain rfl := Option.some.inj H
    go_enter Try.func43, Try.ntmps43
    go_wp2
    go_ret
    exact ⟨by first | rfl | (simp [errW_none, errW_some] <;> rfl) | (simp [*, errW_none, errW_some] <;> rfl), by repeat (first | (with_reducible first | exact HB.out | apply below_alloc | apply pw_below_drewN | apply below_drew1) | exact HB.out)⟩
  · rw [if_neg c3] at H
    have c3b0 : decide (a1 ≤ 0) = false := decide_eq_false c3
    clear c3
    replace H := Option.bind_eq_some_iff.mp H
    obtain ⟨t313, A40, H⟩ := H
    replace H : ((fix_Cut.f a1).bind fun t314 => ((fix_down.f t313 t314).bind fun t315 => (some t315))) = some r := H
    have A4 := Aside0.mk A40
    clear A40
    replace H := Option.bind_eq_some_iff.mp H
    obtain ⟨t314, A50, H⟩ := H
    replace H : ((fix_down.f t313 t314).bind fun t315 => (some t315)) = some r := H
    have A5 := Aside0.mk A50
    clear A50
    replace H := Option.bind_eq_some_iff.mp H
    obtain ⟨t315, A60, H⟩ := H
    replace H : (some t315) = some r := H
    have A6 := Aside0.mk A60
    clear A60
    obtain rfl := Option.some.inj H
    go_enter Try.func43, Try.ntmps43
    go_wp2_with (first | ((with_reducible refine gate_callee (f := 35) rfl ?_); refine goesL_ (some 8) rfl rfl Try.func35 (by kernel_rfl) rfl #[.int .i64 a0] rfl (by (try simp only [List.map_toArray, List.map_cons, List.map_nil]); first | done | rfl | (simp only [List.length_drop, List.length_take]; rfl)) ?_; (with_reducible refine (fix_Cut.calls a0 t313 _ A4.out).mono ?_); rintro e w7 ⟨rfl, hb⟩; refine ⟨_, rfl, ?_⟩; have n0_ := Aside0.mk (below_step (by repeat (first | (with_reducible first | exact HB.out | apply below_alloc | apply pw_below_drewN | apply below_drew1) | exact HB.out)) hb); clear HB; have HB := n0_; clear n0_; (try clear hb); (try clear hb2); (try clear hk); (try clear hi)) | ((with_reducible refine gate_callee (f := 35) rfl ?_); refine goesL_ (some 10) rfl rfl Try.func35 (by kernel_rfl) rfl #[.int .i64 a1] rfl (by (try simp only [List.map_toArray, List.map_cons, List.map_nil]); first | done | rfl | (simp only [List.length_drop, List.length_take]; rfl)) ?_; (with_reducible refine (fix_Cut.calls a1 t314 _ A5.out).mono ?_); rintro e w8 ⟨rfl, hb⟩; refine ⟨_, rfl, ?_⟩; have n0_ := Aside0.mk (below_step (by repeat (first | (with_reducible first | exact HB.out | apply below_alloc | apply pw_below_drewN | apply below_drew1) | exact HB.out)) hb); clear HB; have HB := n0_; clear n0_; (try clear hb); (try clear hb2); (try clear hk); (try clear hi)) | ((with_reducible refine gate_callee (f := 55) rfl ?_); refine goesL_ (some 11) rfl rfl Try.func55 (by kernel_rfl) rfl #[.int .i64 t313, .int .i64 t314] rfl (by (try simp only [List.map_toArray, List.map_cons, List.map_nil]); first | done | rfl | (simp only [List.length_drop, List.length_take]; rfl)) ?_; (with_reducible refine (fix_down.calls t313 t314 t315 _ A6.out).mono ?_); rintro e w' ⟨rfl, ⟨nd, rfl⟩⟩; refine ⟨_, rfl, ?_⟩))
    go_ret
    exact ⟨by first | rfl | (simp [errW_none, errW_some] <;> rfl) | (simp [*, errW_none, errW_some] <;> rfl), by repeat (first | (with_reducible first | exact HB.out | apply below_alloc | apply pw_below_drewN | apply below_drew1) | exact HB.out)⟩


theorem fix_Div_eq (a b : Int) : fix_Div.f a b = some (vdivd a b) := by
  unfold fix_Div.f vdivd
  have h1 := vcut_bd a
  have h2 := vcut_bd b
  by_cases h : b ≤ 0
  · rw [if_pos h, if_pos h]
  · have : 0 < vcut b := by unfold vcut; (repeat' split) <;> omega
    rw [if_neg h, if_neg h]
    simp only [fix_Cut_eq, Option.bind_some]
    rw [fix_down_eq _ _ (by omega) (by omega) this (by omega)]
    simp only [Option.bind_some]


/-! ### fix_Part: function 45 -/
def fix_Part.f (a0 : Int) (a1 : Int) : Option (Int) := (fix_Cut.f a0).bind fun t316 => ((fix_down.f (wrap64 (t316 * (mn (mx a1 0) 1000000))) 10000).bind fun t317 => ((fix_Cut.f t317).bind fun t318 => (some t318)))
set_option maxHeartbeats 8000000 in
set_option maxRecDepth 100000 in
theorem fix_Part.calls (a0 : Int) (a1 : Int) (r : Int) (w : World) (h : fix_Part.f a0 a1 = some r) :
    Calls Try.prog 45 #[.int .i64 a0, .int .i64 a1] w fun e w' => e = .returned (.int .i64 r) ∧ Below w.heap.size w w' := by
  have HB := Aside0.mk (Below.refl w.heap.size w)
  have H : ((fix_Cut.f a0).bind fun t316 => ((fix_down.f (wrap64 (t316 * (mn (mx a1 0) 1000000))) 10000).bind fun t317 => ((fix_Cut.f t317).bind fun t318 => (some t318)))) = some r := h
  clear h
  replace H := Option.bind_eq_some_iff.mp H
  obtain ⟨t316, A30, H⟩ := H
  replace H : ((fix_down.f (wrap64 (t316 * (mn (mx a1 0) 1000000))) 10000).bind fun t317 => ((fix_Cut.f t317).bind fun t318 => (some t318))) = some r := H
  have A3 := Aside0.mk A30
  clear A30
  obtain ⟨ji4, hji4⟩ : ∃ j_ : Int, (mx a1 0) = j_ := ⟨_, rfl⟩
  replace H : ((fix_down.f (wrap64 (t316 * (mn (ji4) 1000000))) 10000).bind fun t317 => ((fix_Cut.f t317).bind fun t318 => (some t318))) = some r := by first | (rw [hji4] at H; exact H) | (simp only [hji4] at H ⊢; exact H)
  (try rw [hji4] at A3)
  (try (have hji4l : 0 ≤ ji4 := by (rw [← hji4]; unfold mx; (repeat' split) <;> omega)))
  (try (have hji4m : 0 ≤ ji4 := by omega))
  have hji4_ : (if a1 < 0 then 0 else a1) = ji4 := hji4
  obtain ⟨ji5, hji5⟩ : ∃ j_ : Int, (mn (ji4) 1000000) = j_ := ⟨_, rfl⟩
  replace H : ((fix_down.f (wrap64 (t316 * (ji5))) 10000).bind fun t317 => ((fix_Cut.f t317).bind fun t318 => (some t318))) = some r := by first | (rw [hji5] at H; exact H) | (simp only [hji5] at H ⊢; exact H)
  (try rw [hji5] at A3)
  have hji5_ : (if 1000000 < (ji4) then 1000000 else (ji4)) = ji5 := hji5
  replace H := Option.bind_eq_some_iff.mp H
  obtain ⟨t317, A60, H⟩ := H
  replace H : ((fix_Cut.f t317).bind fun t318 => (some t318)) = some r := H
  have A6 := Aside0.mk A60
  clear A60
  replace H := Option.bind_eq_some_iff.mp H
  obtain ⟨t318, A70, H⟩ := H
  replace H : (some t318) = some r := H
  have A7 := Aside0.mk A70
  clear A70
  obtain rfl := Option.some.inj H
  go_enter Try.func45, Try.ntmps45
  go_wp2_with (first | ((with_reducible refine gate_callee (f := 35) rfl ?_); refine goesL_ (some 6) rfl rfl Try.func35 (by kernel_rfl) rfl #[.int .i64 a0] rfl (by (try simp only [List.map_toArray, List.map_cons, List.map_nil]); first | done | rfl | (simp only [List.length_drop, List.length_take]; rfl)) ?_; (with_reducible refine (fix_Cut.calls a0 t316 _ A3.out).mono ?_); rintro e w8 ⟨rfl, hb⟩; refine ⟨_, rfl, ?_⟩; have n0_ := Aside0.mk (below_step (by repeat (first | (with_reducible first | exact HB.out | apply below_alloc | apply pw_below_drewN | apply below_drew1) | exact HB.out)) hb); clear HB; have HB := n0_; clear n0_; (try clear hb); (try clear hb2); (try clear hk); (try clear hi)) | ((with_reducible refine gate_callee (f := 55) rfl ?_); refine goesL_ (some 11) rfl rfl Try.func55 (by kernel_rfl) rfl #[.int .i64 (wrap64 (t316 * (ji5))), .int .i64 10000] rfl (by (try simp only [List.map_toArray, List.map_cons, List.map_nil]); first | done | (simp only [hji5]; rfl) | rfl | (simp only [List.length_drop, List.length_take]; rfl)) ?_; (with_reducible refine (fix_down.calls (wrap64 (t316 * (ji5))) 10000 t317 _ A6.out).mono ?_); rintro e w' ⟨rfl, ⟨nd, rfl⟩⟩; refine ⟨_, rfl, ?_⟩) | ((with_reducible refine gate_callee (f := 35) rfl ?_); refine goesL_ (some 12) rfl rfl Try.func35 (by kernel_rfl) rfl #[.int .i64 t317] rfl (by (try simp only [List.map_toArray, List.map_cons, List.map_nil]); first | done | rfl | (simp only [List.length_drop, List.length_take]; rfl)) ?_; (with_reducible refine (fix_Cut.calls t317 t318 _ A7.out).mono ?_); rintro e w9 ⟨rfl, hb⟩; refine ⟨_, rfl, ?_⟩; have n0_ := Aside0.mk (below_step (by repeat (first | (with_reducible first | exact HB.out | apply below_alloc | apply pw_below_drewN | apply below_drew1) | exact HB.out)) hb); clear HB; have HB := n0_; clear n0_; (try clear hb); (try clear hb2); (try clear hk); (try clear hi)))
  go_ret
  exact ⟨by first | rfl | (simp [errW_none, errW_some] <;> rfl) | (simp only [← hji4, ← hji5]; first | rfl | (simp [errW_none, errW_some] <;> rfl)) | (simp [*, errW_none, errW_some] <;> rfl), by repeat (first | (with_reducible first | exact HB.out | apply below_alloc | apply pw_below_drewN | apply below_drew1) | exact HB.out)⟩


theorem fix_Part_eq (a n : Int) : fix_Part.f a n = some (vpart a n) := by
  unfold fix_Part.f vpart
  have h1 := vcut_bd a
  have h2 := parts_bd n
  have h3 := vmul_bd (x := vcut a) (p := mn (mx n 0) 1000000) (A := 1099511627776) (B := 1000000) h1.1 h1.2 h2.1 h2.2 (by omega)
  simp only [fix_Cut_eq, Option.bind_some]
  rw [w64 (by omega) (by omega), fix_down_eq _ _ (by omega) (by omega) (by omega) (by omega)]
  simp only [Option.bind_some]


end Go.Proofs.Ytcadddijlgcnbaa.V
