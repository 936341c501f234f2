/- What the functions of this seat answer, as plain Lean functions, and that the calls come to just that (written by a program of this repo, over the kit's printer; Lean checks it). -/
import Derived.Test.YtcadddijlgcnbaaVx0
import Derived.Test.YtcadddijlgcnbaaVx2
import Derived.Test.YtcadddijlgcnbaaVx26
import Derived.Test.YtcadddijlgcnbaaVx27
namespace Go.Proofs.Ytcadddijlgcnbaa.V
open Go.RowKit Go.Proofs.YtcadddijlgcnbaaW.PrintWords Go.Proofs.YtcadddijlgcnbaaW.PrintLast Go.Proofs.YtcadddijlgcnbaaW.PrintMore
attribute [local go_sem] max2_int min2_int max_two min_two max_three min_three max_four min_four   -- for this text's walks alone
set_option linter.unusedVariables false
set_option linter.unusedSimpArgs false

/-! ### fix_Mul: function 41 -/
def fix_Mul.f (k : Nat) (a0 : Int) (a1 : Int) : Option (Int) := (fix_Cut.f a0).bind fun t308 => ((fix_Cut.f a1).bind fun t309 => ((fix_size.f t308).bind fun t310 => ((fix_size.f t309).bind fun t311 => ((fix_times.f k t310 t311).bind fun t312 => (if ((decide (t308 < 0)) != (decide (t309 < 0))) = true then (some (wrap64 (-t312))) else (some t312))))))
theorem fix_Mul.mono : ∀ a0 a1 k, LeO (fix_Mul.f k a0 a1) (fix_Mul.f (k + 1) a0 a1) := by
  intro a0 a1 k
  unfold fix_Mul.f
  repeat' first
      | (with_reducible exact fix_times.mono _ _ _)
      | (with_reducible exact LeO.refl _)
      | (with_reducible exact LeO.none _)
      | (with_reducible refine LeO.ite ?_ ?_)
      | (with_reducible refine LeO.bind ?_ (fun _ => ?_))
      | exact fix_times.mono _ _ _
      | exact LeO.none _
      | refine LeO.ite ?_ ?_
      | refine LeO.bind ?_ (fun _ => ?_)
set_option maxHeartbeats 8000000 in
set_option maxRecDepth 100000 in
theorem fix_Mul.calls (k : Nat) (a0 : Int) (a1 : Int) (r : Int) (w : World) (h : fix_Mul.f k a0 a1 = some r) :
    Calls Try.prog 41 #[.int .i64 a0, .int .i64 a1] w fun e w' => e = .returned (.int .i64 r) ∧ Below w.heap.size w w' := by
  have HB := Aside0.mk (Below.refl w.heap.size w)
  have H : ((fix_Cut.f a0).bind fun t308 => ((fix_Cut.f a1).bind fun t309 => ((fix_size.f t308).bind fun t310 => ((fix_size.f t309).bind fun t311 => ((fix_times.f k t310 t311).bind fun t312 => (if ((decide (t308 < 0)) != (decide (t309 < 0))) = true then (some (wrap64 (-t312))) else (some t312))))))) = some r := h
  clear h
  replace H := Option.bind_eq_some_iff.mp H
  obtain ⟨t308, A30, H⟩ := H
  replace H : ((fix_Cut.f a1).bind fun t309 => ((fix_size.f t308).bind fun t310 => ((fix_size.f t309).bind fun t311 => ((fix_times.f k t310 t311).bind fun t312 => (if ((decide (t308 < 0)) != (decide (t309 < 0))) = true then (some (wrap64 (-t312))) else (some t312)))))) = some r := H
  have A3 := Aside0.mk A30
  clear A30
  replace H := Option.bind_eq_some_iff.mp H
  obtain ⟨t309, A40, H⟩ := H
  replace H : ((fix_size.f t308).bind fun t310 => ((fix_size.f t309).bind fun t311 => ((fix_times.f k t310 t311).bind fun t312 => (if ((decide (t308 < 0)) != (decide (t309 < 0))) = true then (some (wrap64 (-t312))) else (some t312))))) = some r := H
  have A4 := Aside0.mk A40
  clear A40
  replace H := Option.bind_eq_some_iff.mp H
  obtain ⟨t310, A50, H⟩ := H
  replace H : ((fix_size.f t309).bind fun t311 => ((fix_times.f k t310 t311).bind fun t312 => (if ((decide (t308 < 0)) != (decide (t309 < 0))) = true then (some (wrap64 (-t312))) else (some t312)))) = some r := H
  have A5 := Aside0.mk A50
  clear A50
  replace H := Option.bind_eq_some_iff.mp H
  obtain ⟨t311, A60, H⟩ := H
  replace H : ((fix_times.f k t310 t311).bind fun t312 => (if ((decide (t308 < 0)) != (decide (t309 < 0))) = true then (some (wrap64 (-t312))) else (some t312))) = some r := H
  have A6 := Aside0.mk A60
  clear A60
  replace H := Option.bind_eq_some_iff.mp H
  obtain ⟨t312, A70, H⟩ := H
  replace H : (if ((decide (t308 < 0)) != (decide (t309 < 0))) = true then (some (wrap64 (-t312))) else (some t312)) = some r := H
  have A7 := Aside0.mk A70
  clear A70
  by_cases c8 : ((decide (t308 < 0)) != (decide (t309 < 0))) = true
  · rw [if_pos c8] at H
    have c8b0 : ((decide (t308 < 0)) != (decide (t309 < 0))) = true := c8
    (try (have c8b1 : decide ((decide (t308 < 0)) = (decide (t309 < 0))) = false := by simpa using c8))
    (try (have c8b2 : ((decide (t308 < 0)) == (decide (t309 < 0))) = false := by simpa using c8))
    (try (have c8b3 : ¬ ((decide (t308 < 0)) = (decide (t309 < 0))) := by simpa using c8))
    clear c8
    obtain rfl := Option.some.inj H
    go_enter Try.func41, Try.ntmps41
    go_wp2_with (first | ((with_reducible refine gate_callee (f := 35) rfl ?_); refine goesL_ (some 7) rfl rfl Try.func35 (by kernel_rfl) rfl #[.int .i64 a0] rfl (by (try simp only [List.map_toArray, List.map_cons, List.map_nil]); first | done | rfl | (simp only [List.length_drop, List.length_take]; rfl)) ?_; (with_reducible refine (fix_Cut.calls a0 t308 _ A3.out).mono ?_); rintro e w9 ⟨rfl, hb⟩; refine ⟨_, rfl, ?_⟩; have n0_ := Aside0.mk (below_step (by repeat (first | (with_reducible first | exact HB.out | apply below_alloc | apply pw_below_drewN | apply below_drew1) | exact HB.out)) hb); clear HB; have HB := n0_; clear n0_; (try clear hb); (try clear hb2); (try clear hk); (try clear hi)) | ((with_reducible refine gate_callee (f := 35) rfl ?_); refine goesL_ (some 9) rfl rfl Try.func35 (by kernel_rfl) rfl #[.int .i64 a1] rfl (by (try simp only [List.map_toArray, List.map_cons, List.map_nil]); first | done | rfl | (simp only [List.length_drop, List.length_take]; rfl)) ?_; (with_reducible refine (fix_Cut.calls a1 t309 _ A4.out).mono ?_); rintro e w10 ⟨rfl, hb⟩; refine ⟨_, rfl, ?_⟩; have n0_ := Aside0.mk (below_step (by repeat (first | (with_reducible first | exact HB.out | apply below_alloc | apply pw_below_drewN | apply below_drew1) | exact HB.out)) hb); clear HB; have HB := n0_; clear n0_; (try clear hb); (try clear hb2); (try clear hk); (try clear hi)) | ((with_reducible refine gate_callee (f := 54) rfl ?_); refine goesL_ (some 11) rfl rfl Try.func54 (by kernel_rfl) rfl #[.int .i64 t308] rfl (by (try simp only [List.map_toArray, List.map_cons, List.map_nil]); first | done | rfl | (simp only [List.length_drop, List.length_take]; rfl)) ?_; (with_reducible refine (fix_size.calls t308 t310 _ A5.out).mono ?_); rintro e w' ⟨rfl, ⟨nd, rfl⟩⟩; refine ⟨_, rfl, ?_⟩) | ((with_reducible refine gate_callee (f := 54) rfl ?_); refine goesL_ (some 13) rfl rfl Try.func54 (by kernel_rfl) rfl #[.int .i64 t309] rfl (by (try simp only [List.map_toArray, List.map_cons, List.map_nil]); first | done | rfl | (simp only [List.length_drop, List.length_take]; rfl)) ?_; (with_reducible refine (fix_size.calls t309 t311 _ A6.out).mono ?_); rintro e w' ⟨rfl, ⟨nd, rfl⟩⟩; refine ⟨_, rfl, ?_⟩) | ((with_reducible refine gate_callee (f := 53) rfl ?_); refine goesL_ (some 14) rfl rfl Try.func53 (by kernel_rfl) rfl #[.int .u64 t310, .int .u64 t311] rfl (by (try simp only [List.map_toArray, List.map_cons, List.map_nil]); first | done | rfl | (simp only [List.length_drop, List.length_take]; rfl)) ?_; (with_reducible refine (fix_times.calls k t310 t311 t312 _ A7.out).mono ?_); rintro e w' ⟨rfl, ⟨nd, rfl⟩⟩; refine ⟨_, rfl, ?_⟩))
    go_ret
    exact ⟨by first | rfl | (simp [errW_none, errW_some] <;> rfl) | (simp [*, errW_none, errW_some] <;> rfl), by repeat (first | (with_reducible first | exact HB.out | apply below_alloc | apply pw_below_drewN | apply below_drew1) | exact HB.out)⟩
  · rw [if_neg c8] at H
    have c8b0 : ((decide (t308 < 0)) != (decide (t309 < 0))) = false := by simpa using c8
    (try (have c8b1 : decide ((decide (t308 < 0)) = (decide (t309 < 0))) = true := by simpa using c8))
    (try (have c8b2 : ((decide (t308 < 0)) == (decide (t309 < 0))) = true := by simpa using c8))
    clear c8
    obtain rfl := Option.some.inj H
    go_enter Try.func41, Try.ntmps41
    go_wp2_with (first | ((with_reducible refine gate_callee (f := 35) rfl ?_); refine goesL_ (some 7) rfl rfl Try.func35 (by kernel_rfl) rfl #[.int .i64 a0] rfl (by (try simp only [List.map_toArray, List.map_cons, List.map_nil]); first | done | rfl | (simp only [List.length_drop, List.length_take]; rfl)) ?_; (with_reducible refine (fix_Cut.calls a0 t308 _ A3.out).mono ?_); rintro e w11 ⟨rfl, hb⟩; refine ⟨_, rfl, ?_⟩; have n0_ := Aside0.mk (below_step (by repeat (first | (with_reducible first | exact HB.out | apply below_alloc | apply pw_below_drewN | apply below_drew1) | exact HB.out)) hb); clear HB; have HB := n0_; clear n0_; (try clear hb); (try clear hb2); (try clear hk); (try clear hi)) | ((with_reducible refine gate_callee (f := 35) rfl ?_); refine goesL_ (some 9) rfl rfl Try.func35 (by kernel_rfl) rfl #[.int .i64 a1] rfl (by (try simp only [List.map_toArray, List.map_cons, List.map_nil]); first | done | rfl | (simp only [List.length_drop, List.length_take]; rfl)) ?_; (with_reducible refine (fix_Cut.calls a1 t309 _ A4.out).mono ?_); rintro e w12 ⟨rfl, hb⟩; refine ⟨_, rfl, ?_⟩; have n0_ := Aside0.mk (below_step (by repeat (first | (with_reducible first | exact HB.out | apply below_alloc | apply pw_below_drewN | apply below_drew1) | exact HB.out)) hb); clear HB; have HB := n0_; clear n0_; (try clear hb); (try clear hb2); (try clear hk); (try clear hi)) | ((with_reducible refine gate_callee (f := 54) rfl ?_); refine goesL_ (some 11) rfl rfl Try.func54 (by kernel_rfl) rfl #[.int .i64 t308] rfl (by (try simp only [List.map_toArray, List.map_cons, List.map_nil]); first | done | rfl | (simp only [List.length_drop, List.length_take]; rfl)) ?_; (with_reducible refine (fix_size.calls t308 t310 _ A5.out).mono ?_); rintro e w' ⟨rfl, ⟨nd, rfl⟩⟩; refine ⟨_, rfl, ?_⟩) | ((with_reducible refine gate_callee (f := 54) rfl ?_); refine goesL_ (some 13) rfl rfl Try.func54 (by kernel_rfl) rfl #[.int .i64 t309] rfl (by (try simp only [List.map_toArray, List.map_cons, List.map_nil]); first | done | rfl | (simp only [List.length_drop, List.length_take]; rfl)) ?_; (with_reducible refine (fix_size.calls t309 t311 _ A6.out).mono ?_); rintro e w' ⟨rfl, ⟨nd, rfl⟩⟩; refine ⟨_, rfl, ?_⟩) | ((with_reducible refine gate_callee (f := 53) rfl ?_); refine goesL_ (some 14) rfl rfl Try.func53 (by kernel_rfl) rfl #[.int .u64 t310, .int .u64 t311] rfl (by (try simp only [List.map_toArray, List.map_cons, List.map_nil]); first | done | rfl | (simp only [List.length_drop, List.length_take]; rfl)) ?_; (with_reducible refine (fix_times.calls k t310 t311 t312 _ A7.out).mono ?_); rintro e w' ⟨rfl, ⟨nd, rfl⟩⟩; refine ⟨_, rfl, ?_⟩))
    go_ret
    exact ⟨by first | rfl | (simp [errW_none, errW_some] <;> rfl) | (simp [*, errW_none, errW_some] <;> rfl), by repeat (first | (with_reducible first | exact HB.out | apply below_alloc | apply pw_below_drewN | apply below_drew1) | exact HB.out)⟩


theorem fix_Mul_eq (k : Nat) (hk : 1 ≤ k) (a b : Int) : fix_Mul.f k a b = some (vmul a b) := by
  unfold fix_Mul.f vmul
  have h1 := vcut_bd a
  have h2 := vcut_bd b
  have h := vmul_signs (vcut a) (vcut b) h1 h2
  simp only [fix_Cut_eq, Option.bind_some]
  rw [fix_size_eq _ h1.1 h1.2, fix_size_eq _ h2.1 h2.2]
  simp only [Option.bind_some]
  rw [fix_times_eq k hk _ _ (by split <;> omega) (by split <;> omega) (by split <;> omega) (by split <;> omega)]
  simp only [Option.bind_some]
  have hn : 0 ≤ (if vcut a < 0 then -vcut a else vcut a) * (if vcut b < 0 then -vcut b else vcut b) := Int.mul_nonneg (by split <;> omega) (by split <;> omega)
  rw [← h]
  generalize (if vcut a < 0 then -vcut a else vcut a) * (if vcut b < 0 then -vcut b else vcut b) = n at hn
  have hN : 0 ≤ (if n > 1099511627776 then 1099511627776 else n) ∧ (if n > 1099511627776 then 1099511627776 else n) ≤ 1099511627776 := by split <;> omega
  generalize (if n > 1099511627776 then 1099511627776 else n) = N at hN
  rw [w64 (x := -N) (by omega) (by omega)]
  generalize ((decide (vcut a < 0)) != (decide (vcut b < 0))) = t
  cases t <;> rfl


/-! ### fix_down: function 55 -/
def fix_down.f (a0 : Int) (a1 : Int) : Option (Int) := if a1 = 0 then (none) else (if (wrap64 ((wrap64 (Int.tdiv a0 a1)) * a1)) > a0 then (some (wrap64 ((wrap64 (Int.tdiv a0 a1)) - 1))) else (some (wrap64 (Int.tdiv a0 a1))))
set_option maxHeartbeats 8000000 in
set_option maxRecDepth 100000 in
theorem fix_down.calls (a0 : Int) (a1 : Int) (r : Int) (w : World) (h : fix_down.f a0 a1 = some r) :
    Calls Try.prog 55 #[.int .i64 a0, .int .i64 a1] w fun e w' => e = .returned (.int .i64 r) ∧ Drawn0 w w' := by
  have H : (if a1 = 0 then (none) else (if (wrap64 ((wrap64 (Int.tdiv a0 a1)) * a1)) > a0 then (some (wrap64 ((wrap64 (Int.tdiv a0 a1)) - 1))) else (some (wrap64 (Int.tdiv a0 a1))))) = some r := h
  clear h
  by_cases c3 : a1 = 0
  · rw [if_pos c3] at H
    exact absurd H (by simp)
  · rw [if_neg c3] at H
    have c3b0 : (a1 == 0) = false := beq_eq_false_iff_ne.mpr c3
    have c3b1 : (a1 != 0) = true := bne_iff_ne.mpr c3
    by_cases c4 : (wrap64 ((wrap64 (Int.tdiv a0 a1)) * a1)) > a0
    · rw [if_pos c4] at H
      have c4b0 : decide (a0 < (wrap64 ((wrap64 (Int.tdiv a0 a1)) * a1))) = true := decide_eq_true c4
      clear c4
      obtain rfl := Option.some.inj H
      go_enter Try.func55, Try.ntmps55
      go_wp2
      go_ret
      exact ⟨by first | rfl | (simp; done) | (simp [*]; done), by repeat (first | exact Drawn0.refl _ | apply Drawn0.step)⟩
    · rw [if_neg c4] at H
      have c4b0 : decide (a0 < (wrap64 ((wrap64 (Int.tdiv a0 a1)) * a1))) = false := decide_eq_false c4
      clear c4
      obtain rfl := Option.some.inj H
      go_enter Try.func55, Try.ntmps55
      go_wp2
      go_ret
      exact ⟨by first | rfl | (simp; done) | (simp [*]; done), by repeat (first | exact Drawn0.refl _ | apply Drawn0.step)⟩

end Go.Proofs.Ytcadddijlgcnbaa.V
