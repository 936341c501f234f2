/- What the functions of this seat answer, as plain Lean functions, and that the calls come to just that (written by a program of this repo, over the kit's printer; Lean checks it). -/
import Derived.Test.YtnmcefpnpfaklacVx0
import Derived.Test.YtnmcefpnpfaklacVx1
import Derived.Test.YtnmcefpnpfaklacVx2
namespace Go.Proofs.Ytnmcefpnpfaklac.V
open Go.RowKit Go.Proofs.YtnmcefpnpfaklacW.PrintWords Go.Proofs.YtnmcefpnpfaklacW.PrintLast Go.Proofs.YtnmcefpnpfaklacW.PrintMore
attribute [local go_sem] max2_int min2_int max_two min_two max_three min_three max_four min_four   -- for this text's walks alone
set_option linter.unusedVariables false
set_option linter.unusedSimpArgs false

/-! ### fix_Clamp: function 44 -/
def fix_Clamp.f (a0 : Int) (a1 : Int) (a2 : Int) : Option (Int) := (fix_Cut.f a1).bind fun t118 => ((fix_Cut.f a0).bind fun t119 => ((fix_Cut.f a2).bind fun t120 => (some (mx t118 (mn t119 t120)))))
set_option maxHeartbeats 8000000 in
set_option maxRecDepth 100000 in
theorem fix_Clamp.calls (a0 : Int) (a1 : Int) (a2 : Int) (r : Int) (w : World) (h : fix_Clamp.f a0 a1 a2 = some r) :
    Calls Try.prog 44 #[.int .i64 a0, .int .i64 a1, .int .i64 a2] w fun e w' => e = .returned (.int .i64 r) ∧ Below w.heap.size w w' := by
  have HB := Aside0.mk (Below.refl w.heap.size w)
  have H : ((fix_Cut.f a1).bind fun t118 => ((fix_Cut.f a0).bind fun t119 => ((fix_Cut.f a2).bind fun t120 => (some (mx t118 (mn t119 t120)))))) = some r := h
  clear h
  replace H := Option.bind_eq_some_iff.mp H
  obtain ⟨t118, A40, H⟩ := H
  replace H : ((fix_Cut.f a0).bind fun t119 => ((fix_Cut.f a2).bind fun t120 => (some (mx t118 (mn t119 t120))))) = some r := H
  have A4 := Aside0.mk A40
  clear A40
  replace H := Option.bind_eq_some_iff.mp H
  obtain ⟨t119, A50, H⟩ := H
  replace H : ((fix_Cut.f a2).bind fun t120 => (some (mx t118 (mn t119 t120)))) = some r := H
  have A5 := Aside0.mk A50
  clear A50
  replace H := Option.bind_eq_some_iff.mp H
  obtain ⟨t120, A60, H⟩ := H
  replace H : (some (mx t118 (mn t119 t120))) = some r := H
  have A6 := Aside0.mk A60
  clear A60
  obtain ⟨ji7, hji7⟩ : ∃ j_ : Int, (mn t119 t120) = j_ := ⟨_, rfl⟩
  replace H : (some (mx t118 (ji7))) = some r := by first | (rw [hji7] at H; exact H) | (simp only [hji7] at H ⊢; exact H)
  (try rw [hji7] at A4)
  (try rw [hji7] at A5)
  (try rw [hji7] at A6)
  have hji7_ : (if t120 < t119 then t120 else t119) = ji7 := hji7
  obtain ⟨ji8, hji8⟩ : ∃ j_ : Int, (mx t118 (ji7)) = j_ := ⟨_, rfl⟩
  replace H : (some ji8) = some r := by first | (rw [hji8] at H; exact H) | (simp only [hji8] at H ⊢; exact H)
  (try rw [hji8] at A4)
  (try rw [hji8] at A5)
  (try rw [hji8] at A6)
  have hji8_ : (if t118 < (ji7) then (ji7) else t118) = ji8 := hji8
  obtain rfl := Option.some.inj H
  go_enter Try.func44, Try.ntmps44
  go_wp2_with (first | ((with_reducible refine gate_callee (f := 37) rfl ?_); refine goesL_ (some 8) rfl rfl Try.func37 (by kernel_rfl) rfl #[.int .i64 a1] rfl (by (try simp only [List.map_toArray, List.map_cons, List.map_nil]); first | done | rfl | (simp only [List.length_drop, List.length_take]; rfl)) ?_; (with_reducible refine (fix_Cut.calls a1 t118 _ A4.out).mono ?_); rintro e w9 ⟨rfl, hb⟩; refine ⟨_, rfl, ?_⟩; have n0_ := Aside0.mk (below_step (by repeat (first | (with_reducible first | exact HB.out | apply below_alloc | apply pw_below_drewN | apply below_drew1) | exact HB.out)) hb); clear HB; have HB := n0_; clear n0_; (try clear hb); (try clear hb2); (try clear hk); (try clear hi)) | ((with_reducible refine gate_callee (f := 37) rfl ?_); refine goesL_ (some 10) rfl rfl Try.func37 (by kernel_rfl) rfl #[.int .i64 a0] rfl (by (try simp only [List.map_toArray, List.map_cons, List.map_nil]); first | done | rfl | (simp only [List.length_drop, List.length_take]; rfl)) ?_; (with_reducible refine (fix_Cut.calls a0 t119 _ A5.out).mono ?_); rintro e w10 ⟨rfl, hb⟩; refine ⟨_, rfl, ?_⟩; have n0_ := Aside0.mk (below_step (by repeat (first | (with_reducible first | exact HB.out | apply below_alloc | apply pw_below_drewN | apply below_drew1) | exact HB.out)) hb); clear HB; have HB := n0_; clear n0_; (try clear hb); (try clear hb2); (try clear hk); (try clear hi)) | ((with_reducible refine gate_callee (f := 37) rfl ?_); refine goesL_ (some 12) rfl rfl Try.func37 (by kernel_rfl) rfl #[.int .i64 a2] rfl (by (try simp only [List.map_toArray, List.map_cons, List.map_nil]); first | done | rfl | (simp only [List.length_drop, List.length_take]; rfl)) ?_; (with_reducible refine (fix_Cut.calls a2 t120 _ A6.out).mono ?_); rintro e w11 ⟨rfl, hb⟩; refine ⟨_, rfl, ?_⟩; have n0_ := Aside0.mk (below_step (by repeat (first | (with_reducible first | exact HB.out | apply below_alloc | apply pw_below_drewN | apply below_drew1) | exact HB.out)) hb); clear HB; have HB := n0_; clear n0_; (try clear hb); (try clear hb2); (try clear hk); (try clear hi)))
  go_ret
  exact ⟨by first | rfl | (simp [errW_none, errW_some] <;> rfl) | (simp only [← hji7, ← hji8]; first | rfl | (simp [errW_none, errW_some] <;> rfl)) | (simp [*, errW_none, errW_some] <;> rfl), by repeat (first | (with_reducible first | exact HB.out | apply below_alloc | apply pw_below_drewN | apply below_drew1) | exact HB.out)⟩


theorem fix_Clamp_eq (n lo hi : Int) : fix_Clamp.f n lo hi = some (vclamp n lo hi) := by
  unfold fix_Clamp.f vclamp
  simp only [fix_Cut_eq, Option.bind_some]


end Go.Proofs.Ytnmcefpnpfaklac.V
