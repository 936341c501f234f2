/- What the functions of this seat answer, as plain Lean functions, and that the calls come to just that (written by a program of this repo, over the kit's printer; Lean checks it). -/
import Derived.Test.YtnmcefpnpfaklabVx0
import Derived.Test.YtnmcefpnpfaklabVx2
import Derived.Test.YtnmcefpnpfaklabVx11
import Derived.Test.YtnmcefpnpfaklabVx12
import Derived.Test.YtnmcefpnpfaklabVx16
namespace Go.Proofs.Ytnmcefpnpfaklab.V
open Go.RowKit Go.Proofs.Ytnmcefpnpfaklab.Flt Go.Proofs.YtnmcefpnpfaklabW.PrintWords Go.Proofs.YtnmcefpnpfaklabW.PrintLast Go.Proofs.YtnmcefpnpfaklabW.PrintMore
attribute [local go_sem high] run_eql_vpt2 run_neq_vpt2 eqGuard_vpt2 vpt2_zero run_add_vpt2
attribute [local go_sem] max2_int min2_int max_two min_two max_three min_three max_four min_four   -- for this text's walks alone
set_option linter.unusedVariables false
set_option linter.unusedSimpArgs false

/-! ### valanceref01_Part: function 64 -/
def valanceref01_Part.f (a0 : Int) (a1 : Int) : Option (Int) := (valanceref01_Cut.f a0).bind fun t188 => ((valanceref01_Down.f (wrap64 (t188 * (mn (mx a1 0) 1000000))) 10000).bind fun t189 => ((valanceref01_Cut.f t189).bind fun t190 => (some t190)))
set_option maxHeartbeats 8000000 in
set_option maxRecDepth 100000 in
theorem valanceref01_Part.calls (a0 : Int) (a1 : Int) (r : Int) (w : World) (h : valanceref01_Part.f a0 a1 = some r) :
    Calls Try.prog 64 #[.int .i64 a0, .int .i64 a1] w fun e w' => e = .returned (.int .i64 r) ∧ Below w.heap.size w w' := by
  have HB := Aside0.mk (Below.refl w.heap.size w)
  have H : ((valanceref01_Cut.f a0).bind fun t188 => ((valanceref01_Down.f (wrap64 (t188 * (mn (mx a1 0) 1000000))) 10000).bind fun t189 => ((valanceref01_Cut.f t189).bind fun t190 => (some t190)))) = some r := h
  clear h
  replace H := Option.bind_eq_some_iff.mp H
  obtain ⟨t188, A30, H⟩ := H
  replace H : ((valanceref01_Down.f (wrap64 (t188 * (mn (mx a1 0) 1000000))) 10000).bind fun t189 => ((valanceref01_Cut.f t189).bind fun t190 => (some t190))) = some r := H
  have A3 := Aside0.mk A30
  clear A30
  obtain ⟨ji4, hji4⟩ : ∃ j_ : Int, (mx a1 0) = j_ := ⟨_, rfl⟩
  replace H : ((valanceref01_Down.f (wrap64 (t188 * (mn (ji4) 1000000))) 10000).bind fun t189 => ((valanceref01_Cut.f t189).bind fun t190 => (some t190))) = some r := by first | (rw [hji4] at H; exact H) | (simp only [hji4] at H ⊢; exact H)
  (try rw [hji4] at A3)
  (try (have hji4l : 0 ≤ ji4 := by (rw [← hji4]; unfold mx; (repeat' split) <;> omega)))
  (try (have hji4m : 0 ≤ ji4 := by omega))
  have hji4_ : (if a1 < 0 then 0 else a1) = ji4 := hji4
  obtain ⟨ji5, hji5⟩ : ∃ j_ : Int, (mn (ji4) 1000000) = j_ := ⟨_, rfl⟩
  replace H : ((valanceref01_Down.f (wrap64 (t188 * (ji5))) 10000).bind fun t189 => ((valanceref01_Cut.f t189).bind fun t190 => (some t190))) = some r := by first | (rw [hji5] at H; exact H) | (simp only [hji5] at H ⊢; exact H)
  (try rw [hji5] at A3)
  have hji5_ : (if 1000000 < (ji4) then 1000000 else (ji4)) = ji5 := hji5
  replace H := Option.bind_eq_some_iff.mp H
  obtain ⟨t189, A60, H⟩ := H
  replace H : ((valanceref01_Cut.f t189).bind fun t190 => (some t190)) = some r := H
  have A6 := Aside0.mk A60
  clear A60
  replace H := Option.bind_eq_some_iff.mp H
  obtain ⟨t190, A70, H⟩ := H
  replace H : (some t190) = some r := H
  have A7 := Aside0.mk A70
  clear A70
  obtain rfl := Option.some.inj H
  go_enter Try.func64, Try.ntmps64
  go_wp2_with (first | ((with_reducible refine gate_callee (f := 62) rfl ?_); refine goesL_ (some 6) rfl rfl Try.func62 (by kernel_rfl) rfl #[.int .i64 a0] rfl (by (try simp only [List.map_toArray, List.map_cons, List.map_nil]); first | done | rfl | (simp only [List.length_drop, List.length_take]; rfl)) ?_; (with_reducible refine (valanceref01_Cut.calls a0 t188 _ A3.out).mono ?_); rintro e w' ⟨rfl, ⟨nd, rfl⟩⟩; refine ⟨_, rfl, ?_⟩) | ((with_reducible refine gate_callee (f := 69) rfl ?_); refine goesL_ (some 11) rfl rfl Try.func69 (by kernel_rfl) rfl #[.int .i64 (wrap64 (t188 * (ji5))), .int .i64 10000] rfl (by (try simp only [List.map_toArray, List.map_cons, List.map_nil]); first | done | (simp only [hji5]; rfl) | rfl | (simp only [List.length_drop, List.length_take]; rfl)) ?_; (with_reducible refine (valanceref01_Down.calls (wrap64 (t188 * (ji5))) 10000 t189 _ A6.out).mono ?_); rintro e w' ⟨rfl, ⟨nd, rfl⟩⟩; refine ⟨_, rfl, ?_⟩) | ((with_reducible refine gate_callee (f := 62) rfl ?_); refine goesL_ (some 12) rfl rfl Try.func62 (by kernel_rfl) rfl #[.int .i64 t189] rfl (by (try simp only [List.map_toArray, List.map_cons, List.map_nil]); first | done | rfl | (simp only [List.length_drop, List.length_take]; rfl)) ?_; (with_reducible refine (valanceref01_Cut.calls t189 t190 _ A7.out).mono ?_); rintro e w' ⟨rfl, ⟨nd, rfl⟩⟩; refine ⟨_, rfl, ?_⟩))
  go_ret
  exact ⟨by first | rfl | (simp [errW_none, errW_some] <;> rfl) | (simp only [← hji4, ← hji5]; first | rfl | (simp [errW_none, errW_some] <;> rfl)) | (simp [*, errW_none, errW_some] <;> rfl), by repeat (first | (with_reducible first | exact HB.out | apply below_alloc | apply pw_below_drewN | apply below_drew1) | exact HB.out)⟩


theorem ref_Part_eq (a n : Int) : valanceref01_Part.f a n = some (vpart a n) := by
  unfold valanceref01_Part.f vpart
  have h1 := vcut_bd a
  have h2 := parts_bd n
  have h3 := vmul_bd (x := vcut a) (p := mn (mx n 0) 1000000) (A := 1099511627776) (B := 1000000) h1.1 h1.2 h2.1 h2.2 (by omega)
  simp only [ref_Cut_eq, Option.bind_some]
  rw [w64 (by omega) (by omega), ref_Down_eq _ _ (by omega) (by omega) (by omega) (by omega)]
  simp only [Option.bind_some]


end Go.Proofs.Ytnmcefpnpfaklab.V
