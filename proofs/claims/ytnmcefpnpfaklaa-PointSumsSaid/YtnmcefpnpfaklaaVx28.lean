/- What the functions of this seat answer, as plain Lean functions, and that the calls come to just that (written by a program of this repo, over the kit's printer; Lean checks it). -/
import Derived.Test.YtnmcefpnpfaklaaVx0
import Derived.Test.YtnmcefpnpfaklaaVx26
import Derived.Test.YtnmcefpnpfaklaaVx27
namespace Go.Proofs.Ytnmcefpnpfaklaa.V
open Go.RowKit Go.Proofs.Ytnmcefpnpfaklaa.Flt Go.Proofs.YtnmcefpnpfaklaaW.PrintWords Go.Proofs.YtnmcefpnpfaklaaW.PrintLast Go.Proofs.YtnmcefpnpfaklaaW.PrintMore
attribute [local go_sem high] run_eql_vpt2 run_neq_vpt2 eqGuard_vpt2 vpt2_zero run_add_vpt2
attribute [local go_sem] max2_int min2_int max_two min_two max_three min_three max_four min_four   -- for this text's walks alone
set_option linter.unusedVariables false
set_option linter.unusedSimpArgs false

/-! ### valancelaw02_works: function 23 -/
set_option maxHeartbeats 16000000 in
theorem zq_works (w : World) : Calls Try.prog 23 #[] w fun e w' => e = .returned (.bool true) ∧ Below w.heap.size w w' := by
  have HB := Aside0.mk (Below.refl w.heap.size w)
  have q1 : veq2 (4, 3) (4, 3) = true := by decide
  have q2 : veq2 (6, 8) (6, 8) = true := by decide
  have q3 : veq2 (0, 0) vp0 = true := by decide
  have q4 : veq2 (-3, 4) (-3, 4) = true := by decide
  have q5 : veq2 (2, 4) (2, 4) = true := by decide
  go_enter Try.func23, Try.ntmps23
  go_wp2_with (first | (go_at_call 24; refine (zq_of _ _ _).mono ?_; rintro e w1 ⟨rfl, hb⟩; replace HB := Aside0.mk (below_step HB.out hb); clear hb) | (go_at_call 27; refine (point_Turn.calls (3, 4) (4, 3) _ (by decide)).mono ?_; rintro e w1 ⟨rfl, hb⟩; replace HB := Aside0.mk (below_step HB.out hb); clear hb) | (go_at_call 29; refine (point_X.calls (3, 4) 3 _ (by decide)).mono ?_; rintro e w1 ⟨rfl, hb⟩; replace HB := Aside0.mk (below_step HB.out hb); clear hb) | (go_at_call 30; refine (point_Y.calls (3, 4) 4 _ (by decide)).mono ?_; rintro e w1 ⟨rfl, hb⟩; replace HB := Aside0.mk (below_step HB.out hb); clear hb) | (go_at_call 25; refine (point_Add.calls (3, 4) (3, 4) (6, 8) _ (by decide)).mono ?_; rintro e w1 ⟨rfl, hb⟩; replace HB := Aside0.mk (below_step HB.out hb); clear hb) | (go_at_call 26; refine (point_Sub.calls (3, 4) (3, 4) (0, 0) _ (by decide)).mono ?_; rintro e w1 ⟨rfl, hb⟩; replace HB := Aside0.mk (below_step HB.out hb); clear hb) | (go_at_call 28; refine (point_Flip.calls (3, 4) (-3, 4) _ (by decide)).mono ?_; rintro e w1 ⟨rfl, hb⟩; replace HB := Aside0.mk (below_step HB.out hb); clear hb) | (go_at_call 37; (first | refine (zq_Whole5 _).mono ?_ | refine (point_Whole.calls (3, 4) true _ rfl).mono ?_); rintro e w1 ⟨rfl, hb⟩; replace HB := Aside0.mk (below_step HB.out hb); clear hb) | (go_at_call 38; refine (point_Within.calls (3, 4) vp0 (2, 9) (2, 4) _ (by decide)).mono ?_; rintro e w1 ⟨rfl, hb⟩; replace HB := Aside0.mk (below_step HB.out hb); clear hb))
  go_ret
  exact ⟨rfl, HB.out⟩
def valancelaw02_works.f : Option Bool := some true
theorem valancelaw02_works.calls (r : Bool) (w : World) (h : valancelaw02_works.f = some r) : Calls Try.prog 23 #[] w fun e w' => e = .returned (.bool r) ∧ Below w.heap.size w w' := by
  obtain rfl := Option.some.inj h
  exact zq_works w

end Go.Proofs.Ytnmcefpnpfaklaa.V
