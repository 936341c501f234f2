/- What the functions of this seat answer, as plain Lean functions, and that the calls come to just that (written by a program of this repo, over the kit's printer; Lean checks it). -/
import Derived.Test.YtnmcefpnpfaklaaVx0
import Derived.Test.YtnmcefpnpfaklaaVx2
import Derived.Test.YtnmcefpnpfaklaaVx4
import Derived.Test.YtnmcefpnpfaklaaVx5
namespace Go.Proofs.Ytnmcefpnpfaklaa.V
open Go.RowKit Go.Proofs.Ytnmcefpnpfaklaa.Flt Go.Proofs.YtnmcefpnpfaklaaW.PrintWords Go.Proofs.YtnmcefpnpfaklaaW.PrintLast Go.Proofs.YtnmcefpnpfaklaaW.PrintMore
attribute [local go_sem high] run_eql_vpt2 run_neq_vpt2 eqGuard_vpt2 vpt2_zero run_add_vpt2
attribute [local go_sem] max2_int min2_int max_two min_two max_three min_three max_four min_four   -- for this text's walks alone
set_option linter.unusedVariables false
set_option linter.unusedSimpArgs false

/-! ### length_Limit: function 21 -/
theorem zl_of (k n b no : Int) (w : World) : Calls Try.prog 13 #[.agg #[.int .i64 k, .int .i64 n], .int .i64 b, .int .i64 no] w fun e w' => e = .returned (.int .i64 (vof k n b no)) ∧ Below w.heap.size w w' := length_Of.calls k n b no _ w (length_Of_eq k n b no)
theorem zl_clamp (n a b : Int) (w : World) : Calls Try.prog 35 #[.int .i64 n, .int .i64 a, .int .i64 b] w fun e w' => e = .returned (.int .i64 (vclamp n a b)) ∧ Below w.heap.size w w' := fix_Clamp.calls n a b _ w (fix_Clamp_eq n a b)
theorem zl_end (k n no b : Int) (g : Nat) (w : World) (hc : w.cell? ⟨g, 0, none⟩ = some (.int .i64 b)) : Calls Try.prog 36 #[.agg #[.int .i64 k, .int .i64 n], .int .i64 no, .pointer (some ⟨g, 0, none⟩)] w fun e w' => e = .returned (.int .i64 (vof k n b no)) ∧ Below w.heap.size w w' := by
  have hu := Try.underlying24
  have hlt := World.block_lt_of_cell? w _ hc
  have HB := Aside0.mk (below_alloc (Below.refl w.heap.size w) (.cells #[.int .i64 k, .int .i64 n] 24))
  go_enter Try.func36, Try.ntmps36
  go_wp2_with (go_at_call 13; refine (zl_of _ _ _ _ _).mono ?_; rintro e w1 ⟨rfl, hb⟩; replace HB := Aside0.mk (below_step HB.out hb); clear hb)
  go_ret
  exact ⟨rfl, HB.out⟩
def LimS (k1 n1 k2 n2 b : Int) (w w' : World) : Prop := w'.cell? ⟨w.heap.size, 0, none⟩ = some (.int .i64 k1) ∧ w'.cell? ⟨w.heap.size, 1, none⟩ = some (.int .i64 n1) ∧ w'.cell? ⟨w.heap.size + 1, 0, none⟩ = some (.int .i64 k2) ∧ w'.cell? ⟨w.heap.size + 1, 1, none⟩ = some (.int .i64 n2) ∧ w'.cell? ⟨w.heap.size + 1 + 1, 0, none⟩ = some (.int .i64 b) ∧ Below w.heap.size w w'
theorem LimS.below {k1 n1 k2 n2 b : Int} {w W W1 : World} (h : LimS k1 n1 k2 n2 b w W) (hb : Below W.heap.size W W1) : LimS k1 n1 k2 n2 b w W1 := ⟨pw_cell_below hb h.1, pw_cell_below hb h.2.1, pw_cell_below hb h.2.2.1, pw_cell_below hb h.2.2.2.1, pw_cell_below hb h.2.2.2.2.1, below_step h.2.2.2.2.2 hb⟩
theorem LimS.start (k1 n1 k2 n2 b : Int) (w : World) : LimS k1 n1 k2 n2 b w (((w.alloc (.cells #[.int .i64 k1, .int .i64 n1] 24)).alloc (.cells #[.int .i64 k2, .int .i64 n2] 24)).alloc (.cells #[.int .i64 b] 3)) := by
  have h := TwoS.start (.int .i64 k1) (.int .i64 n1) (.int .i64 k2) (.int .i64 n2) 24 w
  have hb : Below ((w.alloc (.cells #[.int .i64 k1, .int .i64 n1] 24)).alloc (.cells #[.int .i64 k2, .int .i64 n2] 24)).heap.size _ (((w.alloc (.cells #[.int .i64 k1, .int .i64 n1] 24)).alloc (.cells #[.int .i64 k2, .int .i64 n2] 24)).alloc (.cells #[.int .i64 b] 3)) := below_alloc (Below.refl _ _) _
  have h2 := TwoS.below h hb
  have B2 := blk_new ((w.alloc (.cells #[.int .i64 k1, .int .i64 n1] 24)).alloc (.cells #[.int .i64 k2, .int .i64 n2] 24)) (.cells #[.int .i64 b] 3)
  have B3 : (((w.alloc (.cells #[.int .i64 k1, .int .i64 n1] 24)).alloc (.cells #[.int .i64 k2, .int .i64 n2] 24)).alloc (.cells #[.int .i64 b] 3)).heap[w.heap.size + 1 + 1]? = some (.cells #[.int .i64 b] 3 (0, 0)) := by simpa using B2
  exact ⟨h2.1, h2.2.1, h2.2.2.1, h2.2.2.2.1, (blk_cell B3 0).trans rfl, h2.2.2.2.2⟩
theorem zl_endg (k1 n1 k2 n2 b k n no : Int) (w W : World) (h : LimS k1 n1 k2 n2 b w W) : Calls Try.prog 36 #[.agg #[.int .i64 k, .int .i64 n], .int .i64 no, .pointer (some ⟨w.heap.size + 1 + 1, 0, none⟩)] W fun e w' => e = .returned (.int .i64 (vof k n b no)) ∧ Below W.heap.size W w' := zl_end k n no b _ W h.2.2.2.2.1
def vlimit (n k1 n1 k2 n2 b : Int) : Int := mx (vclamp n (vof k1 n1 b (-1099511627776)) (vof k2 n2 b 1099511627776)) 0
theorem zl_max (x y : Int) : (if x < y then y else x) = mx x y := rfl
set_option maxHeartbeats 1000000 in
theorem zl_limit (n k1 n1 k2 n2 b : Int) (w : World) : Calls Try.prog 21 #[.int .i64 n, .agg #[.int .i64 k1, .int .i64 n1], .agg #[.int .i64 k2, .int .i64 n2], .int .i64 b] w fun e w' => e = .returned (.int .i64 (vlimit n k1 n1 k2 n2 b)) ∧ Below w.heap.size w w' := by
  have hu := Try.underlying24
  have HS := Aside0.mk (LimS.start k1 n1 k2 n2 b w)
  by_cases hz : vclamp n (vof k1 n1 b (-1099511627776)) (vof k2 n2 b 1099511627776) < 0
  all_goals
    have hv : vlimit n k1 n1 k2 n2 b = if vclamp n (vof k1 n1 b (-1099511627776)) (vof k2 n2 b 1099511627776) < 0 then 0 else vclamp n (vof k1 n1 b (-1099511627776)) (vof k2 n2 b 1099511627776) := rfl
    simp only [hz, if_true, if_false] at hv
    rw [hv]; clear hv
    go_enter Try.func21, Try.ntmps21
    go_wp2
    have hS0 := HS.out
    unfold LimS at hS0
    go_region_held3 (fun w' => w'.cell? ⟨w.heap.size, 0, none⟩ = some (.int .i64 k1) ∧ w'.cell? ⟨w.heap.size, 1, none⟩ = some (.int .i64 n1) ∧ w'.cell? ⟨w.heap.size + 1, 0, none⟩ = some (.int .i64 k2) ∧ w'.cell? ⟨w.heap.size + 1, 1, none⟩ = some (.int .i64 n2) ∧ w'.cell? ⟨w.heap.size + 1 + 1, 0, none⟩ = some (.int .i64 b) ∧ Below w.heap.size w w') ((first | exact LimS.below hS0 (below_drew (Below.refl _ _)) | assumption | (refine LimS.below ?_ hb; assumption))) ((first | (go_at_call 36; refine (zl_endg k1 n1 k2 n2 b _ _ _ w _ (by assumption)).mono ?_; rintro e w1 ⟨rfl, hb⟩) | (go_at_call 35; refine (zl_clamp _ _ _ _).mono ?_; rintro e w1 ⟨rfl, hb⟩)))
    have hS1 : LimS k1 n1 k2 n2 b w w1 := by assumption
    clear HS hS0
    have HB := Aside0.mk hS1.2.2.2.2.2
    clear hS1
    go_wp2
    go_ret
    exact ⟨rfl, HB.out⟩
def length_Limit.f (n k1 n1 k2 n2 b : Int) : Option Int := some (vlimit n k1 n1 k2 n2 b)
theorem length_Limit.calls (n k1 n1 k2 n2 b r : Int) (w : World) (h : length_Limit.f n k1 n1 k2 n2 b = some r) :
    Calls Try.prog 21 #[.int .i64 n, .agg #[.int .i64 k1, .int .i64 n1], .agg #[.int .i64 k2, .int .i64 n2], .int .i64 b] w fun e w' => e = .returned (.int .i64 r) ∧ Below w.heap.size w w' := by
  obtain rfl := Option.some.inj h
  exact zl_limit n k1 n1 k2 n2 b w


theorem length_Limit_eq (n k1 n1 k2 n2 b : Int) : length_Limit.f n k1 n1 k2 n2 b = some (vlimit n k1 n1 k2 n2 b) := rfl

end Go.Proofs.Ytnmcefpnpfaklaa.V
