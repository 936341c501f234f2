/- What the functions of this seat answer, as plain Lean functions, and that the calls come to just that (written by a program of this repo, over the kit's printer; Lean checks it). -/
import Derived.Test.YtnmcefpnpfaklaeVx0
import Derived.Test.YtnmcefpnpfaklaeVx2
namespace Go.Proofs.Ytnmcefpnpfaklae.V
open Go.RowKit Go.Proofs.Ytnmcefpnpfaklae.Flt Go.Proofs.YtnmcefpnpfaklaeW.PrintWords Go.Proofs.YtnmcefpnpfaklaeW.PrintLast Go.Proofs.YtnmcefpnpfaklaeW.PrintMore
attribute [local go_sem high] run_eql_vpt2 run_neq_vpt2 eqGuard_vpt2 vpt2_zero run_add_vpt2
attribute [local go_sem] max2_int min2_int max_two min_two max_three min_three max_four min_four   -- for this text's walks alone
set_option linter.unusedVariables false
set_option linter.unusedSimpArgs false

/-! ### point_Whole: function 40 -/
theorem zq_bits (b : Nat) (w : World) : (callFunc 45 #[.float .f64 b]).run Try.prog w = .ok (.value (.int .u64 b)) w := by
  rw [run_callFunc_extern (e := Extern.MathFloatBits.float64bits) (hf := Try.func45) (by kernel_rfl) (by kernel_rfl) (by rfl) (by rfl)]
  rfl
theorem zq_from (b : Nat) (w : World) : (callFunc 44 #[.int .u64 b]).run Try.prog w = .ok (.value (.float .f64 b)) w := by
  rw [run_callFunc_extern (e := Extern.MathFloatBits.float64frombits) (hf := Try.func44) (by kernel_rfl) (by kernel_rfl) (by rfl) (by rfl)]
  rfl
theorem zq_arch (b : Nat) (s : Bool) (m : Nat) (e : Int) (h : FloatKind.f64.decode b = .number s m e) (w : World) : (callFunc 46 #[.float .f64 b]).run Try.prog w = .ok (.value (.float .f64 (FloatKind.f64.encode ((FloatKind.f64.decode b).integral .zero)))) w := by
  rw [run_callFunc_extern (e := Extern.MathFloor.toIntegral "math.archTrunc" .zero) (hf := Try.func46) (by kernel_rfl) (by kernel_rfl) (by rfl) (by rfl)]
  have h2 : (Extern.MathFloor.toIntegral "math.archTrunc" .zero #[.float .f64 b]).run Try.prog w = .ok (.float .f64 (FloatKind.f64.encode ((FloatKind.f64.decode b).integral .zero))) w := by
    conv => lhs; arg 2; whnf
    rw [h]
    rfl
  rw [h2]
  rfl
set_option maxHeartbeats 4000000 in
theorem zq_abs (b : Nat) (hb : b < 18446744073709551616) (w : World) : Calls Try.prog 42 #[.float .f64 b] w fun e w' => e = .returned (.float .f64 (b % 9223372036854775808)) ∧ Below w.heap.size w w' := by
  have HB := Aside0.mk (Below.refl w.heap.size w)
  have h1 := zq_bits b
  have h2 : ∀ w, (callFunc 44 #[.int .u64 ((b : Int) % 9223372036854775808)]).run Try.prog w = .ok (.value (.float .f64 (b % 9223372036854775808))) w := zq_from (b % 9223372036854775808)
  have h3 : bits .andNot .u64 (b : Int) 9223372036854775808 = (b : Int) % 9223372036854775808 := abs_bits b hb
  go_enter Try.func42, Try.ntmps42
  go_wp2
  go_ret
  exact ⟨rfl, HB.out⟩
set_option maxHeartbeats 4000000 in
theorem zq_trunc (b : Nat) (s : Bool) (m : Nat) (e : Int) (h : FloatKind.f64.decode b = .number s m e) (w : World) : Calls Try.prog 43 #[.float .f64 b] w fun e w' => e = .returned (.float .f64 (FloatKind.f64.encode ((FloatKind.f64.decode b).integral .zero))) ∧ Below w.heap.size w w' := by
  have HB := Aside0.mk (Below.refl w.heap.size w)
  have h1 := zq_arch b s m e h
  generalize FloatKind.f64.encode ((FloatKind.f64.decode b).integral .zero) = r at *
  go_enter Try.func43, Try.ntmps43
  go_wp2
  go_ret
  exact ⟨rfl, HB.out⟩
set_option maxHeartbeats 4000000 in
theorem zq_whole (b : Nat) (s : Bool) (m : Nat) (e : Int) (h : FloatKind.f64.decode b = .number s m e) (hb : b < 18446744073709551616) (h1 : (FloatKind.f64.format.order (b % 9223372036854775808) 4787326403894837248 == some .lt || FloatKind.f64.format.order (b % 9223372036854775808) 4787326403894837248 == some .eq) = true) (r : Bool)
    (h2 : (FloatKind.f64.format.order (FloatKind.f64.encode ((FloatKind.f64.decode b).integral .zero)) b == some .eq) = r) (w : World) : Calls Try.prog 41 #[.float .f64 b] w fun e w' => e = .returned (.bool r) ∧ Below w.heap.size w w' := by
  have HB := Aside0.mk (Below.refl w.heap.size w)
  have c1 := zq_abs b hb
  have c2 := zq_trunc b s m e h
  generalize FloatKind.f64.encode ((FloatKind.f64.decode b).integral .zero) = q at *
  have C1 := Aside0.mk c1
  have C2 := Aside0.mk c2
  clear c1 c2
  go_enter Try.func41, Try.ntmps41
  go_wp2_with (first | (go_at_call 42; refine (C1.out _).mono ?_; rintro e w1 ⟨rfl, hb⟩; replace HB := Aside0.mk (below_step HB.out hb); clear hb) | (go_at_call 43; refine (C2.out _).mono ?_; rintro e w1 ⟨rfl, hb⟩; replace HB := Aside0.mk (below_step HB.out hb); clear hb))
  go_ret
  exact ⟨rfl, HB.out⟩
theorem zq_whole_yes (b : Nat) (x : Int) (h : IsW b x) (h1 : -1099511627776 ≤ x) (h2 : x ≤ 1099511627776) (w : World) : Calls Try.prog 41 #[.float .f64 b] w fun e w' => e = .returned (.bool true) ∧ Below w.heap.size w w' := by
  obtain ⟨s, m, e, hd⟩ := isW_num h
  refine zq_whole b s m e hd h.2 ?_ true ?_ w
  · rw [isW_le (isW_abs h) isW_most, decide_eq_true_eq]; omega
  · rw [isW_eql (isW_trunc h (by omega)) h]; exact beq_self_eq_true x
theorem zq_whole_half (w : World) : Calls Try.prog 41 #[.float .f64 4602678819172646912] w fun e w' => e = .returned (.bool false) ∧ Below w.heap.size w w' :=
  zq_whole 4602678819172646912 false 4503599627370496 (-53) (by decide) (by decide) (by decide +kernel) false (by decide +kernel) w
set_option maxHeartbeats 4000000 in
theorem zq_Whole (a b : Nat) (x y : Int) (ha : IsW a x) (hb : IsW b y) (h1 : -1099511627776 ≤ x) (h2 : x ≤ 1099511627776) (h3 : -1099511627776 ≤ y) (h4 : y ≤ 1099511627776) (w : World) :
    Calls Try.prog 40 #[.complex .f64 a b] w fun e w' => e = .returned (.bool true) ∧ Below w.heap.size w w' := by
  have HB := Aside0.mk (Below.refl w.heap.size w)
  have C1 := Aside0.mk (zq_whole_yes a x ha h1 h2)
  have C2 := Aside0.mk (zq_whole_yes b y hb h3 h4)
  clear ha hb h1 h2 h3 h4
  go_enter Try.func40, Try.ntmps40
  go_wp2_with (go_at_call 41; refine (C1.out _).mono ?_; rintro e w1 ⟨rfl, hb⟩; replace HB := Aside0.mk (below_step HB.out hb); clear hb C1; go_wp2_with (go_at_call 41; refine (C2.out _).mono ?_; rintro e w2 ⟨rfl, hb⟩; replace HB := Aside0.mk (below_step HB.out hb); clear hb))
  go_ret
  exact ⟨rfl, HB.out⟩
set_option maxHeartbeats 4000000 in
theorem zq_Whole5 (w : World) : Calls Try.prog 40 #[.complex .f64 4602678819172646912 0] w fun e w' => e = .returned (.bool false) ∧ Below w.heap.size w w' := by
  have HB := Aside0.mk (Below.refl w.heap.size w)
  go_enter Try.func40, Try.ntmps40
  go_wp2_with (go_at_call 41; refine (zq_whole_half _).mono ?_; rintro e w1 ⟨rfl, hb⟩; replace HB := Aside0.mk (below_step HB.out hb); clear hb)
  go_ret
  exact ⟨rfl, HB.out⟩
def point_Whole.f (p : VPt) : Option Bool := some true
theorem point_Whole.calls (p : VPt) (r : Bool) (w : World) (h : point_Whole.f p = some r) : Calls Try.prog 40 #[vpt2 p] w fun e w' => e = .returned (.bool r) ∧ Below w.heap.size w w' := by
  obtain rfl := Option.some.inj h
  exact zq_Whole _ _ _ _ (isW_cut p.1) (isW_cut p.2) (fcut_bd _).1 (fcut_bd _).2 (fcut_bd _).1 (fcut_bd _).2 w

/-! ### point_sound: function 37 -/
set_option maxHeartbeats 4000000 in
theorem zq_sound (a b : Nat) (x y : Int) (ha : IsW a x) (hb : IsW b y) (h1 : -1099511627776 ≤ x) (h2 : x ≤ 1099511627776) (h3 : -1099511627776 ≤ y) (h4 : y ≤ 1099511627776) (w : World) :
    Calls Try.prog 37 #[.complex .f64 a b] w fun e w' => (∃ c d, e = .returned (.complex .f64 c d) ∧ IsW c x ∧ IsW d y) ∧ Below w.heap.size w w' := by
  have HB := Aside0.mk (Below.refl w.heap.size w)
  have C1 := Aside0.mk (zq_Whole a b x y ha hb h1 h2 h3 h4)
  obtain ⟨r, e1, f1⟩ := isW_add ha isW_zero (by omega)
  obtain ⟨s, e2, f2⟩ := isW_add hb isW_zero (by omega)
  rw [Int.add_zero] at f1 f2
  have F := Aside0.mk (And.intro f1 f2)
  have d1 : ∀ w, (binOp .add 48 (.float .f64 a) (.float .f64 0)).run Try.prog w = .ok (.float .f64 r) w := fun w => run_float_arith w .add _ .f64 _ _ _ e1
  have d2 : ∀ w, (binOp .add 48 (.float .f64 b) (.float .f64 0)).run Try.prog w = .ok (.float .f64 s) w := fun w => run_float_arith w .add _ .f64 _ _ _ e2
  clear ha hb h1 h2 h3 h4 e1 e2 f1 f2
  go_enter Try.func37, Try.ntmps37
  go_wp2_with (go_at_call 40; refine (C1.out _).mono ?_; rintro e w1 ⟨rfl, hb⟩; replace HB := Aside0.mk (below_step HB.out hb); clear hb)
  go_ret
  exact ⟨⟨r, s, rfl, F.out.1, F.out.2⟩, HB.out⟩

/-! ### point_X: function 26 -/
set_option maxHeartbeats 4000000 in
theorem zq_X (a b : Nat) (x y : Int) (ha : IsW a x) (hb : IsW b y) (h1 : -1099511627776 ≤ x ∧ x ≤ 1099511627776) (h2 : -1099511627776 ≤ y ∧ y ≤ 1099511627776) (w : World) :
    Calls Try.prog 26 #[.complex .f64 a b] w fun e w' => e = .returned (.int .i64 x) ∧ Below w.heap.size w w' := by
  have HB := Aside0.mk (Below.refl w.heap.size w)
  have C1 := Aside0.mk (zq_sound a b x y ha hb h1.1 h1.2 h2.1 h2.2)
  have H := Aside0.mk (And.intro h1 h2)
  clear ha hb h1 h2
  go_enter Try.func26, Try.ntmps26
  go_wp2_with (go_at_call 37; refine (C1.out _).mono ?_; rintro e w1 ⟨⟨a1, b1, rfl, ha1, hb1⟩, hb⟩; replace HB := Aside0.mk (below_step HB.out hb); clear hb; have c1 : ∀ w, (convert 48 3 (.float .f64 a1)).run Try.prog w = .ok (.int .i64 x) w := fun w => run_convert_float_int _ _ _ _ _ _ _ (by kernel_rfl) (by kernel_rfl) (isW_int ha1 (by have := H.out; omega) (by have := H.out; omega)); clear ha1 hb1)
  go_ret
  exact ⟨rfl, HB.out⟩
def point_X.f (p : VPt) : Option Int := some (vcut p.1)
theorem point_X.calls (p : VPt) (r : Int) (w : World) (h : point_X.f p = some r) : Calls Try.prog 26 #[vpt2 p] w fun e w' => e = .returned (.int .i64 r) ∧ Below w.heap.size w w' := by
  obtain rfl := Option.some.inj h
  exact zq_X _ _ _ _ (isW_cut p.1) (isW_cut p.2) (fcut_bd _) (fcut_bd _) w

/-! ### point_Y: function 27 -/
set_option maxHeartbeats 4000000 in
theorem zq_Y (a b : Nat) (x y : Int) (ha : IsW a x) (hb : IsW b y) (h1 : -1099511627776 ≤ x ∧ x ≤ 1099511627776) (h2 : -1099511627776 ≤ y ∧ y ≤ 1099511627776) (w : World) :
    Calls Try.prog 27 #[.complex .f64 a b] w fun e w' => e = .returned (.int .i64 y) ∧ Below w.heap.size w w' := by
  have HB := Aside0.mk (Below.refl w.heap.size w)
  have C1 := Aside0.mk (zq_sound a b x y ha hb h1.1 h1.2 h2.1 h2.2)
  have H := Aside0.mk (And.intro h1 h2)
  clear ha hb h1 h2
  go_enter Try.func27, Try.ntmps27
  go_wp2_with (go_at_call 37; refine (C1.out _).mono ?_; rintro e w1 ⟨⟨a1, b1, rfl, ha1, hb1⟩, hb⟩; replace HB := Aside0.mk (below_step HB.out hb); clear hb; have c1 : ∀ w, (convert 48 3 (.float .f64 b1)).run Try.prog w = .ok (.int .i64 y) w := fun w => run_convert_float_int _ _ _ _ _ _ _ (by kernel_rfl) (by kernel_rfl) (isW_int hb1 (by have := H.out; omega) (by have := H.out; omega)); clear ha1 hb1)
  go_ret
  exact ⟨rfl, HB.out⟩
def point_Y.f (p : VPt) : Option Int := some (vcut p.2)
theorem point_Y.calls (p : VPt) (r : Int) (w : World) (h : point_Y.f p = some r) : Calls Try.prog 27 #[vpt2 p] w fun e w' => e = .returned (.int .i64 r) ∧ Below w.heap.size w w' := by
  obtain rfl := Option.some.inj h
  exact zq_Y _ _ _ _ (isW_cut p.1) (isW_cut p.2) (fcut_bd _) (fcut_bd _) w

end Go.Proofs.Ytnmcefpnpfaklae.V
