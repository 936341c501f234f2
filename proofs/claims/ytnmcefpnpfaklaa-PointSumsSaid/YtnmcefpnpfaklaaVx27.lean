/- What the functions of this seat answer, as plain Lean functions, and that the calls come to just that (written by a program of this repo, over the kit's printer; Lean checks it). -/
import Derived.Test.YtnmcefpnpfaklaaVx0
import Derived.Test.YtnmcefpnpfaklaaVx2
import Derived.Test.YtnmcefpnpfaklaaVx5
import Derived.Test.YtnmcefpnpfaklaaVx26
namespace Go.Proofs.Ytnmcefpnpfaklaa.V
open Go.RowKit Go.Proofs.Ytnmcefpnpfaklaa.Flt Go.Proofs.YtnmcefpnpfaklaaW.PrintWords Go.Proofs.YtnmcefpnpfaklaaW.PrintLast Go.Proofs.YtnmcefpnpfaklaaW.PrintMore
attribute [local go_sem high] run_eql_vpt2 run_neq_vpt2 eqGuard_vpt2 vpt2_zero run_add_vpt2
attribute [local go_sem] max2_int min2_int max_two min_two max_three min_three max_four min_four   -- for this text's walks alone
set_option linter.unusedVariables false
set_option linter.unusedSimpArgs false

/-! ### point_Add: function 25 -/
set_option maxHeartbeats 4000000 in
theorem zq_Add (a b c d : Nat) (x y z u : Int) (ha : IsW a x) (hb : IsW b y) (hc : IsW c z) (hd : IsW d u) (h1 : -1099511627776 ≤ x ∧ x ≤ 1099511627776) (h2 : -1099511627776 ≤ y ∧ y ≤ 1099511627776) (h3 : -1099511627776 ≤ z ∧ z ≤ 1099511627776) (h4 : -1099511627776 ≤ u ∧ u ≤ 1099511627776) (w : World) :
    Calls Try.prog 25 #[.complex .f64 a b, .complex .f64 c d] w fun e w' => e = .returned (vpt2 (x + z, y + u)) ∧ Below w.heap.size w w' := by
  have HB := Aside0.mk (Below.refl w.heap.size w)
  have C1 := Aside0.mk (zq_sound a b x y ha hb h1.1 h1.2 h2.1 h2.2)
  have C2 := Aside0.mk (zq_sound c d z u hc hd h3.1 h3.2 h4.1 h4.2)
  have H := Aside0.mk (And.intro h1 (And.intro h2 (And.intro h3 h4)))
  clear ha hb hc hd h1 h2 h3 h4
  go_enter Try.func25, Try.ntmps25
  go_wp2_with (go_at_call 40; refine (C1.out _).mono ?_; rintro e w1 ⟨⟨a1, b1, rfl, ha1, hb1⟩, hb⟩; replace HB := Aside0.mk (below_step HB.out hb); clear hb; go_wp2_with (go_at_call 40; refine (C2.out _).mono ?_; rintro e w2 ⟨⟨c1, d1, rfl, hc1, hd1⟩, hb⟩; replace HB := Aside0.mk (below_step HB.out hb); clear hb; obtain ⟨r, s, e1, f1, f2⟩ := isW_cadd ha1 hb1 hc1 hd1 (by have := H.out; omega) (by have := H.out; omega); have k1 : ∀ w, (binOp .add 39 (.complex .f64 a1 b1) (.complex .f64 c1 d1)).run Try.prog w = .ok (.complex .f64 r s) w := fun w => run_complex_sum w .add (.inl rfl) _ .f64 _ _ _ _ _ _ e1; have C3 := Aside0.mk (zq_pcut r s (x + z) (y + u) f1 f2 (by have := H.out; omega) (by have := H.out; omega) (by have := H.out; omega) (by have := H.out; omega)); clear e1 f1 f2 ha1 hb1 hc1 hd1; go_wp2_with (go_at_call 39; refine (C3.out _).mono ?_; rintro e w3 ⟨rfl, hb⟩; replace HB := Aside0.mk (below_step HB.out hb); clear hb)))
  go_ret
  exact ⟨rfl, HB.out⟩
def point_Add.f (p q : VPt) : Option VPt := some (vcut p.1 + vcut q.1, vcut p.2 + vcut q.2)
theorem point_Add.calls (p q : VPt) (r : VPt) (w : World) (h : point_Add.f p q = some r) : Calls Try.prog 25 #[vpt2 p, vpt2 q] w fun e w' => e = .returned (vpt2 r) ∧ Below w.heap.size w w' := by
  obtain rfl := Option.some.inj h
  exact zq_Add _ _ _ _ _ _ _ _ (isW_cut p.1) (isW_cut p.2) (isW_cut q.1) (isW_cut q.2) (fcut_bd _) (fcut_bd _) (fcut_bd _) (fcut_bd _) w

/-! ### point_Sub: function 26 -/
set_option maxHeartbeats 4000000 in
theorem zq_Sub (a b c d : Nat) (x y z u : Int) (ha : IsW a x) (hb : IsW b y) (hc : IsW c z) (hd : IsW d u) (h1 : -1099511627776 ≤ x ∧ x ≤ 1099511627776) (h2 : -1099511627776 ≤ y ∧ y ≤ 1099511627776) (h3 : -1099511627776 ≤ z ∧ z ≤ 1099511627776) (h4 : -1099511627776 ≤ u ∧ u ≤ 1099511627776) (w : World) :
    Calls Try.prog 26 #[.complex .f64 a b, .complex .f64 c d] w fun e w' => e = .returned (vpt2 (x - z, y - u)) ∧ Below w.heap.size w w' := by
  have HB := Aside0.mk (Below.refl w.heap.size w)
  have C1 := Aside0.mk (zq_sound a b x y ha hb h1.1 h1.2 h2.1 h2.2)
  have C2 := Aside0.mk (zq_sound c d z u hc hd h3.1 h3.2 h4.1 h4.2)
  have H := Aside0.mk (And.intro h1 (And.intro h2 (And.intro h3 h4)))
  clear ha hb hc hd h1 h2 h3 h4
  go_enter Try.func26, Try.ntmps26
  go_wp2_with (go_at_call 40; refine (C1.out _).mono ?_; rintro e w1 ⟨⟨a1, b1, rfl, ha1, hb1⟩, hb⟩; replace HB := Aside0.mk (below_step HB.out hb); clear hb; go_wp2_with (go_at_call 40; refine (C2.out _).mono ?_; rintro e w2 ⟨⟨c1, d1, rfl, hc1, hd1⟩, hb⟩; replace HB := Aside0.mk (below_step HB.out hb); clear hb; obtain ⟨r, s, e1, f1, f2⟩ := isW_csub ha1 hb1 hc1 hd1 (by have := H.out; omega) (by have := H.out; omega); have k1 : ∀ w, (binOp .sub 39 (.complex .f64 a1 b1) (.complex .f64 c1 d1)).run Try.prog w = .ok (.complex .f64 r s) w := fun w => run_complex_sum w .sub (.inr rfl) _ .f64 _ _ _ _ _ _ e1; have C3 := Aside0.mk (zq_pcut r s (x - z) (y - u) f1 f2 (by have := H.out; omega) (by have := H.out; omega) (by have := H.out; omega) (by have := H.out; omega)); clear e1 f1 f2 ha1 hb1 hc1 hd1; go_wp2_with (go_at_call 39; refine (C3.out _).mono ?_; rintro e w3 ⟨rfl, hb⟩; replace HB := Aside0.mk (below_step HB.out hb); clear hb)))
  go_ret
  exact ⟨rfl, HB.out⟩
def point_Sub.f (p q : VPt) : Option VPt := some (vcut p.1 - vcut q.1, vcut p.2 - vcut q.2)
theorem point_Sub.calls (p q : VPt) (r : VPt) (w : World) (h : point_Sub.f p q = some r) : Calls Try.prog 26 #[vpt2 p, vpt2 q] w fun e w' => e = .returned (vpt2 r) ∧ Below w.heap.size w w' := by
  obtain rfl := Option.some.inj h
  exact zq_Sub _ _ _ _ _ _ _ _ (isW_cut p.1) (isW_cut p.2) (isW_cut q.1) (isW_cut q.2) (fcut_bd _) (fcut_bd _) (fcut_bd _) (fcut_bd _) w

/-! ### point_conj: function 41 -/
set_option maxHeartbeats 4000000 in
theorem zq_conj (a b : Nat) (x y : Int) (ha : IsW a x) (hb : IsW b y) (w : World) :
    Calls Try.prog 41 #[.complex .f64 a b] w fun e w' => (∃ c d, e = .returned (.complex .f64 c d) ∧ IsW c x ∧ IsW d (-y)) ∧ Below w.heap.size w w' := by
  have HB := Aside0.mk (Below.refl w.heap.size w)
  have F := Aside0.mk (And.intro ha (isW_neg hb))
  have u1 : ∀ w, (Op.unary .neg (.float .f64 b)).run Try.prog w = .ok (.float .f64 (Go.Op.negFloat .f64 b)) w := fun _ => rfl
  clear ha hb
  go_enter Try.func41, Try.ntmps41
  go_wp2
  go_ret
  exact ⟨⟨_, _, rfl, F.out.1, F.out.2⟩, HB.out⟩

/-! ### point_Turn: function 27 -/
set_option maxHeartbeats 4000000 in
theorem zq_Turn (a b : Nat) (x y : Int) (ha : IsW a x) (hb : IsW b y) (h1 : -1099511627776 ≤ x ∧ x ≤ 1099511627776) (h2 : -1099511627776 ≤ y ∧ y ≤ 1099511627776) (w : World) :
    Calls Try.prog 27 #[.complex .f64 a b] w fun e w' => e = .returned (vpt2 (y, x)) ∧ Below w.heap.size w w' := by
  have HB := Aside0.mk (Below.refl w.heap.size w)
  have C1 := Aside0.mk (zq_sound a b x y ha hb h1.1 h1.2 h2.1 h2.2)
  have H := Aside0.mk (And.intro h1 h2)
  clear ha hb h1 h2
  go_enter Try.func27, Try.ntmps27
  go_wp2_with (go_at_call 40; refine (C1.out _).mono ?_; rintro e w1 ⟨⟨a1, b1, rfl, ha1, hb1⟩, hb⟩; replace HB := Aside0.mk (below_step HB.out hb); clear hb; have C2 := Aside0.mk (zq_conj a1 b1 x y ha1 hb1); clear ha1 hb1; go_wp2_with (go_at_call 41; refine (C2.out _).mono ?_; rintro e w2 ⟨⟨c1, d1, rfl, hc1, hd1⟩, hb⟩; replace HB := Aside0.mk (below_step HB.out hb); clear hb; obtain ⟨r, s, e1, f1, f2⟩ := isW_muli hc1 hd1 (by have := H.out; omega) (by have := H.out; omega); rw [Int.neg_neg] at f1; have k1 : ∀ w, (binOp .mul 39 (.complex .f64 c1 d1) (.complex .f64 0 4607182418800017408)).run Try.prog w = .ok (.complex .f64 r s) w := fun w => run_complex_mul w _ _ _ _ _ _ _ e1; have C3 := Aside0.mk (zq_pcut r s y x f1 f2 (by have := H.out; omega) (by have := H.out; omega) (by have := H.out; omega) (by have := H.out; omega)); clear e1 f1 f2 hc1 hd1; go_wp2_with (go_at_call 39; refine (C3.out _).mono ?_; rintro e w3 ⟨rfl, hb⟩; replace HB := Aside0.mk (below_step HB.out hb); clear hb)))
  go_ret
  exact ⟨rfl, HB.out⟩
def point_Turn.f (p : VPt) : Option VPt := some (vcut p.2, vcut p.1)
theorem point_Turn.calls (p : VPt) (r : VPt) (w : World) (h : point_Turn.f p = some r) : Calls Try.prog 27 #[vpt2 p] w fun e w' => e = .returned (vpt2 r) ∧ Below w.heap.size w w' := by
  obtain rfl := Option.some.inj h
  exact zq_Turn _ _ _ _ (isW_cut p.1) (isW_cut p.2) (fcut_bd _) (fcut_bd _) w

/-! ### point_Flip: function 28 -/
set_option maxHeartbeats 4000000 in
theorem zq_Flip (a b : Nat) (x y : Int) (ha : IsW a x) (hb : IsW b y) (h1 : -1099511627776 ≤ x ∧ x ≤ 1099511627776) (h2 : -1099511627776 ≤ y ∧ y ≤ 1099511627776) (w : World) :
    Calls Try.prog 28 #[.complex .f64 a b] w fun e w' => e = .returned (vpt2 (-x, y)) ∧ Below w.heap.size w w' := by
  have HB := Aside0.mk (Below.refl w.heap.size w)
  have C1 := Aside0.mk (zq_sound a b x y ha hb h1.1 h1.2 h2.1 h2.2)
  have H := Aside0.mk (And.intro h1 h2)
  clear ha hb h1 h2
  go_enter Try.func28, Try.ntmps28
  go_wp2_with (go_at_call 40; refine (C1.out _).mono ?_; rintro e w1 ⟨⟨a1, b1, rfl, ha1, hb1⟩, hb⟩; replace HB := Aside0.mk (below_step HB.out hb); clear hb; have C2 := Aside0.mk (zq_conj a1 b1 x y ha1 hb1); clear ha1 hb1; go_wp2_with (go_at_call 41; refine (C2.out _).mono ?_; rintro e w2 ⟨⟨c1, d1, rfl, hc1, hd1⟩, hb⟩; replace HB := Aside0.mk (below_step HB.out hb); clear hb; have f2 := isW_neg hd1; rw [Int.neg_neg] at f2; have u1 : ∀ w, (Op.unary .neg (.complex .f64 c1 d1)).run Try.prog w = .ok (.complex .f64 (Go.Op.negFloat .f64 c1) (Go.Op.negFloat .f64 d1)) w := fun _ => rfl; have C3 := Aside0.mk (zq_pcut (Go.Op.negFloat .f64 c1) (Go.Op.negFloat .f64 d1) (-x) y (isW_neg hc1) f2 (by have := H.out; omega) (by have := H.out; omega) (by have := H.out; omega) (by have := H.out; omega)); clear f2 hc1 hd1; go_wp2_with (go_at_call 39; refine (C3.out _).mono ?_; rintro e w3 ⟨rfl, hb⟩; replace HB := Aside0.mk (below_step HB.out hb); clear hb)))
  go_ret
  exact ⟨rfl, HB.out⟩
def point_Flip.f (p : VPt) : Option VPt := some (-vcut p.1, vcut p.2)
theorem point_Flip.calls (p : VPt) (r : VPt) (w : World) (h : point_Flip.f p = some r) : Calls Try.prog 28 #[vpt2 p] w fun e w' => e = .returned (vpt2 r) ∧ Below w.heap.size w w' := by
  obtain rfl := Option.some.inj h
  exact zq_Flip _ _ _ _ (isW_cut p.1) (isW_cut p.2) (fcut_bd _) (fcut_bd _) w

/-! ### point_X: function 29 -/
set_option maxHeartbeats 4000000 in
theorem zq_X (a b : Nat) (x y : Int) (ha : IsW a x) (hb : IsW b y) (h1 : -1099511627776 ≤ x ∧ x ≤ 1099511627776) (h2 : -1099511627776 ≤ y ∧ y ≤ 1099511627776) (w : World) :
    Calls Try.prog 29 #[.complex .f64 a b] w fun e w' => e = .returned (.int .i64 x) ∧ Below w.heap.size w w' := by
  have HB := Aside0.mk (Below.refl w.heap.size w)
  have C1 := Aside0.mk (zq_sound a b x y ha hb h1.1 h1.2 h2.1 h2.2)
  have H := Aside0.mk (And.intro h1 h2)
  clear ha hb h1 h2
  go_enter Try.func29, Try.ntmps29
  go_wp2_with (go_at_call 40; refine (C1.out _).mono ?_; rintro e w1 ⟨⟨a1, b1, rfl, ha1, hb1⟩, hb⟩; replace HB := Aside0.mk (below_step HB.out hb); clear hb; have c1 : ∀ w, (convert 51 3 (.float .f64 a1)).run Try.prog w = .ok (.int .i64 x) w := fun w => run_convert_float_int _ _ _ _ _ _ _ (by kernel_rfl) (by kernel_rfl) (isW_int ha1 (by have := H.out; omega) (by have := H.out; omega)); clear ha1 hb1)
  go_ret
  exact ⟨rfl, HB.out⟩
def point_X.f (p : VPt) : Option Int := some (vcut p.1)
theorem point_X.calls (p : VPt) (r : Int) (w : World) (h : point_X.f p = some r) : Calls Try.prog 29 #[vpt2 p] w fun e w' => e = .returned (.int .i64 r) ∧ Below w.heap.size w w' := by
  obtain rfl := Option.some.inj h
  exact zq_X _ _ _ _ (isW_cut p.1) (isW_cut p.2) (fcut_bd _) (fcut_bd _) w

/-! ### point_Y: function 30 -/
set_option maxHeartbeats 4000000 in
theorem zq_Y (a b : Nat) (x y : Int) (ha : IsW a x) (hb : IsW b y) (h1 : -1099511627776 ≤ x ∧ x ≤ 1099511627776) (h2 : -1099511627776 ≤ y ∧ y ≤ 1099511627776) (w : World) :
    Calls Try.prog 30 #[.complex .f64 a b] w fun e w' => e = .returned (.int .i64 y) ∧ Below w.heap.size w w' := by
  have HB := Aside0.mk (Below.refl w.heap.size w)
  have C1 := Aside0.mk (zq_sound a b x y ha hb h1.1 h1.2 h2.1 h2.2)
  have H := Aside0.mk (And.intro h1 h2)
  clear ha hb h1 h2
  go_enter Try.func30, Try.ntmps30
  go_wp2_with (go_at_call 40; refine (C1.out _).mono ?_; rintro e w1 ⟨⟨a1, b1, rfl, ha1, hb1⟩, hb⟩; replace HB := Aside0.mk (below_step HB.out hb); clear hb; have c1 : ∀ w, (convert 51 3 (.float .f64 b1)).run Try.prog w = .ok (.int .i64 y) w := fun w => run_convert_float_int _ _ _ _ _ _ _ (by kernel_rfl) (by kernel_rfl) (isW_int hb1 (by have := H.out; omega) (by have := H.out; omega)); clear ha1 hb1)
  go_ret
  exact ⟨rfl, HB.out⟩
def point_Y.f (p : VPt) : Option Int := some (vcut p.2)
theorem point_Y.calls (p : VPt) (r : Int) (w : World) (h : point_Y.f p = some r) : Calls Try.prog 30 #[vpt2 p] w fun e w' => e = .returned (.int .i64 r) ∧ Below w.heap.size w w' := by
  obtain rfl := Option.some.inj h
  exact zq_Y _ _ _ _ (isW_cut p.1) (isW_cut p.2) (fcut_bd _) (fcut_bd _) w

/-! ### point_Within: function 38 -/
theorem zq_clamp (a b c : Int) (w : World) : Calls Try.prog 35 #[.int .i64 a, .int .i64 b, .int .i64 c] w fun e w' => e = .returned (.int .i64 (vclamp a b c)) ∧ Below w.heap.size w w' := fix_Clamp.calls a b c _ w (fix_Clamp_eq a b c)
set_option maxHeartbeats 4000000 in
theorem zq_Within (p q r : VPt) (w : World) : Calls Try.prog 38 #[vpt2 p, vpt2 q, vpt2 r] w fun e w' => e = .returned (vpt2 (vclamp (vcut p.1) (vcut q.1) (vcut r.1), vclamp (vcut p.2) (vcut q.2) (vcut r.2))) ∧ Below w.heap.size w w' := by
  have HB := Aside0.mk (Below.refl w.heap.size w)
  go_enter Try.func38, Try.ntmps38
  go_wp2_with (first | (go_at_call 29; refine (point_X.calls _ _ _ rfl).mono ?_; rintro e w1 ⟨rfl, hb⟩; replace HB := Aside0.mk (below_step HB.out hb); clear hb) | (go_at_call 30; refine (point_Y.calls _ _ _ rfl).mono ?_; rintro e w1 ⟨rfl, hb⟩; replace HB := Aside0.mk (below_step HB.out hb); clear hb) | (go_at_call 35; refine (zq_clamp _ _ _ _).mono ?_; rintro e w1 ⟨rfl, hb⟩; replace HB := Aside0.mk (below_step HB.out hb); clear hb) | (go_at_call 24; refine (zq_of _ _ _).mono ?_; rintro e w1 ⟨rfl, hb⟩; replace HB := Aside0.mk (below_step HB.out hb); clear hb))
  go_ret
  exact ⟨rfl, HB.out⟩
def point_Within.f (p q r : VPt) : Option VPt := some (vclamp (vcut p.1) (vcut q.1) (vcut r.1), vclamp (vcut p.2) (vcut q.2) (vcut r.2))
theorem point_Within.calls (p q r : VPt) (s : VPt) (w : World) (h : point_Within.f p q r = some s) : Calls Try.prog 38 #[vpt2 p, vpt2 q, vpt2 r] w fun e w' => e = .returned (vpt2 s) ∧ Below w.heap.size w w' := by
  obtain rfl := Option.some.inj h
  exact zq_Within p q r w

end Go.Proofs.Ytnmcefpnpfaklaa.V
