/- What the functions of this seat answer, as plain Lean functions, and that the calls come to just that (written by a program of this repo, over the kit's printer; Lean checks it). -/
import Derived.Test.YtnmcefpnpfaklaeVx0
import Derived.Test.YtnmcefpnpfaklaeVx2
import Derived.Test.YtnmcefpnpfaklaeVx3
import Derived.Test.YtnmcefpnpfaklaeVx4
namespace Go.Proofs.Ytnmcefpnpfaklae.V
open Go.RowKit Go.Proofs.Ytnmcefpnpfaklae.Flt Go.Proofs.YtnmcefpnpfaklaeW.PrintWords Go.Proofs.YtnmcefpnpfaklaeW.PrintLast Go.Proofs.YtnmcefpnpfaklaeW.PrintMore
attribute [local go_sem high] run_eql_vpt2 run_neq_vpt2 eqGuard_vpt2 vpt2_zero run_add_vpt2
attribute [local go_sem] max2_int min2_int max_two min_two max_three min_three max_four min_four   -- for this text's walks alone
set_option linter.unusedVariables false
set_option linter.unusedSimpArgs false

/-! ### rect_Outset: function 9 -/
theorem zo_cut (a : Int) (w : World) : Calls Try.prog 21 #[.int .i64 a] w fun e w' => e = .returned (.int .i64 (vcut a)) ∧ Below w.heap.size w w' := fix_Cut.calls a _ w (fix_Cut_eq a)
def vng (a : Int) : Int := wrap64 (-vcut a)
theorem vng_eq (a : Int) : vng a = -vcut a := by have := vcut_bd a; exact w64 (by omega) (by omega)
def OutR (k : Nat) (x y u v s0 s1 s2 s3 : Int) (w W : World) : Prop :=
  W.heap[w.heap.size]? = some (.cells #[.int .i64 x, .int .i64 y, .int .i64 u, .int .i64 v] 23 (0, 0)) ∧
  W.heap[w.heap.size + 1]? = some (.cells #[.int .i64 (if 0 < k then vng s0 else s0), .int .i64 (if 1 < k then vng s1 else s1), .int .i64 (if 2 < k then vng s2 else s2), .int .i64 (if 3 < k then vng s3 else s3)] 24 (0, 0)) ∧
  W.heap[w.heap.size + 1 + 1]? = some (.cells #[.int .i64 0, .int .i64 0, .int .i64 0, .int .i64 0] 23 (0, 0)) ∧ Below w.heap.size w W
def OutL (x y u v s0 s1 s2 s3 : Int) (w : World) (i : Value) (W : World) : Prop :=
  (i = .int .i64 0 ∧ OutR 0 x y u v s0 s1 s2 s3 w W) ∨ (i = .int .i64 1 ∧ OutR 1 x y u v s0 s1 s2 s3 w W) ∨ (i = .int .i64 2 ∧ OutR 2 x y u v s0 s1 s2 s3 w W) ∨ (i = .int .i64 3 ∧ OutR 3 x y u v s0 s1 s2 s3 w W) ∨ (i = .int .i64 4 ∧ OutR 4 x y u v s0 s1 s2 s3 w W)
theorem OutR.start (x y u v s0 s1 s2 s3 : Int) (w : World) : OutR 0 x y u v s0 s1 s2 s3 w (((w.alloc (.cells #[.int .i64 x, .int .i64 y, .int .i64 u, .int .i64 v] 23)).alloc (.cells #[.int .i64 s0, .int .i64 s1, .int .i64 s2, .int .i64 s3] 24)).alloc (.cells #[.int .i64 0, .int .i64 0, .int .i64 0, .int .i64 0] 23)) := by
  have B0 := blk_alloc (blk_alloc (blk_new w (.cells #[.int .i64 x, .int .i64 y, .int .i64 u, .int .i64 v] 23)) (.cells #[.int .i64 s0, .int .i64 s1, .int .i64 s2, .int .i64 s3] 24)) (.cells #[.int .i64 0, .int .i64 0, .int .i64 0, .int .i64 0] 23)
  have B1 := blk_alloc (blk_new (w.alloc (.cells #[.int .i64 x, .int .i64 y, .int .i64 u, .int .i64 v] 23)) (.cells #[.int .i64 s0, .int .i64 s1, .int .i64 s2, .int .i64 s3] 24)) (.cells #[.int .i64 0, .int .i64 0, .int .i64 0, .int .i64 0] 23)
  have B2 := blk_new ((w.alloc (.cells #[.int .i64 x, .int .i64 y, .int .i64 u, .int .i64 v] 23)).alloc (.cells #[.int .i64 s0, .int .i64 s1, .int .i64 s2, .int .i64 s3] 24)) (.cells #[.int .i64 0, .int .i64 0, .int .i64 0, .int .i64 0] 23)
  simp only [World.size_alloc] at B1 B2
  exact ⟨B0, B1, B2, below_alloc (below_alloc (below_alloc (Below.refl _ _) _) _) _⟩
theorem OutR.below {k : Nat} {x y u v s0 s1 s2 s3 : Int} {w W W1 : World} (h : OutR k x y u v s0 s1 s2 s3 w W) (hb : Below W.heap.size W W1) : OutR k x y u v s0 s1 s2 s3 w W1 := ⟨blk_below h.1 hb, blk_below h.2.1 hb, blk_below h.2.2.1 hb, below_step h.2.2.2 hb⟩
theorem OutR.put {k : Nat} {x y u v s0 s1 s2 s3 : Int} {w W : World} (h : OutR k x y u v s0 s1 s2 s3 w W) (z : Value)
    (e : (#[.int .i64 (if 0 < k then vng s0 else s0), .int .i64 (if 1 < k then vng s1 else s1), .int .i64 (if 2 < k then vng s2 else s2), .int .i64 (if 3 < k then vng s3 else s3)] : Array Value).setIfInBounds k z = #[.int .i64 (if 0 < k + 1 then vng s0 else s0), .int .i64 (if 1 < k + 1 then vng s1 else s1), .int .i64 (if 2 < k + 1 then vng s2 else s2), .int .i64 (if 3 < k + 1 then vng s3 else s3)]) :
    OutR (k + 1) x y u v s0 s1 s2 s3 w (W.setCell ⟨w.heap.size + 1, k, none⟩ z) :=
  ⟨blk_far h.1 (by show w.heap.size ≠ w.heap.size + 1; omega) _, blk_put h.2.1 k z e, blk_far h.2.2.1 (by show w.heap.size + 1 + 1 ≠ w.heap.size + 1; omega) _, below_set h.2.2.2 (by omega)⟩
set_option maxHeartbeats 8000000 in
theorem zo_outset (x y u v s0 s1 s2 s3 r1 r2 r3 r4 : Int) (w : World) (h : rect_Inset.f x y u v (vng s0) (vng s1) (vng s2) (vng s3) = some (r1, r2, r3, r4)) : Calls Try.prog 9 #[.agg #[.int .i64 x, .int .i64 y, .int .i64 u, .int .i64 v], .agg #[.int .i64 s0, .int .i64 s1, .int .i64 s2, .int .i64 s3]] w fun e w' => e = .returned (.agg #[.int .i64 r1, .int .i64 r2, .int .i64 r3, .int .i64 r4]) ∧ Below w.heap.size w w' := by
  have huA := Try.underlying23
  have huB := Try.underlying24
  have HS := Aside0.mk (OutR.start x y u v s0 s1 s2 s3 w)
  have HI := Aside0.mk h
  clear h
  go_enter Try.func9, Try.ntmps9
  go_wp2
  go_loopw [6] (fun i W => OutL x y u v s0 s1 s2 s3 w i W) (fun i _ => 4 - (intOf i).toNat)
  case atStart => exact .inl ⟨rfl, HS.out⟩
  case round =>
    rcases hrel with ⟨rfl, hR⟩ | ⟨rfl, hR⟩ | ⟨rfl, hR⟩ | ⟨rfl, hR⟩ | ⟨rfl, hR⟩
    · have HR := Aside0.mk hR
      have hc0 : wr.cell? ⟨w.heap.size + 1, 0, none⟩ = some (.int .i64 s0) := (blk_cell HR.out.2.1 0).trans rfl
      clear hR HS
      go_wp2_with (go_at_call 21; refine (zo_cut _ _).mono ?_; rintro e w1 ⟨rfl, hb⟩; have HR1 := Aside0.mk (OutR.below HR.out hb); have hc : w1.cell? ⟨w.heap.size + 1, 0, none⟩ = some (.int .i64 s0) := (blk_cell HR1.out.2.1 0).trans rfl; have hf := blk_frozen HR1.out.2.1 0; clear HR hb hc0)
      go_roundw
      case rel => exact .inr (.inl ⟨rfl, OutR.put HR1.out _ rfl⟩)
      case measure => simp [intOf]
    · have HR := Aside0.mk hR
      have hc0 : wr.cell? ⟨w.heap.size + 1, 1, none⟩ = some (.int .i64 s1) := (blk_cell HR.out.2.1 1).trans rfl
      clear hR HS
      go_wp2_with (go_at_call 21; refine (zo_cut _ _).mono ?_; rintro e w1 ⟨rfl, hb⟩; have HR1 := Aside0.mk (OutR.below HR.out hb); have hc : w1.cell? ⟨w.heap.size + 1, 1, none⟩ = some (.int .i64 s1) := (blk_cell HR1.out.2.1 1).trans rfl; have hf := blk_frozen HR1.out.2.1 1; clear HR hb hc0)
      go_roundw
      case rel => exact .inr (.inr (.inl ⟨rfl, OutR.put HR1.out _ rfl⟩))
      case measure => simp [intOf]
    · have HR := Aside0.mk hR
      have hc0 : wr.cell? ⟨w.heap.size + 1, 2, none⟩ = some (.int .i64 s2) := (blk_cell HR.out.2.1 2).trans rfl
      clear hR HS
      go_wp2_with (go_at_call 21; refine (zo_cut _ _).mono ?_; rintro e w1 ⟨rfl, hb⟩; have HR1 := Aside0.mk (OutR.below HR.out hb); have hc : w1.cell? ⟨w.heap.size + 1, 2, none⟩ = some (.int .i64 s2) := (blk_cell HR1.out.2.1 2).trans rfl; have hf := blk_frozen HR1.out.2.1 2; clear HR hb hc0)
      go_roundw
      case rel => exact .inr (.inr (.inr (.inl ⟨rfl, OutR.put HR1.out _ rfl⟩)))
      case measure => simp [intOf]
    · have HR := Aside0.mk hR
      have hc0 : wr.cell? ⟨w.heap.size + 1, 3, none⟩ = some (.int .i64 s3) := (blk_cell HR.out.2.1 3).trans rfl
      clear hR HS
      go_wp2_with (go_at_call 21; refine (zo_cut _ _).mono ?_; rintro e w1 ⟨rfl, hb⟩; have HR1 := Aside0.mk (OutR.below HR.out hb); have hc : w1.cell? ⟨w.heap.size + 1, 3, none⟩ = some (.int .i64 s3) := (blk_cell HR1.out.2.1 3).trans rfl; have hf := blk_frozen HR1.out.2.1 3; clear HR hb hc0)
      go_roundw
      case rel => exact .inr (.inr (.inr (.inr (⟨rfl, OutR.put HR1.out _ rfl⟩))))
      case measure => simp [intOf]
    · have HR := Aside0.mk hR
      have c0 : wr.cell? ⟨w.heap.size, 0, none⟩ = some (.int .i64 x) := (blk_cell hR.1 0).trans rfl
      have c1 : wr.cell? ⟨w.heap.size, 1, none⟩ = some (.int .i64 y) := (blk_cell hR.1 1).trans rfl
      have c2 : wr.cell? ⟨w.heap.size, 2, none⟩ = some (.int .i64 u) := (blk_cell hR.1 2).trans rfl
      have c3 : wr.cell? ⟨w.heap.size, 3, none⟩ = some (.int .i64 v) := (blk_cell hR.1 3).trans rfl
      have d0 : wr.cell? ⟨w.heap.size + 1, 0, none⟩ = some (.int .i64 (vng s0)) := (blk_cell hR.2.1 0).trans rfl
      have d1 : wr.cell? ⟨w.heap.size + 1, 1, none⟩ = some (.int .i64 (vng s1)) := (blk_cell hR.2.1 1).trans rfl
      have d2 : wr.cell? ⟨w.heap.size + 1, 2, none⟩ = some (.int .i64 (vng s2)) := (blk_cell hR.2.1 2).trans rfl
      have d3 : wr.cell? ⟨w.heap.size + 1, 3, none⟩ = some (.int .i64 (vng s3)) := (blk_cell hR.2.1 3).trans rfl
      have g0 : wr.cell? ⟨w.heap.size + 1 + 1, 0, none⟩ = some (.int .i64 0) := (blk_cell hR.2.2.1 0).trans rfl
      have g1 : wr.cell? ⟨w.heap.size + 1 + 1, 1, none⟩ = some (.int .i64 0) := (blk_cell hR.2.2.1 1).trans rfl
      have g2 : wr.cell? ⟨w.heap.size + 1 + 1, 2, none⟩ = some (.int .i64 0) := (blk_cell hR.2.2.1 2).trans rfl
      have g3 : wr.cell? ⟨w.heap.size + 1 + 1, 3, none⟩ = some (.int .i64 0) := (blk_cell hR.2.2.1 3).trans rfl
      have f0 := blk_frozen hR.2.2.1 0
      have f1 := blk_frozen hR.2.2.1 1
      have f2 := blk_frozen hR.2.2.1 2
      have f3 := blk_frozen hR.2.2.1 3
      clear hR HS
      go_wp2_with (go_at_call 8; refine (rect_Inset.calls _ _ _ _ _ _ _ _ _ _ _ _ _ HI.out).mono ?_; rintro e w1 ⟨rfl, hb⟩; have HR1 := Aside0.mk (OutR.below HR.out hb); have e0 : w1.cell? ⟨w.heap.size + 1 + 1, 0, none⟩ = some (.int .i64 0) := (blk_cell HR1.out.2.2.1 0).trans rfl; have ff0 := blk_frozen HR1.out.2.2.1 0; have e1 : w1.cell? ⟨w.heap.size + 1 + 1, 1, none⟩ = some (.int .i64 0) := (blk_cell HR1.out.2.2.1 1).trans rfl; have ff1 := blk_frozen HR1.out.2.2.1 1; have e2 : w1.cell? ⟨w.heap.size + 1 + 1, 2, none⟩ = some (.int .i64 0) := (blk_cell HR1.out.2.2.1 2).trans rfl; have ff2 := blk_frozen HR1.out.2.2.1 2; have e3 : w1.cell? ⟨w.heap.size + 1 + 1, 3, none⟩ = some (.int .i64 0) := (blk_cell HR1.out.2.2.1 3).trans rfl; have ff3 := blk_frozen HR1.out.2.2.1 3; clear HR hb)
      have b1 := blk_set (blk_set (blk_set (blk_set HR1.out.2.2.1 0 (.int .i64 r1)) 1 (.int .i64 r2)) 2 (.int .i64 r3)) 3 (.int .i64 r4)
      refine bodyPost_ret (results_cell_row rfl _ _ (w.heap.size + 1 + 1) 23 #[.int .i64 r1, .int .i64 r2, .int .i64 r3, .int .i64 r4] (0, 0) _ rfl (by simpa using b1) Try.underlying23 rfl (by kernel_rfl)) rfl ?_
      exact ⟨rfl, below_set (below_set (below_set (below_set HR1.out.2.2.2 (by omega)) (by omega)) (by omega)) (by omega)⟩
def rect_Outset.f (x y u v s0 s1 s2 s3 : Int) : Option (Int × Int × Int × Int) := rect_Inset.f x y u v (-vcut s0) (-vcut s1) (-vcut s2) (-vcut s3)
theorem rect_Outset.calls (x y u v s0 s1 s2 s3 r1 r2 r3 r4 : Int) (w : World) (h : rect_Outset.f x y u v s0 s1 s2 s3 = some (r1, r2, r3, r4)) :
    Calls Try.prog 9 #[.agg #[.int .i64 x, .int .i64 y, .int .i64 u, .int .i64 v], .agg #[.int .i64 s0, .int .i64 s1, .int .i64 s2, .int .i64 s3]] w fun e w' => e = .returned (.agg #[.int .i64 r1, .int .i64 r2, .int .i64 r3, .int .i64 r4]) ∧ Below w.heap.size w w' := by
  refine zo_outset x y u v s0 s1 s2 s3 r1 r2 r3 r4 w ?_
  rw [vng_eq, vng_eq, vng_eq, vng_eq]
  exact h

/-! ### span_Of: function 29 -/
def span_Of.f (a0 : Int) (a1 : Int) : Option (Int × Int) := (fix_Cut.f a0).bind fun t118 => ((fix_Add.f a0 (mx a1 0)).bind fun t119 => (some (t118, t119)))
set_option maxHeartbeats 8000000 in
set_option maxRecDepth 100000 in
theorem span_Of.calls (a0 : Int) (a1 : Int) (r1 : Int) (r2 : Int) (w : World) (h : span_Of.f a0 a1 = some (r1, r2)) :
    Calls Try.prog 29 #[.int .i64 a0, .int .i64 a1] w fun e w' => e = .returned (.agg #[.int .i64 r1, .int .i64 r2]) ∧ Below w.heap.size w w' := by
  have hu36 := Try.underlying36
  have HB := Aside0.mk (Below.refl w.heap.size w)
  have H : ((fix_Cut.f a0).bind fun t118 => ((fix_Add.f a0 (mx a1 0)).bind fun t119 => (some (t118, t119)))) = some (r1, r2) := h
  clear h
  replace H := Option.bind_eq_some_iff.mp H
  obtain ⟨t118, A30, H⟩ := H
  replace H : ((fix_Add.f a0 (mx a1 0)).bind fun t119 => (some (t118, t119))) = some (r1, r2) := H
  have A3 := Aside0.mk A30
  clear A30
  obtain ⟨ji4, hji4⟩ : ∃ j_ : Int, (mx a1 0) = j_ := ⟨_, rfl⟩
  replace H : ((fix_Add.f a0 (ji4)).bind fun t119 => (some (t118, t119))) = some (r1, r2) := by first | (rw [hji4] at H; exact H) | (simp only [hji4] at H ⊢; exact H)
  (try rw [hji4] at A3)
  (try (have hji4l : 0 ≤ ji4 := by (rw [← hji4]; unfold mx; (repeat' split) <;> omega)))
  (try (have hji4m : 0 ≤ ji4 := by omega))
  have hji4_ : (if a1 < 0 then 0 else a1) = ji4 := hji4
  replace H := Option.bind_eq_some_iff.mp H
  obtain ⟨t119, A50, H⟩ := H
  replace H : (some (t118, t119)) = some (r1, r2) := H
  have A5 := Aside0.mk A50
  clear A50
  simp only [Option.some.injEq, Prod.mk.injEq] at H
  obtain ⟨rfl, rfl⟩ := H
  go_enter Try.func29, Try.ntmps29
  go_wp2_with (first | ((with_reducible refine gate_dst (N := 4) rfl ?_); refine box_event ?hg (N := 4) ?hd (cs := #[.int .i64 0, .int .i64 0]) (t := 36) ?hr ?_; (case hd => rfl); (case hg => rfl); (case hr => first | (go_simp; done) | (go_simp; rfl)); intro gb117 hg w6 hbox hb; have n0_ := Aside0.mk (below_step (by repeat (first | (with_reducible first | exact HB.out | apply below_alloc | apply pw_below_drewN | apply below_drew1) | exact HB.out)) hb); have n1_ := Aside0.mk (hbox); have n2_ := Aside0.mk ((by rw [hg]; exact (below_size (by repeat (first | (with_reducible first | exact HB.out | apply below_alloc | apply pw_below_drewN | apply below_drew1) | exact HB.out))) : w.heap.size ≤ gb117)); have n3_ := Aside0.mk ((by rw [hg]; exact (below_size (by repeat (first | (with_reducible first | exact HB.out | apply below_alloc | apply pw_below_drewN | apply below_drew1) | exact HB.out))) : w.heap.size ≤ gb117)); clear HB; have HB := n0_; have BK117 := n1_; have GW117 := n2_; have GE117 := n3_; clear n0_ n1_ n2_ n3_; clear hb hbox hg) | ((with_reducible refine gate_callee (f := 21) rfl ?_); refine goesL_ (some 6) rfl rfl Try.func21 (by kernel_rfl) rfl #[.int .i64 a0] rfl (by (try simp only [List.map_toArray, List.map_cons, List.map_nil]); first | done | rfl | (simp only [List.length_drop, List.length_take]; rfl)) ?_; (with_reducible refine (fix_Cut.calls a0 t118 _ A3.out).mono ?_); rintro e w7 ⟨rfl, hb⟩; refine ⟨_, rfl, ?_⟩; have n0_ := Aside0.mk (blk_below (g := gb117) (o := .cells #[.int .i64 0, .int .i64 0] 36 (0, 0)) (by (with_reducible repeat (first | refine blk_drewN ?_ _ | refine blk_drew ?_ | refine blk_alloc ?_ _)); exact BK117.out) hb); have n1_ := Aside0.mk (below_step (by repeat (first | (with_reducible first | exact HB.out | apply below_alloc | apply pw_below_drewN | apply below_drew1 | refine below_set ?_ GE117.out) | exact HB.out)) hb); clear BK117; clear HB; have BK117 := n0_; have HB := n1_; clear n0_ n1_; (try clear hb); (try clear hb2); (try clear hk); (try clear hi)) | ((with_reducible refine gate_callee (f := 34) rfl ?_); refine goesL_ (some 10) rfl rfl Try.func34 (by kernel_rfl) rfl #[.int .i64 a0, .int .i64 ji4] rfl (by (try simp only [List.map_toArray, List.map_cons, List.map_nil]); first | done | (simp only [hji4]; rfl) | rfl | (simp only [List.length_drop, List.length_take]; rfl)) ?_; (with_reducible refine (fix_Add.calls a0 ji4 t119 _ A5.out).mono ?_); rintro e w8 ⟨rfl, hb⟩; refine ⟨_, rfl, ?_⟩; have n0_ := Aside0.mk (blk_below (g := gb117) (o := .cells #[.int .i64 0, .int .i64 0] 36 (0, 0)) (by (with_reducible repeat (first | refine blk_drewN ?_ _ | refine blk_drew ?_ | refine blk_alloc ?_ _)); exact BK117.out) hb); have n1_ := Aside0.mk (below_step (by repeat (first | (with_reducible first | exact HB.out | apply below_alloc | apply pw_below_drewN | apply below_drew1 | refine below_set ?_ GE117.out) | exact HB.out)) hb); clear BK117; clear HB; have BK117 := n0_; have HB := n1_; clear n0_ n1_; (try clear hb); (try clear hb2); (try clear hk); (try clear hi); have hcz9_0 : w8.cell? ⟨gb117, 0, none⟩ = some (.int .i64 0) := (blk_cell BK117.out 0).trans rfl; have hcz9_1 : w8.cell? ⟨gb117, 1, none⟩ = some (.int .i64 0) := (blk_cell BK117.out 1).trans rfl; have hfz9_0 := blk_frozen BK117.out 0; have hfz9_1 := blk_frozen BK117.out 1))
  refine bodyPost_ret (results_cell_row rfl _ _ gb117 36 #[.int .i64 t118, .int .i64 t119] (0, 0) _ rfl (by (with_reducible repeat (first | refine blk_drewN ?_ _ | refine blk_drew ?_ | refine blk_alloc ?_ _)); refine blk_put (cs := #[.int .i64 t118, .int .i64 0]) ?_ 1 _ rfl; (with_reducible repeat (first | refine blk_drewN ?_ _ | refine blk_drew ?_ | refine blk_alloc ?_ _)); refine blk_put (cs := #[.int .i64 0, .int .i64 0]) ?_ 0 _ rfl; (with_reducible repeat (first | refine blk_drewN ?_ _ | refine blk_drew ?_ | refine blk_alloc ?_ _)); exact BK117.out) Try.underlying36 rfl (by kernel_rfl)) rfl ?_
  exact ⟨by first | rfl | (simp [errW_none, errW_some] <;> rfl) | (simp only [← hji4]; first | rfl | (simp [errW_none, errW_some] <;> rfl)) | (simp [*, errW_none, errW_some] <;> rfl), by repeat (first | (with_reducible first | exact HB.out | apply below_alloc | apply pw_below_drewN | apply below_drew1 | refine below_set ?_ GE117.out) | exact HB.out)⟩


theorem span_Of_eq (a b : Int) : span_Of.f a b = some (vcut a, vadd a (mx b 0)) := by
  unfold span_Of.f; simp only [fix_Cut_eq, fix_Add_eq, Option.bind_some]

end Go.Proofs.Ytnmcefpnpfaklae.V
