/- What the functions of this seat answer, as plain Lean functions, and that the calls come to just that (written by a program of this repo, over the kit's printer; Lean checks it). -/
import Derived.Test.YtnmcefpnpfaklaaVx0
import Derived.Test.YtnmcefpnpfaklaaVx2
import Derived.Test.YtnmcefpnpfaklaaVx3
import Derived.Test.YtnmcefpnpfaklaaVx4
import Derived.Test.YtnmcefpnpfaklaaVx5
import Derived.Test.YtnmcefpnpfaklaaVx6
namespace Go.Proofs.Ytnmcefpnpfaklaa.V
open Go.RowKit Go.Proofs.Ytnmcefpnpfaklaa.Flt Go.Proofs.YtnmcefpnpfaklaaW.PrintWords Go.Proofs.YtnmcefpnpfaklaaW.PrintLast Go.Proofs.YtnmcefpnpfaklaaW.PrintMore
attribute [local go_sem high] run_eql_vpt2 run_neq_vpt2 eqGuard_vpt2 vpt2_zero run_add_vpt2
attribute [local go_sem] max2_int min2_int max_two min_two max_three min_three max_four min_four   -- for this text's walks alone
set_option linter.unusedVariables false
set_option linter.unusedSimpArgs false


def vvalid (k n : Int) : Bool := if k = 0 then n == 0 else if k = 1 then decide (-1099511627776 ≤ n) && decide (n ≤ 1099511627776) else if k = 2 then decide (0 ≤ n) && decide (n ≤ 1000000) else false
theorem length_Valid_eq (k n : Int) : length_Valid.f k n = some (vvalid k n) := by
  unfold length_Valid.f vvalid
  by_cases h0 : k = 0
  · rw [if_pos h0, if_pos h0]
  rw [if_neg h0, if_neg h0]
  by_cases h1 : k = 1
  · rw [if_pos h1, if_pos h1, fix_Cut_eq]
    simp only [Option.bind_some]
    congr 1
    rw [Bool.eq_iff_iff]; simp; unfold vcut; (repeat' split) <;> omega
  rw [if_neg h1, if_neg h1]
  by_cases h2 : k = 2
  · rw [if_pos h2, if_pos h2, fix_Clamp_eq]
    simp only [Option.bind_some]
    congr 1
    rw [Bool.eq_iff_iff]; simp; unfold vclamp; rw [vcut_id (n := 0) (by omega) (by omega), vcut_id (n := 1000000) (by omega) (by omega)]; unfold vcut mx mn; (repeat' split) <;> omega
  rw [if_neg h2, if_neg h2]

/-! ### length_Sides: function 19 -/
theorem zd_of (k n b no : Int) (w : World) : Calls Try.prog 13 #[.agg #[.int .i64 k, .int .i64 n], .int .i64 b, .int .i64 no] w fun e w' => e = .returned (.int .i64 (vof k n b no)) ∧ Below w.heap.size w w' := length_Of.calls k n b no _ w (length_Of_eq k n b no)
def SidR (k : Nat) (o0 o1 o2 o3 : Int) (w W : World) : Prop :=
  W.heap[w.heap.size + 1 + 1]? = some (.cells #[.int .i64 (if 0 < k then o0 else 0), .int .i64 (if 1 < k then o1 else 0), .int .i64 (if 2 < k then o2 else 0), .int .i64 (if 3 < k then o3 else 0)] 30 (0, 0)) ∧
  W.heap[w.heap.size + 1]? = some (.cells #[.int .i64 0, .int .i64 0, .int .i64 0, .int .i64 0] 30 (0, 0)) ∧ Below w.heap.size w W
def SidL (o0 o1 o2 o3 : Int) (w : World) (i : Value) (W : World) : Prop :=
  (i = .int .i64 0 ∧ SidR 0 o0 o1 o2 o3 w W) ∨ (i = .int .i64 1 ∧ SidR 1 o0 o1 o2 o3 w W) ∨ (i = .int .i64 2 ∧ SidR 2 o0 o1 o2 o3 w W) ∨ (i = .int .i64 3 ∧ SidR 3 o0 o1 o2 o3 w W) ∨ (i = .int .i64 4 ∧ SidR 4 o0 o1 o2 o3 w W)
theorem SidR.start (o0 o1 o2 o3 : Int) (X : Obj) (w : World) : SidR 0 o0 o1 o2 o3 w (((w.alloc X).alloc (.cells #[.int .i64 0, .int .i64 0, .int .i64 0, .int .i64 0] 30)).alloc (.cells #[.int .i64 0, .int .i64 0, .int .i64 0, .int .i64 0] 30)) := by
  have B2 := blk_new ((w.alloc X).alloc (.cells #[.int .i64 0, .int .i64 0, .int .i64 0, .int .i64 0] 30)) (.cells #[.int .i64 0, .int .i64 0, .int .i64 0, .int .i64 0] 30)
  have B1 := blk_alloc (blk_new (w.alloc X) (.cells #[.int .i64 0, .int .i64 0, .int .i64 0, .int .i64 0] 30)) (.cells #[.int .i64 0, .int .i64 0, .int .i64 0, .int .i64 0] 30)
  refine ⟨?_, ?_, below_alloc (below_alloc (below_alloc (Below.refl _ _) _) _) _⟩
  · simpa using B2
  · simpa using B1
theorem SidR.below {k : Nat} {o0 o1 o2 o3 : Int} {w W W1 : World} (h : SidR k o0 o1 o2 o3 w W) (hb : Below W.heap.size W W1) : SidR k o0 o1 o2 o3 w W1 := ⟨blk_below h.1 hb, blk_below h.2.1 hb, below_step h.2.2 hb⟩
theorem SidR.put {k : Nat} {o0 o1 o2 o3 : Int} {w W : World} (h : SidR k o0 o1 o2 o3 w W) (v : Value)
    (e : #[Value.int .i64 (if 0 < k then o0 else 0), .int .i64 (if 1 < k then o1 else 0), .int .i64 (if 2 < k then o2 else 0), .int .i64 (if 3 < k then o3 else 0)].setIfInBounds k v = #[.int .i64 (if 0 < k + 1 then o0 else 0), .int .i64 (if 1 < k + 1 then o1 else 0), .int .i64 (if 2 < k + 1 then o2 else 0), .int .i64 (if 3 < k + 1 then o3 else 0)]) :
    SidR (k + 1) o0 o1 o2 o3 w (W.setCell ⟨w.heap.size + 1 + 1, k, none⟩ v) :=
  ⟨blk_put h.1 k v e, blk_far h.2.1 (by show w.heap.size + 1 ≠ w.heap.size + 1 + 1; omega) _, below_set h.2.2 (by omega)⟩
set_option maxHeartbeats 2000000 in
theorem zs_sides (k0 n0 k1 n1 k2 n2 k3 n3 b : Int) (w : World) : Calls Try.prog 19 #[.agg #[.int .i64 k0, .int .i64 n0, .int .i64 k1, .int .i64 n1, .int .i64 k2, .int .i64 n2, .int .i64 k3, .int .i64 n3], .int .i64 b] w fun e w' => e = .returned (.agg #[.int .i64 (vof k0 n0 b 0), .int .i64 (vof k1 n1 b 0), .int .i64 (vof k2 n2 b 0), .int .i64 (vof k3 n3 b 0)]) ∧ Below w.heap.size w w' := by
  have hu24 := Try.underlying24
  have hu25 := Try.underlying25
  have hu30 := Try.underlying30
  have ix0 : ∀ w, (Instr.index 25 (.agg #[.int .i64 k0, .int .i64 n0, .int .i64 k1, .int .i64 n1, .int .i64 k2, .int .i64 n2, .int .i64 k3, .int .i64 n3]) (.int .i64 0)).run Try.prog w = .ok (.agg #[.int .i64 k0, .int .i64 n0]) w := fun _ => by kernel_rfl
  have ix1 : ∀ w, (Instr.index 25 (.agg #[.int .i64 k0, .int .i64 n0, .int .i64 k1, .int .i64 n1, .int .i64 k2, .int .i64 n2, .int .i64 k3, .int .i64 n3]) (.int .i64 1)).run Try.prog w = .ok (.agg #[.int .i64 k1, .int .i64 n1]) w := fun _ => by kernel_rfl
  have ix2 : ∀ w, (Instr.index 25 (.agg #[.int .i64 k0, .int .i64 n0, .int .i64 k1, .int .i64 n1, .int .i64 k2, .int .i64 n2, .int .i64 k3, .int .i64 n3]) (.int .i64 2)).run Try.prog w = .ok (.agg #[.int .i64 k2, .int .i64 n2]) w := fun _ => by kernel_rfl
  have ix3 : ∀ w, (Instr.index 25 (.agg #[.int .i64 k0, .int .i64 n0, .int .i64 k1, .int .i64 n1, .int .i64 k2, .int .i64 n2, .int .i64 k3, .int .i64 n3]) (.int .i64 3)).run Try.prog w = .ok (.agg #[.int .i64 k3, .int .i64 n3]) w := fun _ => by kernel_rfl
  have HS := Aside0.mk (SidR.start (vof k0 n0 b 0) (vof k1 n1 b 0) (vof k2 n2 b 0) (vof k3 n3 b 0) (.cells #[.int .i64 k0, .int .i64 n0, .int .i64 k1, .int .i64 n1, .int .i64 k2, .int .i64 n2, .int .i64 k3, .int .i64 n3] 25) w)
  go_enter Try.func19, Try.ntmps19
  go_wp2
  go_loopw [9] (fun i W => SidL (vof k0 n0 b 0) (vof k1 n1 b 0) (vof k2 n2 b 0) (vof k3 n3 b 0) w i W) (fun i _ => 4 - (intOf i).toNat)
  case atStart => exact .inl ⟨rfl, HS.out⟩
  case round =>
    rcases hrel with ⟨rfl, hR⟩ | ⟨rfl, hR⟩ | ⟨rfl, hR⟩ | ⟨rfl, hR⟩ | ⟨rfl, hR⟩
    · have HR := Aside0.mk hR
      clear hR HS
      go_wp2_with (go_at_call 13; refine (zd_of _ _ _ _ _).mono ?_; rintro e w1 ⟨rfl, hb⟩; have HR1 := Aside0.mk (SidR.below HR.out (below_step (below_alloc (Below.refl _ _) _) hb)); have hc : w1.cell? ⟨w.heap.size + 1 + 1, 0, none⟩ = some (.int .i64 0) := (blk_cell HR1.out.1 0).trans rfl; have hf := blk_frozen HR1.out.1 0; clear HR hb)
      go_roundw
      case rel => exact .inr (.inl ⟨rfl, SidR.put HR1.out _ rfl⟩)
      case measure => simp [intOf]
    · have HR := Aside0.mk hR
      clear hR HS
      go_wp2_with (go_at_call 13; refine (zd_of _ _ _ _ _).mono ?_; rintro e w1 ⟨rfl, hb⟩; have HR1 := Aside0.mk (SidR.below HR.out (below_step (below_alloc (Below.refl _ _) _) hb)); have hc : w1.cell? ⟨w.heap.size + 1 + 1, 1, none⟩ = some (.int .i64 0) := (blk_cell HR1.out.1 1).trans rfl; have hf := blk_frozen HR1.out.1 1; clear HR hb)
      go_roundw
      case rel => exact .inr (.inr (.inl ⟨rfl, SidR.put HR1.out _ rfl⟩))
      case measure => simp [intOf]
    · have HR := Aside0.mk hR
      clear hR HS
      go_wp2_with (go_at_call 13; refine (zd_of _ _ _ _ _).mono ?_; rintro e w1 ⟨rfl, hb⟩; have HR1 := Aside0.mk (SidR.below HR.out (below_step (below_alloc (Below.refl _ _) _) hb)); have hc : w1.cell? ⟨w.heap.size + 1 + 1, 2, none⟩ = some (.int .i64 0) := (blk_cell HR1.out.1 2).trans rfl; have hf := blk_frozen HR1.out.1 2; clear HR hb)
      go_roundw
      case rel => exact .inr (.inr (.inr (.inl ⟨rfl, SidR.put HR1.out _ rfl⟩)))
      case measure => simp [intOf]
    · have HR := Aside0.mk hR
      clear hR HS
      go_wp2_with (go_at_call 13; refine (zd_of _ _ _ _ _).mono ?_; rintro e w1 ⟨rfl, hb⟩; have HR1 := Aside0.mk (SidR.below HR.out (below_step (below_alloc (Below.refl _ _) _) hb)); have hc : w1.cell? ⟨w.heap.size + 1 + 1, 3, none⟩ = some (.int .i64 0) := (blk_cell HR1.out.1 3).trans rfl; have hf := blk_frozen HR1.out.1 3; clear HR hb)
      go_roundw
      case rel => exact .inr (.inr (.inr (.inr ⟨rfl, SidR.put HR1.out _ rfl⟩)))
      case measure => simp [intOf]
    · have HR := Aside0.mk hR
      have c0 : wr.cell? ⟨w.heap.size + 1 + 1, 0, none⟩ = some _ := (blk_cell hR.1 0).trans rfl
      have c1 : wr.cell? ⟨w.heap.size + 1 + 1, 1, none⟩ = some _ := (blk_cell hR.1 1).trans rfl
      have c2 : wr.cell? ⟨w.heap.size + 1 + 1, 2, none⟩ = some _ := (blk_cell hR.1 2).trans rfl
      have c3 : wr.cell? ⟨w.heap.size + 1 + 1, 3, none⟩ = some _ := (blk_cell hR.1 3).trans rfl
      have d0 : wr.cell? ⟨w.heap.size + 1, 0, none⟩ = some _ := (blk_cell hR.2.1 0).trans rfl
      have d1 : wr.cell? ⟨w.heap.size + 1, 1, none⟩ = some _ := (blk_cell hR.2.1 1).trans rfl
      have d2 : wr.cell? ⟨w.heap.size + 1, 2, none⟩ = some _ := (blk_cell hR.2.1 2).trans rfl
      have d3 : wr.cell? ⟨w.heap.size + 1, 3, none⟩ = some _ := (blk_cell hR.2.1 3).trans rfl
      have f0 := blk_frozen hR.2.1 0
      have f1 := blk_frozen hR.2.1 1
      have f2 := blk_frozen hR.2.1 2
      have f3 := blk_frozen hR.2.1 3
      clear hR HS
      go_wp2
      have b1 := blk_set (blk_set (blk_set (blk_set HR.out.2.1 0 (.int .i64 (vof k0 n0 b 0))) 1 (.int .i64 (vof k1 n1 b 0))) 2 (.int .i64 (vof k2 n2 b 0))) 3 (.int .i64 (vof k3 n3 b 0))
      refine bodyPost_ret (results_cell_row rfl _ _ (w.heap.size + 1) 30 #[.int .i64 (vof k0 n0 b 0), .int .i64 (vof k1 n1 b 0), .int .i64 (vof k2 n2 b 0), .int .i64 (vof k3 n3 b 0)] (0, 0) _ rfl (by simpa using b1) Try.underlying30 rfl (by kernel_rfl)) rfl ?_
      exact ⟨rfl, below_set (below_set (below_set (below_set HR.out.2.2 (by omega)) (by omega)) (by omega)) (by omega)⟩
def length_Sides.f (k0 n0 k1 n1 k2 n2 k3 n3 b : Int) : Option (Int × Int × Int × Int) := some (vof k0 n0 b 0, vof k1 n1 b 0, vof k2 n2 b 0, vof k3 n3 b 0)
theorem length_Sides.calls (k0 n0 k1 n1 k2 n2 k3 n3 b r1 r2 r3 r4 : Int) (w : World) (h : length_Sides.f k0 n0 k1 n1 k2 n2 k3 n3 b = some (r1, r2, r3, r4)) :
    Calls Try.prog 19 #[.agg #[.int .i64 k0, .int .i64 n0, .int .i64 k1, .int .i64 n1, .int .i64 k2, .int .i64 n2, .int .i64 k3, .int .i64 n3], .int .i64 b] w fun e w' => e = .returned (.agg #[.int .i64 r1, .int .i64 r2, .int .i64 r3, .int .i64 r4]) ∧ Below w.heap.size w w' := by
  have h' := Option.some.inj h
  simp only [Prod.mk.injEq] at h'
  obtain ⟨rfl, rfl, rfl, rfl⟩ := h'
  exact zs_sides k0 n0 k1 n1 k2 n2 k3 n3 b w


theorem length_Sides_eq (k0 n0 k1 n1 k2 n2 k3 n3 b : Int) : length_Sides.f k0 n0 k1 n1 k2 n2 k3 n3 b = some (vof k0 n0 b 0, vof k1 n1 b 0, vof k2 n2 b 0, vof k3 n3 b 0) := rfl

-- NOT PRINTED: function 36 (length_Limit_1)

end Go.Proofs.Ytnmcefpnpfaklaa.V
