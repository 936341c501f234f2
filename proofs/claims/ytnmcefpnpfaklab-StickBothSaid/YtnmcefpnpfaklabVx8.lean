/- What the functions of this seat answer, as plain Lean functions, and that the calls come to just that (written by a program of this repo, over the kit's printer; Lean checks it). -/
import Derived.Test.YtnmcefpnpfaklabVx0
import Derived.Test.YtnmcefpnpfaklabVx2
import Derived.Test.YtnmcefpnpfaklabVx5
import Derived.Test.YtnmcefpnpfaklabVx6
import Derived.Test.YtnmcefpnpfaklabVx7
namespace Go.Proofs.Ytnmcefpnpfaklab.V
open Go.RowKit Go.Proofs.Ytnmcefpnpfaklab.Flt Go.Proofs.YtnmcefpnpfaklabW.PrintWords Go.Proofs.YtnmcefpnpfaklabW.PrintLast Go.Proofs.YtnmcefpnpfaklabW.PrintMore
attribute [local go_sem high] run_eql_vpt2 run_neq_vpt2 eqGuard_vpt2 vpt2_zero run_add_vpt2
attribute [local go_sem] max2_int min2_int max_two min_two max_three min_three max_four min_four   -- for this text's walks alone
set_option linter.unusedVariables false
set_option linter.unusedSimpArgs false

/-! ### stick_Sides: function 19 -/
/-- The boxes of Sides: the bases, and what is set. -/
def SgR (k : Nat) (o0 o1 o2 o3 : Bool) (m0 m1 m2 m3 h v : Int) (w W : World) : Prop := W.heap[w.heap.size + 1 + 1 + 1]? = some (.cells #[.bool (if 0 < k then o0 else false), .int .i64 (if 0 < k then m0 else 0), .bool (if 1 < k then o1 else false), .int .i64 (if 1 < k then m1 else 0), .bool (if 2 < k then o2 else false), .int .i64 (if 2 < k then m2 else 0), .bool (if 3 < k then o3 else false), .int .i64 (if 3 < k then m3 else 0)] 38 (0, 0)) ∧ W.heap[w.heap.size + 1 + 1]? = some (.cells #[.int .i64 h, .int .i64 v, .int .i64 h, .int .i64 v] 67 (0, 0)) ∧ W.heap[w.heap.size + 1]? = some (.cells #[.bool false, .int .i64 0, .bool false, .int .i64 0, .bool false, .int .i64 0, .bool false, .int .i64 0] 38 (0, 0)) ∧ Below w.heap.size w W
theorem SgR.below {k : Nat} {o0 o1 o2 o3 : Bool} {m0 m1 m2 m3 h v : Int} {w W W1 : World} (g : SgR k o0 o1 o2 o3 m0 m1 m2 m3 h v w W) (hb : Below W.heap.size W W1) : SgR k o0 o1 o2 o3 m0 m1 m2 m3 h v w W1 := ⟨blk_below g.1 hb, blk_below g.2.1 hb, blk_below g.2.2.1 hb, below_step g.2.2.2 hb⟩
def SgL (o0 o1 o2 o3 : Bool) (m0 m1 m2 m3 h v : Int) (w : World) (i : Value) (W : World) : Prop := (i = .int .i64 0 ∧ SgR 0 o0 o1 o2 o3 m0 m1 m2 m3 h v w W) ∨ (i = .int .i64 1 ∧ SgR 1 o0 o1 o2 o3 m0 m1 m2 m3 h v w W) ∨ (i = .int .i64 2 ∧ SgR 2 o0 o1 o2 o3 m0 m1 m2 m3 h v w W) ∨ (i = .int .i64 3 ∧ SgR 3 o0 o1 o2 o3 m0 m1 m2 m3 h v w W) ∨ (i = .int .i64 4 ∧ SgR 4 o0 o1 o2 o3 m0 m1 m2 m3 h v w W)
theorem SgR.start (o0 o1 o2 o3 : Bool) (m0 m1 m2 m3 h v : Int) (X : Obj) (w : World) : SgR 0 o0 o1 o2 o3 m0 m1 m2 m3 h v w ((((w.alloc X).alloc (.cells #[.bool false, .int .i64 0, .bool false, .int .i64 0, .bool false, .int .i64 0, .bool false, .int .i64 0] 38)).alloc (.cells #[.int .i64 h, .int .i64 v, .int .i64 h, .int .i64 v] 67)).alloc (.cells #[.bool false, .int .i64 0, .bool false, .int .i64 0, .bool false, .int .i64 0, .bool false, .int .i64 0] 38)) := by
  have B5 := blk_alloc (blk_alloc (blk_new (w.alloc X) (.cells #[.bool false, .int .i64 0, .bool false, .int .i64 0, .bool false, .int .i64 0, .bool false, .int .i64 0] 38)) (.cells #[.int .i64 h, .int .i64 v, .int .i64 h, .int .i64 v] 67)) (.cells #[.bool false, .int .i64 0, .bool false, .int .i64 0, .bool false, .int .i64 0, .bool false, .int .i64 0] 38)
  have B6 := blk_alloc (blk_new ((w.alloc X).alloc (.cells #[.bool false, .int .i64 0, .bool false, .int .i64 0, .bool false, .int .i64 0, .bool false, .int .i64 0] 38)) (.cells #[.int .i64 h, .int .i64 v, .int .i64 h, .int .i64 v] 67)) (.cells #[.bool false, .int .i64 0, .bool false, .int .i64 0, .bool false, .int .i64 0, .bool false, .int .i64 0] 38)
  have B7 := blk_new (((w.alloc X).alloc (.cells #[.bool false, .int .i64 0, .bool false, .int .i64 0, .bool false, .int .i64 0, .bool false, .int .i64 0] 38)).alloc (.cells #[.int .i64 h, .int .i64 v, .int .i64 h, .int .i64 v] 67)) (.cells #[.bool false, .int .i64 0, .bool false, .int .i64 0, .bool false, .int .i64 0, .bool false, .int .i64 0] 38)
  simp only [World.size_alloc] at B5 B6 B7
  exact ⟨B7, B6, B5, below_alloc (below_alloc (below_alloc (below_alloc (Below.refl _ _) _) _) _) _⟩
theorem SgR.put {k p q : Nat} {o0 o1 o2 o3 : Bool} {m0 m1 m2 m3 h v : Int} {w W : World} (g : SgR k o0 o1 o2 o3 m0 m1 m2 m3 h v w W) (x y : Value)
    (e : ((#[.bool (if 0 < k then o0 else false), .int .i64 (if 0 < k then m0 else 0), .bool (if 1 < k then o1 else false), .int .i64 (if 1 < k then m1 else 0), .bool (if 2 < k then o2 else false), .int .i64 (if 2 < k then m2 else 0), .bool (if 3 < k then o3 else false), .int .i64 (if 3 < k then m3 else 0)] : Array Value).setIfInBounds p x).setIfInBounds q y = #[.bool (if 0 < k + 1 then o0 else false), .int .i64 (if 0 < k + 1 then m0 else 0), .bool (if 1 < k + 1 then o1 else false), .int .i64 (if 1 < k + 1 then m1 else 0), .bool (if 2 < k + 1 then o2 else false), .int .i64 (if 2 < k + 1 then m2 else 0), .bool (if 3 < k + 1 then o3 else false), .int .i64 (if 3 < k + 1 then m3 else 0)]) :
    SgR (k + 1) o0 o1 o2 o3 m0 m1 m2 m3 h v w ((W.setCell ⟨w.heap.size + 1 + 1 + 1, p, none⟩ x).setCell ⟨w.heap.size + 1 + 1 + 1, q, none⟩ y) :=
  ⟨blk_put (blk_put g.1 p x rfl) q y e, blk_far (blk_far g.2.1 (by show w.heap.size + 1 + 1 ≠ w.heap.size + 1 + 1 + 1; omega) _) (by show w.heap.size + 1 + 1 ≠ w.heap.size + 1 + 1 + 1; omega) _, blk_far (blk_far g.2.2.1 (by show w.heap.size + 1 ≠ w.heap.size + 1 + 1 + 1; omega) _) (by show w.heap.size + 1 ≠ w.heap.size + 1 + 1 + 1; omega) _, below_set (below_set g.2.2.2 (by omega)) (by omega)⟩
/-- What the round that sets reads. -/
def Sg7 (kd n bs : Int) (h v : Int) (k g : Nat) (w W : World) : Prop := W.cell? ⟨g, 0, none⟩ = some (.int .i64 kd) ∧ W.cell? ⟨g, 1, none⟩ = some (.int .i64 n) ∧ W.cell? ⟨w.heap.size + 1 + 1, k, none⟩ = some (.int .i64 bs) ∧ W.heap[g]? = some (.cells #[.int .i64 kd, .int .i64 n] 36 (0, 0)) ∧ W.heap[w.heap.size + 1 + 1]? = some (.cells #[.int .i64 h, .int .i64 v, .int .i64 h, .int .i64 v] 67 (0, 0))
theorem Sg7.mk {kd n bs h v : Int} {k g : Nat} {w W : World} (h1 : W.heap[g]? = some (.cells #[.int .i64 kd, .int .i64 n] 36 (0, 0))) (h2 : W.heap[w.heap.size + 1 + 1]? = some (.cells #[.int .i64 h, .int .i64 v, .int .i64 h, .int .i64 v] 67 (0, 0))) (hk : (#[.int .i64 h, .int .i64 v, .int .i64 h, .int .i64 v] : Array Value)[k]? = some (.int .i64 bs)) : Sg7 kd n bs h v k g w W := ⟨(blk_cell h1 0).trans rfl, (blk_cell h1 1).trans rfl, (blk_cell h2 k).trans hk, h1, h2⟩
theorem Sg7.hk {kd n bs h v : Int} {k g : Nat} {w W : World} (x : Sg7 kd n bs h v k g w W) : (#[.int .i64 h, .int .i64 v, .int .i64 h, .int .i64 v] : Array Value)[k]? = some (.int .i64 bs) := (blk_cell x.2.2.2.2 k).symm.trans x.2.2.1
theorem Sg7.below {kd n bs h v : Int} {k g : Nat} {w W W1 : World} (x : Sg7 kd n bs h v k g w W) (hb : Below W.heap.size W W1) : Sg7 kd n bs h v k g w W1 := Sg7.mk (blk_below x.2.2.2.1 hb) (blk_below x.2.2.2.2 hb) x.hk
theorem Sg7.set {kd n bs h v : Int} {k g : Nat} {w W : World} (x : Sg7 kd n bs h v k g w W) (hg : g ≠ w.heap.size + 1 + 1 + 1) (c : Nat) (u : Value) : Sg7 kd n bs h v k g w (W.setCell ⟨w.heap.size + 1 + 1 + 1, c, none⟩ u) := Sg7.mk (blk_far x.2.2.2.1 hg _) (blk_far x.2.2.2.2 (by show w.heap.size + 1 + 1 ≠ w.heap.size + 1 + 1 + 1; omega) _) x.hk
/-- What a round reads. -/
def Sg6 (kd n bs : Int) (k g : Nat) (r : Nat) (o0 o1 o2 o3 : Bool) (m0 m1 m2 m3 h v : Int) (w W0 W : World) : Prop := W.cell? ⟨g, 0, none⟩ = some (.int .i64 kd) ∧ W.cell? ⟨g, 1, none⟩ = some (.int .i64 n) ∧ W.cell? ⟨w.heap.size + 1 + 1, k, none⟩ = some (.int .i64 bs) ∧ SgR r o0 o1 o2 o3 m0 m1 m2 m3 h v w W ∧ Below W0.heap.size W0 W
theorem Sg6.below {kd n bs : Int} {k g r : Nat} {o0 o1 o2 o3 : Bool} {m0 m1 m2 m3 h v : Int} {w W0 W W1 : World} (x : Sg6 kd n bs k g r o0 o1 o2 o3 m0 m1 m2 m3 h v w W0 W) (hb : Below W.heap.size W W1) : Sg6 kd n bs k g r o0 o1 o2 o3 m0 m1 m2 m3 h v w W0 W1 := ⟨pw_cell_below hb x.1, pw_cell_below hb x.2.1, pw_cell_below hb x.2.2.1, x.2.2.2.1.below hb, below_step x.2.2.2.2 hb⟩
theorem Sg6.start {r : Nat} {o0 o1 o2 o3 : Bool} {m0 m1 m2 m3 h v : Int} {w W : World} (x : SgR r o0 o1 o2 o3 m0 m1 m2 m3 h v w W) (kd n bs : Int) (k : Nat) (hk : (#[.int .i64 h, .int .i64 v, .int .i64 h, .int .i64 v] : Array Value)[k]? = some (.int .i64 bs)) : Sg6 kd n bs k W.heap.size r o0 o1 o2 o3 m0 m1 m2 m3 h v w W (W.alloc (.cells #[.int .i64 kd, .int .i64 n] 36)) := by
  have hb : Below W.heap.size W (W.alloc (.cells #[.int .i64 kd, .int .i64 n] 36)) := below_alloc (Below.refl _ _) _
  have B := blk_new W (.cells #[.int .i64 kd, .int .i64 n] 36)
  exact ⟨(blk_cell B 0).trans rfl, (blk_cell B 1).trans rfl, pw_cell_below hb ((blk_cell x.2.1 k).trans hk), x.below hb, hb⟩
theorem zg_fixed (k n b : Int) (w : World) : Calls Try.prog 41 #[.agg #[.int .i64 k, .int .i64 n], .int .i64 b] w fun e w' => e = .returned (.bool (vfixed k b)) ∧ Below w.heap.size w w' := length_Fixed.calls k n b _ w (length_Fixed_eq k n b)
theorem zg_lof (k n b no : Int) (w : World) : Calls Try.prog 42 #[.agg #[.int .i64 k, .int .i64 n], .int .i64 b, .int .i64 no] w fun e w' => e = .returned (.int .i64 (vof k n b no)) ∧ Below w.heap.size w w' := length_Of.calls k n b no _ w (length_Of_eq k n b no)
set_option maxHeartbeats 16000000 in
theorem zg_sides (k0 n0 k1 n1 k2 n2 k3 n3 v h : Int) (o0 o1 o2 o3 : Bool) (m0 m1 m2 m3 : Int) (w : World) (f0 : vfixed k0 h = o0) (g0 : (o0 = true ∧ vof k0 n0 h 0 = m0) ∨ (o0 = false ∧ m0 = 0)) (f1 : vfixed k1 v = o1) (g1 : (o1 = true ∧ vof k1 n1 v 0 = m1) ∨ (o1 = false ∧ m1 = 0)) (f2 : vfixed k2 h = o2) (g2 : (o2 = true ∧ vof k2 n2 h 0 = m2) ∨ (o2 = false ∧ m2 = 0)) (f3 : vfixed k3 v = o3) (g3 : (o3 = true ∧ vof k3 n3 v 0 = m3) ∨ (o3 = false ∧ m3 = 0)) : Calls Try.prog 19 #[.agg #[.int .i64 k0, .int .i64 n0, .int .i64 k1, .int .i64 n1, .int .i64 k2, .int .i64 n2, .int .i64 k3, .int .i64 n3], .int .i64 v, .int .i64 h] w fun e w' => e = .returned (.agg #[.bool o0, .int .i64 m0, .bool o1, .int .i64 m1, .bool o2, .int .i64 m2, .bool o3, .int .i64 m3]) ∧ Below w.heap.size w w' := by
  have hu25 := Try.underlying25
  have hu36 := Try.underlying36
  have hu37 := Try.underlying37
  have hu38 := Try.underlying38
  have hu67 := Try.underlying67
  have ix0 : ∀ w, (Instr.index 37 (.agg #[.int .i64 k0, .int .i64 n0, .int .i64 k1, .int .i64 n1, .int .i64 k2, .int .i64 n2, .int .i64 k3, .int .i64 n3]) (.int .i64 0)).run Try.prog w = .ok (.agg #[.int .i64 k0, .int .i64 n0]) w := fun _ => by kernel_rfl
  have ix1 : ∀ w, (Instr.index 37 (.agg #[.int .i64 k0, .int .i64 n0, .int .i64 k1, .int .i64 n1, .int .i64 k2, .int .i64 n2, .int .i64 k3, .int .i64 n3]) (.int .i64 1)).run Try.prog w = .ok (.agg #[.int .i64 k1, .int .i64 n1]) w := fun _ => by kernel_rfl
  have ix2 : ∀ w, (Instr.index 37 (.agg #[.int .i64 k0, .int .i64 n0, .int .i64 k1, .int .i64 n1, .int .i64 k2, .int .i64 n2, .int .i64 k3, .int .i64 n3]) (.int .i64 2)).run Try.prog w = .ok (.agg #[.int .i64 k2, .int .i64 n2]) w := fun _ => by kernel_rfl
  have ix3 : ∀ w, (Instr.index 37 (.agg #[.int .i64 k0, .int .i64 n0, .int .i64 k1, .int .i64 n1, .int .i64 k2, .int .i64 n2, .int .i64 k3, .int .i64 n3]) (.int .i64 3)).run Try.prog w = .ok (.agg #[.int .i64 k3, .int .i64 n3]) w := fun _ => by kernel_rfl
  have hfx0 := Aside0.mk (zg_fixed k0 n0 h)
  have hof0 := Aside0.mk (zg_lof k0 n0 h 0)
  have hfx1 := Aside0.mk (zg_fixed k1 n1 v)
  have hof1 := Aside0.mk (zg_lof k1 n1 v 0)
  have hfx2 := Aside0.mk (zg_fixed k2 n2 h)
  have hof2 := Aside0.mk (zg_lof k2 n2 h 0)
  have hfx3 := Aside0.mk (zg_fixed k3 n3 v)
  have hof3 := Aside0.mk (zg_lof k3 n3 v 0)
  rw [f0] at hfx0
  rw [f1] at hfx1
  rw [f2] at hfx2
  rw [f3] at hfx3
  clear f0 f1 f2 f3
  have HG := Aside0.mk (And.intro g0 (And.intro g1 (And.intro g2 g3)))
  clear g0 g1 g2 g3
  have HST := Aside0.mk (SgR.start o0 o1 o2 o3 m0 m1 m2 m3 h v (.cells #[.int .i64 k0, .int .i64 n0, .int .i64 k1, .int .i64 n1, .int .i64 k2, .int .i64 n2, .int .i64 k3, .int .i64 n3] 37) w)
  go_enter Try.func19, Try.ntmps19
  go_wp2
  go_loopw [17] (fun i W => SgL o0 o1 o2 o3 m0 m1 m2 m3 h v w i W) (fun i _ => 4 - (intOf i).toNat)
  case atStart => exact .inl ⟨rfl, HST.out⟩
  case round =>
    clear HST
    rcases hrel with ⟨rfl, hR⟩ | ⟨rfl, hR⟩ | ⟨rfl, hR⟩ | ⟨rfl, hR⟩ | ⟨rfl, hR⟩
    · have HS := Aside0.mk (Sg6.start hR k0 n0 h 0 rfl)
      have hg : wr.heap.size ≠ w.heap.size + 1 + 1 + 1 := by have := (Array.getElem?_eq_some_iff.1 hR.1).1; omega
      clear hR
      rcases HG.out.1 with ⟨rfl, rfl⟩ | ⟨rfl, rfl⟩
      · skip
        go_wp2
        have hS0 := HS.out
        unfold Sg6 at hS0
        go_region_held3 (fun w' => w'.cell? ⟨wr.heap.size, 0, none⟩ = some (.int .i64 k0) ∧ w'.cell? ⟨wr.heap.size, 1, none⟩ = some (.int .i64 n0) ∧ w'.cell? ⟨w.heap.size + 1 + 1, 0, none⟩ = some (.int .i64 h) ∧ SgR 0 true o1 o2 o3 (vof k0 n0 h 0) m1 m2 m3 h v w w' ∧ Below wr.heap.size wr w') ((first | exact Sg6.below hS0 (below_drew (Below.refl _ _)) | assumption | (refine Sg6.below ?_ hb; assumption))) ((go_at_call 41; refine (hfx0.out _).mono ?_; rintro e w1 ⟨rfl, hb⟩))
        have hS1 : Sg6 k0 n0 h 0 wr.heap.size 0 true o1 o2 o3 (vof k0 n0 h 0) m1 m2 m3 h v w wr w1 := by assumption
        have HR := Aside0.mk hS1.2.2.2.1
        have hbx : w1.heap[wr.heap.size]? = some (.cells #[.int .i64 k0, .int .i64 n0] 36 (0, 0)) := blk_below (blk_below (blk_new wr _) (below_drew (Below.refl _ _))) hb
        have hS7 : Sg7 k0 n0 h h v 0 wr.heap.size w w1 := Sg7.mk hbx hS1.2.2.2.1.2.1 rfl
        clear hS0 HS hS1 hbx hb
        go_wp2
        have hS0 := hS7
        unfold Sg7 at hS0
        clear hS7
        go_region_held3 (fun w' => w'.cell? ⟨wr.heap.size, 0, none⟩ = some (.int .i64 k0) ∧ w'.cell? ⟨wr.heap.size, 1, none⟩ = some (.int .i64 n0) ∧ w'.cell? ⟨w.heap.size + 1 + 1, 0, none⟩ = some (.int .i64 h) ∧ w'.heap[wr.heap.size]? = some (.cells #[.int .i64 k0, .int .i64 n0] 36 (0, 0)) ∧ w'.heap[w.heap.size + 1 + 1]? = some (.cells #[.int .i64 h, .int .i64 v, .int .i64 h, .int .i64 v] 67 (0, 0))) ((first | exact Sg7.below hS0 (below_drew (Below.refl _ _)) | assumption | (refine Sg7.below ?_ hb; assumption) | (refine Sg7.set (Sg7.set ?_ hg _ _) hg _ _; assumption))) ((go_at_call 42; refine (hof0.out _).mono ?_; rintro e w2 ⟨rfl, hb⟩; have HR2 := Aside0.mk (SgR.below (SgR.below HR.out (below_drew (Below.refl _ _))) hb); have hc0 : w2.cell? ⟨w.heap.size + 1 + 1 + 1, 0, none⟩ = some (.bool false) := (blk_cell HR2.out.1 0).trans rfl; have hc1 : w2.cell? ⟨w.heap.size + 1 + 1 + 1, 1, none⟩ = some (.int .i64 0) := (blk_cell HR2.out.1 1).trans rfl; have hf0 := blk_frozen HR2.out.1 0; have hf1 := blk_frozen HR2.out.1 1))
        go_wp2
        go_roundw
        case rel => exact .inr (.inl ⟨rfl, SgR.put HR2.out _ _ rfl⟩)
        case measure => simp [intOf]
      · skip
        go_wp2
        have hS0 := HS.out
        unfold Sg6 at hS0
        go_region_held3 (fun w' => w'.cell? ⟨wr.heap.size, 0, none⟩ = some (.int .i64 k0) ∧ w'.cell? ⟨wr.heap.size, 1, none⟩ = some (.int .i64 n0) ∧ w'.cell? ⟨w.heap.size + 1 + 1, 0, none⟩ = some (.int .i64 h) ∧ SgR 0 false o1 o2 o3 0 m1 m2 m3 h v w w' ∧ Below wr.heap.size wr w') ((first | exact Sg6.below hS0 (below_drew (Below.refl _ _)) | assumption | (refine Sg6.below ?_ hb; assumption))) ((go_at_call 41; refine (hfx0.out _).mono ?_; rintro e w1 ⟨rfl, hb⟩))
        have hS1 : Sg6 k0 n0 h 0 wr.heap.size 0 false o1 o2 o3 0 m1 m2 m3 h v w wr w1 := by assumption
        have HR := Aside0.mk hS1.2.2.2.1
        clear hS0 hS1 HS
        go_wp2
        go_roundw
        case rel => exact .inr (.inl ⟨rfl, HR.out⟩)
        case measure => simp [intOf]
    · have HS := Aside0.mk (Sg6.start hR k1 n1 v 1 rfl)
      have hg : wr.heap.size ≠ w.heap.size + 1 + 1 + 1 := by have := (Array.getElem?_eq_some_iff.1 hR.1).1; omega
      clear hR
      rcases HG.out.2.1 with ⟨rfl, rfl⟩ | ⟨rfl, rfl⟩
      · skip
        go_wp2
        have hS0 := HS.out
        unfold Sg6 at hS0
        go_region_held3 (fun w' => w'.cell? ⟨wr.heap.size, 0, none⟩ = some (.int .i64 k1) ∧ w'.cell? ⟨wr.heap.size, 1, none⟩ = some (.int .i64 n1) ∧ w'.cell? ⟨w.heap.size + 1 + 1, 1, none⟩ = some (.int .i64 v) ∧ SgR 1 o0 true o2 o3 m0 (vof k1 n1 v 0) m2 m3 h v w w' ∧ Below wr.heap.size wr w') ((first | exact Sg6.below hS0 (below_drew (Below.refl _ _)) | assumption | (refine Sg6.below ?_ hb; assumption))) ((go_at_call 41; refine (hfx1.out _).mono ?_; rintro e w1 ⟨rfl, hb⟩))
        have hS1 : Sg6 k1 n1 v 1 wr.heap.size 1 o0 true o2 o3 m0 (vof k1 n1 v 0) m2 m3 h v w wr w1 := by assumption
        have HR := Aside0.mk hS1.2.2.2.1
        have hbx : w1.heap[wr.heap.size]? = some (.cells #[.int .i64 k1, .int .i64 n1] 36 (0, 0)) := blk_below (blk_below (blk_new wr _) (below_drew (Below.refl _ _))) hb
        have hS7 : Sg7 k1 n1 v h v 1 wr.heap.size w w1 := Sg7.mk hbx hS1.2.2.2.1.2.1 rfl
        clear hS0 HS hS1 hbx hb
        go_wp2
        have hS0 := hS7
        unfold Sg7 at hS0
        clear hS7
        go_region_held3 (fun w' => w'.cell? ⟨wr.heap.size, 0, none⟩ = some (.int .i64 k1) ∧ w'.cell? ⟨wr.heap.size, 1, none⟩ = some (.int .i64 n1) ∧ w'.cell? ⟨w.heap.size + 1 + 1, 1, none⟩ = some (.int .i64 v) ∧ w'.heap[wr.heap.size]? = some (.cells #[.int .i64 k1, .int .i64 n1] 36 (0, 0)) ∧ w'.heap[w.heap.size + 1 + 1]? = some (.cells #[.int .i64 h, .int .i64 v, .int .i64 h, .int .i64 v] 67 (0, 0))) ((first | exact Sg7.below hS0 (below_drew (Below.refl _ _)) | assumption | (refine Sg7.below ?_ hb; assumption) | (refine Sg7.set (Sg7.set ?_ hg _ _) hg _ _; assumption))) ((go_at_call 42; refine (hof1.out _).mono ?_; rintro e w2 ⟨rfl, hb⟩; have HR2 := Aside0.mk (SgR.below (SgR.below HR.out (below_drew (Below.refl _ _))) hb); have hc0 : w2.cell? ⟨w.heap.size + 1 + 1 + 1, 2, none⟩ = some (.bool false) := (blk_cell HR2.out.1 2).trans rfl; have hc1 : w2.cell? ⟨w.heap.size + 1 + 1 + 1, 3, none⟩ = some (.int .i64 0) := (blk_cell HR2.out.1 3).trans rfl; have hf0 := blk_frozen HR2.out.1 2; have hf1 := blk_frozen HR2.out.1 3))
        go_wp2
        go_roundw
        case rel => exact .inr (.inr (.inl ⟨rfl, SgR.put HR2.out _ _ rfl⟩))
        case measure => simp [intOf]
      · skip
        go_wp2
        have hS0 := HS.out
        unfold Sg6 at hS0
        go_region_held3 (fun w' => w'.cell? ⟨wr.heap.size, 0, none⟩ = some (.int .i64 k1) ∧ w'.cell? ⟨wr.heap.size, 1, none⟩ = some (.int .i64 n1) ∧ w'.cell? ⟨w.heap.size + 1 + 1, 1, none⟩ = some (.int .i64 v) ∧ SgR 1 o0 false o2 o3 m0 0 m2 m3 h v w w' ∧ Below wr.heap.size wr w') ((first | exact Sg6.below hS0 (below_drew (Below.refl _ _)) | assumption | (refine Sg6.below ?_ hb; assumption))) ((go_at_call 41; refine (hfx1.out _).mono ?_; rintro e w1 ⟨rfl, hb⟩))
        have hS1 : Sg6 k1 n1 v 1 wr.heap.size 1 o0 false o2 o3 m0 0 m2 m3 h v w wr w1 := by assumption
        have HR := Aside0.mk hS1.2.2.2.1
        clear hS0 hS1 HS
        go_wp2
        go_roundw
        case rel => exact .inr (.inr (.inl ⟨rfl, HR.out⟩))
        case measure => simp [intOf]
    · have HS := Aside0.mk (Sg6.start hR k2 n2 h 2 rfl)
      have hg : wr.heap.size ≠ w.heap.size + 1 + 1 + 1 := by have := (Array.getElem?_eq_some_iff.1 hR.1).1; omega
      clear hR
      rcases HG.out.2.2.1 with ⟨rfl, rfl⟩ | ⟨rfl, rfl⟩
      · skip
        go_wp2
        have hS0 := HS.out
        unfold Sg6 at hS0
        go_region_held3 (fun w' => w'.cell? ⟨wr.heap.size, 0, none⟩ = some (.int .i64 k2) ∧ w'.cell? ⟨wr.heap.size, 1, none⟩ = some (.int .i64 n2) ∧ w'.cell? ⟨w.heap.size + 1 + 1, 2, none⟩ = some (.int .i64 h) ∧ SgR 2 o0 o1 true o3 m0 m1 (vof k2 n2 h 0) m3 h v w w' ∧ Below wr.heap.size wr w') ((first | exact Sg6.below hS0 (below_drew (Below.refl _ _)) | assumption | (refine Sg6.below ?_ hb; assumption))) ((go_at_call 41; refine (hfx2.out _).mono ?_; rintro e w1 ⟨rfl, hb⟩))
        have hS1 : Sg6 k2 n2 h 2 wr.heap.size 2 o0 o1 true o3 m0 m1 (vof k2 n2 h 0) m3 h v w wr w1 := by assumption
        have HR := Aside0.mk hS1.2.2.2.1
        have hbx : w1.heap[wr.heap.size]? = some (.cells #[.int .i64 k2, .int .i64 n2] 36 (0, 0)) := blk_below (blk_below (blk_new wr _) (below_drew (Below.refl _ _))) hb
        have hS7 : Sg7 k2 n2 h h v 2 wr.heap.size w w1 := Sg7.mk hbx hS1.2.2.2.1.2.1 rfl
        clear hS0 HS hS1 hbx hb
        go_wp2
        have hS0 := hS7
        unfold Sg7 at hS0
        clear hS7
        go_region_held3 (fun w' => w'.cell? ⟨wr.heap.size, 0, none⟩ = some (.int .i64 k2) ∧ w'.cell? ⟨wr.heap.size, 1, none⟩ = some (.int .i64 n2) ∧ w'.cell? ⟨w.heap.size + 1 + 1, 2, none⟩ = some (.int .i64 h) ∧ w'.heap[wr.heap.size]? = some (.cells #[.int .i64 k2, .int .i64 n2] 36 (0, 0)) ∧ w'.heap[w.heap.size + 1 + 1]? = some (.cells #[.int .i64 h, .int .i64 v, .int .i64 h, .int .i64 v] 67 (0, 0))) ((first | exact Sg7.below hS0 (below_drew (Below.refl _ _)) | assumption | (refine Sg7.below ?_ hb; assumption) | (refine Sg7.set (Sg7.set ?_ hg _ _) hg _ _; assumption))) ((go_at_call 42; refine (hof2.out _).mono ?_; rintro e w2 ⟨rfl, hb⟩; have HR2 := Aside0.mk (SgR.below (SgR.below HR.out (below_drew (Below.refl _ _))) hb); have hc0 : w2.cell? ⟨w.heap.size + 1 + 1 + 1, 4, none⟩ = some (.bool false) := (blk_cell HR2.out.1 4).trans rfl; have hc1 : w2.cell? ⟨w.heap.size + 1 + 1 + 1, 5, none⟩ = some (.int .i64 0) := (blk_cell HR2.out.1 5).trans rfl; have hf0 := blk_frozen HR2.out.1 4; have hf1 := blk_frozen HR2.out.1 5))
        go_wp2
        go_roundw
        case rel => exact .inr (.inr (.inr (.inl ⟨rfl, SgR.put HR2.out _ _ rfl⟩)))
        case measure => simp [intOf]
      · skip
        go_wp2
        have hS0 := HS.out
        unfold Sg6 at hS0
        go_region_held3 (fun w' => w'.cell? ⟨wr.heap.size, 0, none⟩ = some (.int .i64 k2) ∧ w'.cell? ⟨wr.heap.size, 1, none⟩ = some (.int .i64 n2) ∧ w'.cell? ⟨w.heap.size + 1 + 1, 2, none⟩ = some (.int .i64 h) ∧ SgR 2 o0 o1 false o3 m0 m1 0 m3 h v w w' ∧ Below wr.heap.size wr w') ((first | exact Sg6.below hS0 (below_drew (Below.refl _ _)) | assumption | (refine Sg6.below ?_ hb; assumption))) ((go_at_call 41; refine (hfx2.out _).mono ?_; rintro e w1 ⟨rfl, hb⟩))
        have hS1 : Sg6 k2 n2 h 2 wr.heap.size 2 o0 o1 false o3 m0 m1 0 m3 h v w wr w1 := by assumption
        have HR := Aside0.mk hS1.2.2.2.1
        clear hS0 hS1 HS
        go_wp2
        go_roundw
        case rel => exact .inr (.inr (.inr (.inl ⟨rfl, HR.out⟩)))
        case measure => simp [intOf]
    · have HS := Aside0.mk (Sg6.start hR k3 n3 v 3 rfl)
      have hg : wr.heap.size ≠ w.heap.size + 1 + 1 + 1 := by have := (Array.getElem?_eq_some_iff.1 hR.1).1; omega
      clear hR
      rcases HG.out.2.2.2 with ⟨rfl, rfl⟩ | ⟨rfl, rfl⟩
      · skip
        go_wp2
        have hS0 := HS.out
        unfold Sg6 at hS0
        go_region_held3 (fun w' => w'.cell? ⟨wr.heap.size, 0, none⟩ = some (.int .i64 k3) ∧ w'.cell? ⟨wr.heap.size, 1, none⟩ = some (.int .i64 n3) ∧ w'.cell? ⟨w.heap.size + 1 + 1, 3, none⟩ = some (.int .i64 v) ∧ SgR 3 o0 o1 o2 true m0 m1 m2 (vof k3 n3 v 0) h v w w' ∧ Below wr.heap.size wr w') ((first | exact Sg6.below hS0 (below_drew (Below.refl _ _)) | assumption | (refine Sg6.below ?_ hb; assumption))) ((go_at_call 41; refine (hfx3.out _).mono ?_; rintro e w1 ⟨rfl, hb⟩))
        have hS1 : Sg6 k3 n3 v 3 wr.heap.size 3 o0 o1 o2 true m0 m1 m2 (vof k3 n3 v 0) h v w wr w1 := by assumption
        have HR := Aside0.mk hS1.2.2.2.1
        have hbx : w1.heap[wr.heap.size]? = some (.cells #[.int .i64 k3, .int .i64 n3] 36 (0, 0)) := blk_below (blk_below (blk_new wr _) (below_drew (Below.refl _ _))) hb
        have hS7 : Sg7 k3 n3 v h v 3 wr.heap.size w w1 := Sg7.mk hbx hS1.2.2.2.1.2.1 rfl
        clear hS0 HS hS1 hbx hb
        go_wp2
        have hS0 := hS7
        unfold Sg7 at hS0
        clear hS7
        go_region_held3 (fun w' => w'.cell? ⟨wr.heap.size, 0, none⟩ = some (.int .i64 k3) ∧ w'.cell? ⟨wr.heap.size, 1, none⟩ = some (.int .i64 n3) ∧ w'.cell? ⟨w.heap.size + 1 + 1, 3, none⟩ = some (.int .i64 v) ∧ w'.heap[wr.heap.size]? = some (.cells #[.int .i64 k3, .int .i64 n3] 36 (0, 0)) ∧ w'.heap[w.heap.size + 1 + 1]? = some (.cells #[.int .i64 h, .int .i64 v, .int .i64 h, .int .i64 v] 67 (0, 0))) ((first | exact Sg7.below hS0 (below_drew (Below.refl _ _)) | assumption | (refine Sg7.below ?_ hb; assumption) | (refine Sg7.set (Sg7.set ?_ hg _ _) hg _ _; assumption))) ((go_at_call 42; refine (hof3.out _).mono ?_; rintro e w2 ⟨rfl, hb⟩; have HR2 := Aside0.mk (SgR.below (SgR.below HR.out (below_drew (Below.refl _ _))) hb); have hc0 : w2.cell? ⟨w.heap.size + 1 + 1 + 1, 6, none⟩ = some (.bool false) := (blk_cell HR2.out.1 6).trans rfl; have hc1 : w2.cell? ⟨w.heap.size + 1 + 1 + 1, 7, none⟩ = some (.int .i64 0) := (blk_cell HR2.out.1 7).trans rfl; have hf0 := blk_frozen HR2.out.1 6; have hf1 := blk_frozen HR2.out.1 7))
        go_wp2
        go_roundw
        case rel => exact .inr (.inr (.inr (.inr (⟨rfl, SgR.put HR2.out _ _ rfl⟩))))
        case measure => simp [intOf]
      · skip
        go_wp2
        have hS0 := HS.out
        unfold Sg6 at hS0
        go_region_held3 (fun w' => w'.cell? ⟨wr.heap.size, 0, none⟩ = some (.int .i64 k3) ∧ w'.cell? ⟨wr.heap.size, 1, none⟩ = some (.int .i64 n3) ∧ w'.cell? ⟨w.heap.size + 1 + 1, 3, none⟩ = some (.int .i64 v) ∧ SgR 3 o0 o1 o2 false m0 m1 m2 0 h v w w' ∧ Below wr.heap.size wr w') ((first | exact Sg6.below hS0 (below_drew (Below.refl _ _)) | assumption | (refine Sg6.below ?_ hb; assumption))) ((go_at_call 41; refine (hfx3.out _).mono ?_; rintro e w1 ⟨rfl, hb⟩))
        have hS1 : Sg6 k3 n3 v 3 wr.heap.size 3 o0 o1 o2 false m0 m1 m2 0 h v w wr w1 := by assumption
        have HR := Aside0.mk hS1.2.2.2.1
        clear hS0 hS1 HS
        go_wp2
        go_roundw
        case rel => exact .inr (.inr (.inr (.inr (⟨rfl, HR.out⟩))))
        case measure => simp [intOf]
    · have HR := Aside0.mk hR
      have c0 : wr.cell? ⟨w.heap.size + 1 + 1 + 1, 0, none⟩ = some (.bool o0) := (blk_cell hR.1 0).trans rfl
      have c1 : wr.cell? ⟨w.heap.size + 1 + 1 + 1, 1, none⟩ = some (.int .i64 m0) := (blk_cell hR.1 1).trans rfl
      have c2 : wr.cell? ⟨w.heap.size + 1 + 1 + 1, 2, none⟩ = some (.bool o1) := (blk_cell hR.1 2).trans rfl
      have c3 : wr.cell? ⟨w.heap.size + 1 + 1 + 1, 3, none⟩ = some (.int .i64 m1) := (blk_cell hR.1 3).trans rfl
      have c4 : wr.cell? ⟨w.heap.size + 1 + 1 + 1, 4, none⟩ = some (.bool o2) := (blk_cell hR.1 4).trans rfl
      have c5 : wr.cell? ⟨w.heap.size + 1 + 1 + 1, 5, none⟩ = some (.int .i64 m2) := (blk_cell hR.1 5).trans rfl
      have c6 : wr.cell? ⟨w.heap.size + 1 + 1 + 1, 6, none⟩ = some (.bool o3) := (blk_cell hR.1 6).trans rfl
      have c7 : wr.cell? ⟨w.heap.size + 1 + 1 + 1, 7, none⟩ = some (.int .i64 m3) := (blk_cell hR.1 7).trans rfl
      have d0 : wr.cell? ⟨w.heap.size + 1, 0, none⟩ = some (.bool false) := (blk_cell hR.2.2.1 0).trans rfl
      have e0 := blk_frozen hR.2.2.1 0
      have d1 : wr.cell? ⟨w.heap.size + 1, 1, none⟩ = some (.int .i64 0) := (blk_cell hR.2.2.1 1).trans rfl
      have e1 := blk_frozen hR.2.2.1 1
      have d2 : wr.cell? ⟨w.heap.size + 1, 2, none⟩ = some (.bool false) := (blk_cell hR.2.2.1 2).trans rfl
      have e2 := blk_frozen hR.2.2.1 2
      have d3 : wr.cell? ⟨w.heap.size + 1, 3, none⟩ = some (.int .i64 0) := (blk_cell hR.2.2.1 3).trans rfl
      have e3 := blk_frozen hR.2.2.1 3
      have d4 : wr.cell? ⟨w.heap.size + 1, 4, none⟩ = some (.bool false) := (blk_cell hR.2.2.1 4).trans rfl
      have e4 := blk_frozen hR.2.2.1 4
      have d5 : wr.cell? ⟨w.heap.size + 1, 5, none⟩ = some (.int .i64 0) := (blk_cell hR.2.2.1 5).trans rfl
      have e5 := blk_frozen hR.2.2.1 5
      have d6 : wr.cell? ⟨w.heap.size + 1, 6, none⟩ = some (.bool false) := (blk_cell hR.2.2.1 6).trans rfl
      have e6 := blk_frozen hR.2.2.1 6
      have d7 : wr.cell? ⟨w.heap.size + 1, 7, none⟩ = some (.int .i64 0) := (blk_cell hR.2.2.1 7).trans rfl
      have e7 := blk_frozen hR.2.2.1 7
      clear hR
      go_wp2
      have b1 := (blk_set (blk_set (blk_set (blk_set (blk_set (blk_set (blk_set (blk_set HR.out.2.2.1 0 (.bool o0)) 1 (.int .i64 m0)) 2 (.bool o1)) 3 (.int .i64 m1)) 4 (.bool o2)) 5 (.int .i64 m2)) 6 (.bool o3)) 7 (.int .i64 m3))
      refine bodyPost_ret (results_cell_row rfl _ _ (w.heap.size + 1) 38 #[.bool o0, .int .i64 m0, .bool o1, .int .i64 m1, .bool o2, .int .i64 m2, .bool o3, .int .i64 m3] (0, 0) _ rfl (by simpa using b1) Try.underlying38 rfl (by kernel_rfl)) rfl ?_
      exact ⟨rfl, (below_set (below_set (below_set (below_set (below_set (below_set (below_set (below_set HR.out.2.2.2 (by omega)) (by omega)) (by omega)) (by omega)) (by omega)) (by omega)) (by omega)) (by omega))⟩

def vsid (k n b : Int) : Int := if vfixed k b = true then vof k n b 0 else 0
def stick_Sides.f (k0 n0 k1 n1 k2 n2 k3 n3 v h : Int) : Option (Bool × Int × Bool × Int × Bool × Int × Bool × Int) := some (vfixed k0 h, vsid k0 n0 h, vfixed k1 v, vsid k1 n1 v, vfixed k2 h, vsid k2 n2 h, vfixed k3 v, vsid k3 n3 v)
theorem stick_Sides.calls (k0 n0 k1 n1 k2 n2 k3 n3 v h : Int) (o0 : Bool) (m0 : Int) (o1 : Bool) (m1 : Int) (o2 : Bool) (m2 : Int) (o3 : Bool) (m3 : Int) (w : World) (g : stick_Sides.f k0 n0 k1 n1 k2 n2 k3 n3 v h = some (o0, m0, o1, m1, o2, m2, o3, m3)) : Calls Try.prog 19 #[.agg #[.int .i64 k0, .int .i64 n0, .int .i64 k1, .int .i64 n1, .int .i64 k2, .int .i64 n2, .int .i64 k3, .int .i64 n3], .int .i64 v, .int .i64 h] w fun e w' => e = .returned (.agg #[.bool o0, .int .i64 m0, .bool o1, .int .i64 m1, .bool o2, .int .i64 m2, .bool o3, .int .i64 m3]) ∧ Below w.heap.size w w' := by
  have g' := Option.some.inj g
  simp only [Prod.mk.injEq] at g'
  obtain ⟨rfl, rfl, rfl, rfl, rfl, rfl, rfl, rfl⟩ := g'
  have sd : ∀ k n b : Int, (vfixed k b = true ∧ vof k n b 0 = vsid k n b) ∨ (vfixed k b = false ∧ vsid k n b = 0) := by
    intro k n b
    unfold vsid
    cases vfixed k b
    · exact .inr ⟨rfl, if_neg (by decide)⟩
    · exact .inl ⟨rfl, (if_pos rfl).symm⟩
  exact zg_sides k0 n0 k1 n1 k2 n2 k3 n3 v h _ _ _ _ _ _ _ _ w rfl (sd k0 n0 h) rfl (sd k1 n1 v) rfl (sd k2 n2 h) rfl (sd k3 n3 v)

end Go.Proofs.Ytnmcefpnpfaklab.V
