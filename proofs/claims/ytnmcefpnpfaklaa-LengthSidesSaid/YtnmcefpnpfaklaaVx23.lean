/- What the functions of this seat answer, as plain Lean functions, and that the calls come to just that (written by a program of this repo, over the kit's printer; Lean checks it). -/
import Derived.Test.YtnmcefpnpfaklaaVx0
import Derived.Test.YtnmcefpnpfaklaaVx2
import Derived.Test.YtnmcefpnpfaklaaVx3
import Derived.Test.YtnmcefpnpfaklaaVx4
import Derived.Test.YtnmcefpnpfaklaaVx5
import Derived.Test.YtnmcefpnpfaklaaVx7
import Derived.Test.YtnmcefpnpfaklaaVx9
import Derived.Test.YtnmcefpnpfaklaaVx10
namespace Go.Proofs.Ytnmcefpnpfaklaa.V
open Go.RowKit Go.Proofs.Ytnmcefpnpfaklaa.Flt Go.Proofs.YtnmcefpnpfaklaaW.PrintWords Go.Proofs.YtnmcefpnpfaklaaW.PrintLast Go.Proofs.YtnmcefpnpfaklaaW.PrintMore
attribute [local go_sem high] run_eql_vpt2 run_neq_vpt2 eqGuard_vpt2 vpt2_zero run_add_vpt2
attribute [local go_sem] max2_int min2_int max_two min_two max_three min_three max_four min_four   -- for this text's walks alone
set_option linter.unusedVariables false
set_option linter.unusedSimpArgs false

/-! ### valancelaw05_LengthSides: function 7 -/
theorem zy_works (w : World) : Calls Try.prog 12 #[] w fun e w' => e = .returned (.bool true) ∧ Below w.heap.size w w' := valancelaw05_works.calls _ w works05_eq
theorem zy_of (k n b no : Int) (w : World) : Calls Try.prog 13 #[.agg #[.int .i64 k, .int .i64 n], .int .i64 b, .int .i64 no] w fun e w' => e = .returned (.int .i64 (vof k n b no)) ∧ Below w.heap.size w w' := length_Of.calls k n b no _ w (length_Of_eq k n b no)
theorem zy_fixed (k n b : Int) (w : World) : Calls Try.prog 15 #[.agg #[.int .i64 k, .int .i64 n], .int .i64 b] w fun e w' => e = .returned (.bool (vfixed k b)) ∧ Below w.heap.size w w' := length_Fixed.calls k n b _ w (length_Fixed_eq k n b)
theorem zy_sides (k0 n0 k1 n1 k2 n2 k3 n3 b : Int) (w : World) : Calls Try.prog 19 #[.agg #[.int .i64 k0, .int .i64 n0, .int .i64 k1, .int .i64 n1, .int .i64 k2, .int .i64 n2, .int .i64 k3, .int .i64 n3], .int .i64 b] w fun e w' => e = .returned (.agg #[.int .i64 (vof k0 n0 b 0), .int .i64 (vof k1 n1 b 0), .int .i64 (vof k2 n2 b 0), .int .i64 (vof k3 n3 b 0)]) ∧ Below w.heap.size w w' := length_Sides.calls k0 n0 k1 n1 k2 n2 k3 n3 b _ _ _ _ w (length_Sides_eq k0 n0 k1 n1 k2 n2 k3 n3 b)
theorem zy_cases (k n b c : Int) : (k = 0 ∧ vof k n b 0 = 0 ∧ vfixed k b = false) ∨ (k = 1 ∧ vof k n c 0 = vof k n b 0 ∧ vfixed k b = true) ∨ (decide (k = 0) = false ∧ decide (k = 1) = false ∧ vfixed k b = true) ∨ (decide (k = 0) = false ∧ decide (k = 1) = false ∧ vof k n b 0 = 0 ∧ vfixed k b = false) := by
  by_cases h0 : k = 0
  · subst h0; exact .inl ⟨rfl, by unfold vof; rw [if_neg (by omega), if_neg (by omega)]; decide, by unfold vfixed; simp⟩
  by_cases h1 : k = 1
  · subst h1; exact .inr (.inl ⟨rfl, by unfold vof; rw [if_pos rfl, if_pos rfl], by unfold vfixed; simp⟩)
  cases hf : vfixed k b
  · exact .inr (.inr (.inr ⟨decide_eq_false h0, decide_eq_false h1, by rw [vof_no hf]; decide, rfl⟩))
  · exact .inr (.inr (.inl ⟨decide_eq_false h0, decide_eq_false h1, rfl⟩))
def LsS (x y z : Nat) (L S T : Array Value) (w W : World) : Prop := W.heap[x]? = some (.cells L 25 (0, 0)) ∧ W.heap[y]? = some (.cells S 30 (0, 0)) ∧ W.heap[z]? = some (.cells T 30 (0, 0)) ∧ Below w.heap.size w W
theorem LsS.below {x y z : Nat} {L S T : Array Value} {w W W1 : World} (h : LsS x y z L S T w W) (hb : Below W.heap.size W W1) : LsS x y z L S T w W1 := ⟨blk_below h.1 hb, blk_below h.2.1 hb, blk_below h.2.2.1 hb, below_step h.2.2.2 hb⟩
def LsR (p q i : Nat) (x y z : Nat) (L S T : Array Value) (k n s t : Value) (w W : World) : Prop := W.cell? ⟨x, p, none⟩ = some k ∧ W.cell? ⟨x, q, none⟩ = some n ∧ W.cell? ⟨y, i, none⟩ = some s ∧ W.cell? ⟨z, i, none⟩ = some t ∧ LsS x y z L S T w W
theorem LsR.below {p q i x y z : Nat} {L S T : Array Value} {k n s t : Value} {w W W1 : World} (h : LsR p q i x y z L S T k n s t w W) (hb : Below W.heap.size W W1) : LsR p q i x y z L S T k n s t w W1 := ⟨pw_cell_below hb h.1, pw_cell_below hb h.2.1, pw_cell_below hb h.2.2.1, pw_cell_below hb h.2.2.2.1, h.2.2.2.2.below hb⟩
def zls.T9 : Bool × List (List Nat × List Nat) := (true, [([], []), ([0], [0]), ([1], [1]), ([], []), ([3], [3]), ([4], [4]), ([], []), ([5, 6], [5, 6]), ([2, 7], [2, 7]), ([8, 7], [8]), ([9], [9]), ([10, 9], [9, 10]), ([11, 9], [9, 11]), ([12, 9], [9, 12]), ([13, 9], [9, 13]), ([14, 9, 9], [9, 14]), ([15], [15]), ([16, 15], [15, 16]), ([17, 15], [15, 17]), ([18, 15], [15, 18]), ([15, 19, 9], [9, 15, 19]), ([9, 20], [9, 20]), ([21, 15], [21]), ([22], [22]), ([23, 22], [22, 23]), ([24, 22], [22, 24]), ([25, 22], [22, 25]), ([26, 22], [22, 26]), ([27, 22, 22], [22, 27]), ([28], [28]), ([29, 28], [28, 29]), ([30, 28], [28, 30]), ([28], [28]), ([32, 28], [28, 32]), ([33, 28], [28, 33]), ([31, 34, 28], [28, 31, 34]), ([28, 35, 22], [22, 28, 35]), ([22, 36], [22, 36]), ([37, 28], [37]), ([38], [38]), ([39, 38], [38, 39]), ([40, 38], [38, 40]), ([38], [38]), ([41, 42, 38, 38], [38, 41, 42]), ([43, 38], [38, 43]), ([44, 43, 38], [38, 44]), ([45], [45]), ([46, 45], [45, 46]), ([47, 45], [45, 47]), ([48, 45], [45, 48]), ([45, 49, 38], [38, 45, 49]), ([38, 50], [38, 50])])
def zls.B9 : List Nat := [0, 1, 3, 0, 8, 24, 0, 120, 255, 511, 1023, 2047, 4095, 8191, 16383, 32767, 65535, 131071, 262143, 524287, 1048575, 2097151, 4194303, 8388607, 16777215, 33554431, 67108863, 134217727, 268435455, 536870911, 1073741823, 2147483647, 536870911, 4831838207, 13421772799, 34359738367, 68719476735, 137438953471, 274877906943, 549755813887, 1099511627775, 2199023255551, 549755813887, 8796093022207, 17592186044415, 35184372088831, 70368744177663, 140737488355327, 281474976710655, 562949953421311, 1125899906842623, 2251799813685247]
theorem zls.tab9 : rtab .any (opsOf Try.f7 9) = zls.T9 := by kernel_rfl
theorem zls.bits9 : waitsOk zls.T9.2 zls.B9 = true := by kernel_rfl
def LsL (x y z : Nat) (L S T : Array Value) (w : World) (i : Value) (W : World) : Prop := (i = .int .i64 0 ∧ LsS x y z L S T w W) ∨ (i = .int .i64 1 ∧ LsS x y z L S T w W) ∨ (i = .int .i64 2 ∧ LsS x y z L S T w W) ∨ (i = .int .i64 3 ∧ LsS x y z L S T w W) ∨ (i = .int .i64 4 ∧ LsS x y z L S T w W)
theorem zpu {P : Program} {ops : Array Oper} {Q : Exit → Act → World → Prop} {md : Region.Mode} {S : World → Prop} {ds : List Nat} (i : Nat) (N : Option Tmp) (l' : Array Bool) (v : Value) {oi : Oper} {fuel : Nat} {l : Array Bool} {a : Act} {w : World} (hi : ops[i]? = some oi) (hN : oi.dst = N) (hc : anyB md ops l l' i = true) (hw : Region.wanted oi (yielded ops a.tmps) = true) (hy : ∀ w, (execOp a.eval oi).run P w = .ok (.value v) w) (a' : Act) (ha : a.put N v = a') (h : wpAnyLast P md ops Q S ds fuel l' a' w) (hQ : ∀ c a w, Q (.panic c) (a.put oi.dst v) w → Q (.panic c) a w := by exact fun _ _ _ h => h) : wpAnyLast P md ops Q S ds (fuel + 1) l a w := pure_ l' hi hN hc hQ (Or.inl ⟨hw, hy⟩) ha h
theorem zpo {P : Program} {ops : Array Oper} {Q : Exit → Act → World → Prop} {md : Region.Mode} {S : World → Prop} {ds : List Nat} (i : Nat) (N : Option Tmp) (l' : Array Bool) {oi : Oper} {fuel : Nat} {l : Array Bool} {a : Act} {w : World} (hi : ops[i]? = some oi) (hN : oi.dst = N) (hc : anyB md ops l l' i = true) (hw : Region.wanted oi (yielded ops a.tmps) = false) (a' : Act) (ha : a.put N undef = a') (h : wpAnyLast P md ops Q S ds fuel l' a' w) (hQ : ∀ c a w, Q (.panic c) (a.put oi.dst undef) w → Q (.panic c) a w := by exact fun _ _ _ h => h) : wpAnyLast P md ops Q S ds (fuel + 1) l a w := pure_ l' hi hN hc hQ (Or.inr ⟨hw, rfl⟩) ha h
def zY0 : Array Bool := #[ff,ff,ff,ff,ff,ff,ff,ff,ff,ff,ff,ff,ff,ff,ff,ff,ff,ff,ff,ff,ff,ff,ff,ff,ff,ff,ff,ff,ff,ff,ff,ff,ff,ff,ff,ff,ff,ff,ff,ff,ff,ff,ff,ff,ff,ff,ff,ff,ff,ff,ff,ff]
def zY1 : Array Bool := #[tt,ff,ff,ff,ff,ff,ff,ff,ff,ff,ff,ff,ff,ff,ff,ff,ff,ff,ff,ff,ff,ff,ff,ff,ff,ff,ff,ff,ff,ff,ff,ff,ff,ff,ff,ff,ff,ff,ff,ff,ff,ff,ff,ff,ff,ff,ff,ff,ff,ff,ff,ff]
def zY2 : Array Bool := #[tt,tt,ff,ff,ff,ff,ff,ff,ff,ff,ff,ff,ff,ff,ff,ff,ff,ff,ff,ff,ff,ff,ff,ff,ff,ff,ff,ff,ff,ff,ff,ff,ff,ff,ff,ff,ff,ff,ff,ff,ff,ff,ff,ff,ff,ff,ff,ff,ff,ff,ff,ff]
def zY3 : Array Bool := #[tt,tt,ff,tt,ff,ff,ff,ff,ff,ff,ff,ff,ff,ff,ff,ff,ff,ff,ff,ff,ff,ff,ff,ff,ff,ff,ff,ff,ff,ff,ff,ff,ff,ff,ff,ff,ff,ff,ff,ff,ff,ff,ff,ff,ff,ff,ff,ff,ff,ff,ff,ff]
def zY4 : Array Bool := #[tt,tt,ff,tt,tt,ff,ff,ff,ff,ff,ff,ff,ff,ff,ff,ff,ff,ff,ff,ff,ff,ff,ff,ff,ff,ff,ff,ff,ff,ff,ff,ff,ff,ff,ff,ff,ff,ff,ff,ff,ff,ff,ff,ff,ff,ff,ff,ff,ff,ff,ff,ff]
def zY5 : Array Bool := #[tt,tt,ff,tt,tt,ff,tt,ff,ff,ff,ff,ff,ff,ff,ff,ff,ff,ff,ff,ff,ff,ff,ff,ff,ff,ff,ff,ff,ff,ff,ff,ff,ff,ff,ff,ff,ff,ff,ff,ff,ff,ff,ff,ff,ff,ff,ff,ff,ff,ff,ff,ff]
def zY6 : Array Bool := #[tt,tt,tt,tt,tt,ff,tt,ff,ff,ff,ff,ff,ff,ff,ff,ff,ff,ff,ff,ff,ff,ff,ff,ff,ff,ff,ff,ff,ff,ff,ff,ff,ff,ff,ff,ff,ff,ff,ff,ff,ff,ff,ff,ff,ff,ff,ff,ff,ff,ff,ff,ff]
def zY7 : Array Bool := #[tt,tt,tt,tt,tt,tt,tt,ff,ff,ff,ff,ff,ff,ff,ff,ff,ff,ff,ff,ff,ff,ff,ff,ff,ff,ff,ff,ff,ff,ff,ff,ff,ff,ff,ff,ff,ff,ff,ff,ff,ff,ff,ff,ff,ff,ff,ff,ff,ff,ff,ff,ff]
def zY8 : Array Bool := #[tt,tt,tt,tt,tt,tt,tt,tt,ff,ff,ff,ff,ff,ff,ff,ff,ff,ff,ff,ff,ff,ff,ff,ff,ff,ff,ff,ff,ff,ff,ff,ff,ff,ff,ff,ff,ff,ff,ff,ff,ff,ff,ff,ff,ff,ff,ff,ff,ff,ff,ff,ff]
def zY9 : Array Bool := #[tt,tt,tt,tt,tt,tt,tt,tt,tt,ff,ff,ff,ff,ff,ff,ff,ff,ff,ff,ff,ff,ff,ff,ff,ff,ff,ff,ff,ff,ff,ff,ff,ff,ff,ff,ff,ff,ff,ff,ff,ff,ff,ff,ff,ff,ff,ff,ff,ff,ff,ff,ff]
def zY10 : Array Bool := #[tt,tt,tt,tt,tt,tt,tt,tt,tt,tt,ff,ff,ff,ff,ff,ff,ff,ff,ff,ff,ff,ff,ff,ff,ff,ff,ff,ff,ff,ff,ff,ff,ff,ff,ff,ff,ff,ff,ff,ff,ff,ff,ff,ff,ff,ff,ff,ff,ff,ff,ff,ff]
def zY11 : Array Bool := #[tt,tt,tt,tt,tt,tt,tt,tt,tt,tt,tt,ff,ff,ff,ff,ff,ff,ff,ff,ff,ff,ff,ff,ff,ff,ff,ff,ff,ff,ff,ff,ff,ff,ff,ff,ff,ff,ff,ff,ff,ff,ff,ff,ff,ff,ff,ff,ff,ff,ff,ff,ff]
def zY12 : Array Bool := #[tt,tt,tt,tt,tt,tt,tt,tt,tt,tt,tt,tt,ff,ff,ff,ff,ff,ff,ff,ff,ff,ff,ff,ff,ff,ff,ff,ff,ff,ff,ff,ff,ff,ff,ff,ff,ff,ff,ff,ff,ff,ff,ff,ff,ff,ff,ff,ff,ff,ff,ff,ff]
def zY13 : Array Bool := #[tt,tt,tt,tt,tt,tt,tt,tt,tt,tt,tt,tt,tt,ff,ff,ff,ff,ff,ff,ff,ff,ff,ff,ff,ff,ff,ff,ff,ff,ff,ff,ff,ff,ff,ff,ff,ff,ff,ff,ff,ff,ff,ff,ff,ff,ff,ff,ff,ff,ff,ff,ff]
def zY14 : Array Bool := #[tt,tt,tt,tt,tt,tt,tt,tt,tt,tt,tt,tt,tt,tt,ff,ff,ff,ff,ff,ff,ff,ff,ff,ff,ff,ff,ff,ff,ff,ff,ff,ff,ff,ff,ff,ff,ff,ff,ff,ff,ff,ff,ff,ff,ff,ff,ff,ff,ff,ff,ff,ff]
def zY15 : Array Bool := #[tt,tt,tt,tt,tt,tt,tt,tt,tt,tt,tt,tt,tt,tt,tt,ff,ff,ff,ff,ff,ff,ff,ff,ff,ff,ff,ff,ff,ff,ff,ff,ff,ff,ff,ff,ff,ff,ff,ff,ff,ff,ff,ff,ff,ff,ff,ff,ff,ff,ff,ff,ff]
def zY16 : Array Bool := #[tt,tt,tt,tt,tt,tt,tt,tt,tt,tt,tt,tt,tt,tt,tt,tt,ff,ff,ff,ff,ff,ff,ff,ff,ff,ff,ff,ff,ff,ff,ff,ff,ff,ff,ff,ff,ff,ff,ff,ff,ff,ff,ff,ff,ff,ff,ff,ff,ff,ff,ff,ff]
def zY17 : Array Bool := #[tt,tt,tt,tt,tt,tt,tt,tt,tt,tt,tt,tt,tt,tt,tt,tt,tt,ff,ff,ff,ff,ff,ff,ff,ff,ff,ff,ff,ff,ff,ff,ff,ff,ff,ff,ff,ff,ff,ff,ff,ff,ff,ff,ff,ff,ff,ff,ff,ff,ff,ff,ff]
def zY18 : Array Bool := #[tt,tt,tt,tt,tt,tt,tt,tt,tt,tt,tt,tt,tt,tt,tt,tt,tt,tt,ff,ff,ff,ff,ff,ff,ff,ff,ff,ff,ff,ff,ff,ff,ff,ff,ff,ff,ff,ff,ff,ff,ff,ff,ff,ff,ff,ff,ff,ff,ff,ff,ff,ff]
def zY19 : Array Bool := #[tt,tt,tt,tt,tt,tt,tt,tt,tt,tt,tt,tt,tt,tt,tt,tt,tt,tt,tt,ff,ff,ff,ff,ff,ff,ff,ff,ff,ff,ff,ff,ff,ff,ff,ff,ff,ff,ff,ff,ff,ff,ff,ff,ff,ff,ff,ff,ff,ff,ff,ff,ff]
def zY20 : Array Bool := #[tt,tt,tt,tt,tt,tt,tt,tt,tt,tt,tt,tt,tt,tt,tt,tt,tt,tt,tt,tt,ff,ff,ff,ff,ff,ff,ff,ff,ff,ff,ff,ff,ff,ff,ff,ff,ff,ff,ff,ff,ff,ff,ff,ff,ff,ff,ff,ff,ff,ff,ff,ff]
def zY21 : Array Bool := #[tt,tt,tt,tt,tt,tt,tt,tt,tt,tt,tt,tt,tt,tt,tt,tt,tt,tt,tt,tt,tt,ff,ff,ff,ff,ff,ff,ff,ff,ff,ff,ff,ff,ff,ff,ff,ff,ff,ff,ff,ff,ff,ff,ff,ff,ff,ff,ff,ff,ff,ff,ff]
def zY22 : Array Bool := #[tt,tt,tt,tt,tt,tt,tt,tt,tt,tt,tt,tt,tt,tt,tt,tt,tt,tt,tt,tt,tt,tt,ff,ff,ff,ff,ff,ff,ff,ff,ff,ff,ff,ff,ff,ff,ff,ff,ff,ff,ff,ff,ff,ff,ff,ff,ff,ff,ff,ff,ff,ff]
def zY23 : Array Bool := #[tt,tt,tt,tt,tt,tt,tt,tt,tt,tt,tt,tt,tt,tt,tt,tt,tt,tt,tt,tt,tt,tt,tt,ff,ff,ff,ff,ff,ff,ff,ff,ff,ff,ff,ff,ff,ff,ff,ff,ff,ff,ff,ff,ff,ff,ff,ff,ff,ff,ff,ff,ff]
def zY24 : Array Bool := #[tt,tt,tt,tt,tt,tt,tt,tt,tt,tt,tt,tt,tt,tt,tt,tt,tt,tt,tt,tt,tt,tt,tt,tt,ff,ff,ff,ff,ff,ff,ff,ff,ff,ff,ff,ff,ff,ff,ff,ff,ff,ff,ff,ff,ff,ff,ff,ff,ff,ff,ff,ff]
def zY25 : Array Bool := #[tt,tt,tt,tt,tt,tt,tt,tt,tt,tt,tt,tt,tt,tt,tt,tt,tt,tt,tt,tt,tt,tt,tt,tt,tt,ff,ff,ff,ff,ff,ff,ff,ff,ff,ff,ff,ff,ff,ff,ff,ff,ff,ff,ff,ff,ff,ff,ff,ff,ff,ff,ff]
def zY26 : Array Bool := #[tt,tt,tt,tt,tt,tt,tt,tt,tt,tt,tt,tt,tt,tt,tt,tt,tt,tt,tt,tt,tt,tt,tt,tt,tt,tt,ff,ff,ff,ff,ff,ff,ff,ff,ff,ff,ff,ff,ff,ff,ff,ff,ff,ff,ff,ff,ff,ff,ff,ff,ff,ff]
def zY27 : Array Bool := #[tt,tt,tt,tt,tt,tt,tt,tt,tt,tt,tt,tt,tt,tt,tt,tt,tt,tt,tt,tt,tt,tt,tt,tt,tt,tt,tt,ff,ff,ff,ff,ff,ff,ff,ff,ff,ff,ff,ff,ff,ff,ff,ff,ff,ff,ff,ff,ff,ff,ff,ff,ff]
def zY28 : Array Bool := #[tt,tt,tt,tt,tt,tt,tt,tt,tt,tt,tt,tt,tt,tt,tt,tt,tt,tt,tt,tt,tt,tt,tt,tt,tt,tt,tt,tt,ff,ff,ff,ff,ff,ff,ff,ff,ff,ff,ff,ff,ff,ff,ff,ff,ff,ff,ff,ff,ff,ff,ff,ff]
def zY29 : Array Bool := #[tt,tt,tt,tt,tt,tt,tt,tt,tt,tt,tt,tt,tt,tt,tt,tt,tt,tt,tt,tt,tt,tt,tt,tt,tt,tt,tt,tt,tt,ff,ff,ff,ff,ff,ff,ff,ff,ff,ff,ff,ff,ff,ff,ff,ff,ff,ff,ff,ff,ff,ff,ff]
def zY30 : Array Bool := #[tt,tt,tt,tt,tt,tt,tt,tt,tt,tt,tt,tt,tt,tt,tt,tt,tt,tt,tt,tt,tt,tt,tt,tt,tt,tt,tt,tt,tt,tt,ff,ff,ff,ff,ff,ff,ff,ff,ff,ff,ff,ff,ff,ff,ff,ff,ff,ff,ff,ff,ff,ff]
def zY31 : Array Bool := #[tt,tt,tt,tt,tt,tt,tt,tt,tt,tt,tt,tt,tt,tt,tt,tt,tt,tt,tt,tt,tt,tt,tt,tt,tt,tt,tt,tt,tt,tt,tt,ff,ff,ff,ff,ff,ff,ff,ff,ff,ff,ff,ff,ff,ff,ff,ff,ff,ff,ff,ff,ff]
def zY32 : Array Bool := #[tt,tt,tt,tt,tt,tt,tt,tt,tt,tt,tt,tt,tt,tt,tt,tt,tt,tt,tt,tt,tt,tt,tt,tt,tt,tt,tt,tt,tt,tt,tt,tt,ff,ff,ff,ff,ff,ff,ff,ff,ff,ff,ff,ff,ff,ff,ff,ff,ff,ff,ff,ff]
def zY33 : Array Bool := #[tt,tt,tt,tt,tt,tt,tt,tt,tt,tt,tt,tt,tt,tt,tt,tt,tt,tt,tt,tt,tt,tt,tt,tt,tt,tt,tt,tt,tt,tt,tt,tt,tt,ff,ff,ff,ff,ff,ff,ff,ff,ff,ff,ff,ff,ff,ff,ff,ff,ff,ff,ff]
def zY34 : Array Bool := #[tt,tt,tt,tt,tt,tt,tt,tt,tt,tt,tt,tt,tt,tt,tt,tt,tt,tt,tt,tt,tt,tt,tt,tt,tt,tt,tt,tt,tt,tt,tt,tt,tt,tt,ff,ff,ff,ff,ff,ff,ff,ff,ff,ff,ff,ff,ff,ff,ff,ff,ff,ff]
def zY35 : Array Bool := #[tt,tt,tt,tt,tt,tt,tt,tt,tt,tt,tt,tt,tt,tt,tt,tt,tt,tt,tt,tt,tt,tt,tt,tt,tt,tt,tt,tt,tt,tt,tt,tt,tt,tt,tt,ff,ff,ff,ff,ff,ff,ff,ff,ff,ff,ff,ff,ff,ff,ff,ff,ff]
def zY36 : Array Bool := #[tt,tt,tt,tt,tt,tt,tt,tt,tt,tt,tt,tt,tt,tt,tt,tt,tt,tt,tt,tt,tt,tt,tt,tt,tt,tt,tt,tt,tt,tt,tt,tt,tt,tt,tt,tt,ff,ff,ff,ff,ff,ff,ff,ff,ff,ff,ff,ff,ff,ff,ff,ff]
def zY37 : Array Bool := #[tt,tt,tt,tt,tt,tt,tt,tt,tt,tt,tt,tt,tt,tt,tt,tt,tt,tt,tt,tt,tt,tt,tt,tt,tt,tt,tt,tt,tt,tt,tt,tt,tt,tt,tt,tt,tt,ff,ff,ff,ff,ff,ff,ff,ff,ff,ff,ff,ff,ff,ff,ff]
def zY38 : Array Bool := #[tt,tt,tt,tt,tt,tt,tt,tt,tt,tt,tt,tt,tt,tt,tt,tt,tt,tt,tt,tt,tt,tt,tt,tt,tt,tt,tt,tt,tt,tt,tt,tt,tt,tt,tt,tt,tt,tt,ff,ff,ff,ff,ff,ff,ff,ff,ff,ff,ff,ff,ff,ff]
def zY39 : Array Bool := #[tt,tt,tt,tt,tt,tt,tt,tt,tt,tt,tt,tt,tt,tt,tt,tt,tt,tt,tt,tt,tt,tt,tt,tt,tt,tt,tt,tt,tt,tt,tt,tt,tt,tt,tt,tt,tt,tt,tt,ff,ff,ff,ff,ff,ff,ff,ff,ff,ff,ff,ff,ff]
def zY40 : Array Bool := #[tt,tt,tt,tt,tt,tt,tt,tt,tt,tt,tt,tt,tt,tt,tt,tt,tt,tt,tt,tt,tt,tt,tt,tt,tt,tt,tt,tt,tt,tt,tt,tt,tt,tt,tt,tt,tt,tt,tt,tt,ff,ff,ff,ff,ff,ff,ff,ff,ff,ff,ff,ff]
def zY41 : Array Bool := #[tt,tt,tt,tt,tt,tt,tt,tt,tt,tt,tt,tt,tt,tt,tt,tt,tt,tt,tt,tt,tt,tt,tt,tt,tt,tt,tt,tt,tt,tt,tt,tt,tt,tt,tt,tt,tt,tt,tt,tt,tt,ff,ff,ff,ff,ff,ff,ff,ff,ff,ff,ff]
def zY42 : Array Bool := #[tt,tt,tt,tt,tt,tt,tt,tt,tt,tt,tt,tt,tt,tt,tt,tt,tt,tt,tt,tt,tt,tt,tt,tt,tt,tt,tt,tt,tt,tt,tt,tt,tt,tt,tt,tt,tt,tt,tt,tt,tt,ff,tt,ff,ff,ff,ff,ff,ff,ff,ff,ff]
def zY43 : Array Bool := #[tt,tt,tt,tt,tt,tt,tt,tt,tt,tt,tt,tt,tt,tt,tt,tt,tt,tt,tt,tt,tt,tt,tt,tt,tt,tt,tt,tt,tt,tt,tt,tt,tt,tt,tt,tt,tt,tt,tt,tt,tt,tt,tt,ff,ff,ff,ff,ff,ff,ff,ff,ff]
def zY44 : Array Bool := #[tt,tt,tt,tt,tt,tt,tt,tt,tt,tt,tt,tt,tt,tt,tt,tt,tt,tt,tt,tt,tt,tt,tt,tt,tt,tt,tt,tt,tt,tt,tt,tt,tt,tt,tt,tt,tt,tt,tt,tt,tt,tt,tt,tt,ff,ff,ff,ff,ff,ff,ff,ff]
def zY45 : Array Bool := #[tt,tt,tt,tt,tt,tt,tt,tt,tt,tt,tt,tt,tt,tt,tt,tt,tt,tt,tt,tt,tt,tt,tt,tt,tt,tt,tt,tt,tt,tt,tt,tt,tt,tt,tt,tt,tt,tt,tt,tt,tt,tt,tt,tt,tt,ff,ff,ff,ff,ff,ff,ff]
def zY46 : Array Bool := #[tt,tt,tt,tt,tt,tt,tt,tt,tt,tt,tt,tt,tt,tt,tt,tt,tt,tt,tt,tt,tt,tt,tt,tt,tt,tt,tt,tt,tt,tt,tt,tt,tt,tt,tt,tt,tt,tt,tt,tt,tt,tt,tt,tt,tt,tt,ff,ff,ff,ff,ff,ff]
def zY47 : Array Bool := #[tt,tt,tt,tt,tt,tt,tt,tt,tt,tt,tt,tt,tt,tt,tt,tt,tt,tt,tt,tt,tt,tt,tt,tt,tt,tt,tt,tt,tt,tt,tt,tt,tt,tt,tt,tt,tt,tt,tt,tt,tt,tt,tt,tt,tt,tt,tt,ff,ff,ff,ff,ff]
def zY48 : Array Bool := #[tt,tt,tt,tt,tt,tt,tt,tt,tt,tt,tt,tt,tt,tt,tt,tt,tt,tt,tt,tt,tt,tt,tt,tt,tt,tt,tt,tt,tt,tt,tt,tt,tt,tt,tt,tt,tt,tt,tt,tt,tt,tt,tt,tt,tt,tt,tt,tt,ff,ff,ff,ff]
def zY49 : Array Bool := #[tt,tt,tt,tt,tt,tt,tt,tt,tt,tt,tt,tt,tt,tt,tt,tt,tt,tt,tt,tt,tt,tt,tt,tt,tt,tt,tt,tt,tt,tt,tt,tt,tt,tt,tt,tt,tt,tt,tt,tt,tt,tt,tt,tt,tt,tt,tt,tt,tt,ff,ff,ff]
def zY50 : Array Bool := #[tt,tt,tt,tt,tt,tt,tt,tt,tt,tt,tt,tt,tt,tt,tt,tt,tt,tt,tt,tt,tt,tt,tt,tt,tt,tt,tt,tt,tt,tt,tt,tt,tt,tt,tt,tt,tt,tt,tt,tt,tt,tt,tt,tt,tt,tt,tt,tt,tt,tt,ff,ff]
def zY51 : Array Bool := #[tt,tt,tt,tt,tt,tt,tt,tt,tt,tt,tt,tt,tt,tt,tt,tt,tt,tt,tt,tt,tt,tt,tt,tt,tt,tt,tt,tt,tt,tt,tt,tt,tt,tt,tt,tt,tt,tt,tt,tt,tt,tt,tt,tt,tt,tt,tt,tt,tt,tt,tt,ff]
def zY52 : Array Bool := #[tt,tt,tt,tt,tt,tt,tt,tt,tt,tt,tt,tt,tt,tt,tt,tt,tt,tt,tt,tt,tt,tt,tt,tt,tt,tt,tt,tt,tt,tt,tt,tt,tt,tt,tt,tt,tt,tt,tt,tt,tt,tt,tt,tt,tt,tt,tt,tt,tt,tt,tt,tt]
def zY53 : Array Bool := #[tt,tt,tt,tt,tt,tt,tt,tt,tt,tt,tt,tt,tt,tt,tt,tt,tt,tt,tt,tt,tt,tt,tt,tt,tt,tt,tt,tt,tt,tt,tt,ff,tt,ff,ff,ff,ff,ff,ff,ff,ff,ff,ff,ff,ff,ff,ff,ff,ff,ff,ff,ff]
def zY54 : Array Bool := #[tt,tt,tt,tt,tt,tt,tt,tt,tt,tt,tt,tt,tt,tt,tt,tt,tt,tt,tt,tt,tt,tt,tt,tt,tt,tt,tt,tt,tt,tt,tt,ff,tt,tt,ff,ff,ff,ff,ff,ff,ff,ff,ff,ff,ff,ff,ff,ff,ff,ff,ff,ff]
set_option maxHeartbeats 4000000 in
theorem zy_law (k0 n0 k1 n1 k2 n2 k3 n3 b c : Int) (w : World) : Calls Try.prog 7 #[.agg #[.int .i64 k0, .int .i64 n0, .int .i64 k1, .int .i64 n1, .int .i64 k2, .int .i64 n2, .int .i64 k3, .int .i64 n3], .int .i64 b, .int .i64 c] w fun e w' => e = .returned (.bool true) ∧ Below w.heap.size w w' := by
  have hu24 := Try.underlying24
  have hu25 := Try.underlying25
  have hu30 := Try.underlying30
  go_enter Try.func7, Try.ntmps7
  have H0 := Aside0.mk (below_alloc (Below.refl w.heap.size w) (.cells #[.int .i64 k0, .int .i64 n0, .int .i64 k1, .int .i64 n1, .int .i64 k2, .int .i64 n2, .int .i64 k3, .int .i64 n3] 25))
  have K0 := Aside0.mk (blk_new w (.cells #[.int .i64 k0, .int .i64 n0, .int .i64 k1, .int .i64 n1, .int .i64 k2, .int .i64 n2, .int .i64 k3, .int .i64 n3] 25))
  go_wp2_with (go_at_call 12; refine (zy_works _).mono ?_; rintro e w1 ⟨rfl, hb⟩; replace H0 := Aside0.mk (below_step H0.out hb); replace K0 := Aside0.mk (blk_below K0.out hb); clear hb; have c0 : w1.cell? ⟨w.heap.size, 0, none⟩ = some (.int .i64 k0) := (blk_cell K0.out 0).trans rfl; have c1 : w1.cell? ⟨w.heap.size, 1, none⟩ = some (.int .i64 n0) := (blk_cell K0.out 1).trans rfl; have c2 : w1.cell? ⟨w.heap.size, 2, none⟩ = some (.int .i64 k1) := (blk_cell K0.out 2).trans rfl; have c3 : w1.cell? ⟨w.heap.size, 3, none⟩ = some (.int .i64 n1) := (blk_cell K0.out 3).trans rfl; have c4 : w1.cell? ⟨w.heap.size, 4, none⟩ = some (.int .i64 k2) := (blk_cell K0.out 4).trans rfl; have c5 : w1.cell? ⟨w.heap.size, 5, none⟩ = some (.int .i64 n2) := (blk_cell K0.out 5).trans rfl; have c6 : w1.cell? ⟨w.heap.size, 6, none⟩ = some (.int .i64 k3) := (blk_cell K0.out 6).trans rfl; have c7 : w1.cell? ⟨w.heap.size, 7, none⟩ = some (.int .i64 n3) := (blk_cell K0.out 7).trans rfl)
  go_wp2_with (go_at_call 19; refine (zy_sides _ _ _ _ _ _ _ _ _ _).mono ?_; rintro e w2 ⟨rfl, hb⟩; replace H0 := Aside0.mk (below_step H0.out hb); replace K0 := Aside0.mk (blk_below K0.out hb); clear hb; clear c0 c1 c2 c3 c4 c5 c6 c7; have c0 : w2.cell? ⟨w.heap.size, 0, none⟩ = some (.int .i64 k0) := (blk_cell K0.out 0).trans rfl; have c1 : w2.cell? ⟨w.heap.size, 1, none⟩ = some (.int .i64 n0) := (blk_cell K0.out 1).trans rfl; have c2 : w2.cell? ⟨w.heap.size, 2, none⟩ = some (.int .i64 k1) := (blk_cell K0.out 2).trans rfl; have c3 : w2.cell? ⟨w.heap.size, 3, none⟩ = some (.int .i64 n1) := (blk_cell K0.out 3).trans rfl; have c4 : w2.cell? ⟨w.heap.size, 4, none⟩ = some (.int .i64 k2) := (blk_cell K0.out 4).trans rfl; have c5 : w2.cell? ⟨w.heap.size, 5, none⟩ = some (.int .i64 n2) := (blk_cell K0.out 5).trans rfl; have c6 : w2.cell? ⟨w.heap.size, 6, none⟩ = some (.int .i64 k3) := (blk_cell K0.out 6).trans rfl; have c7 : w2.cell? ⟨w.heap.size, 7, none⟩ = some (.int .i64 n3) := (blk_cell K0.out 7).trans rfl; have hlt := World.block_lt_of_cell? w2 _ c0)
  go_wp2_with (go_at_call 19; refine (zy_sides _ _ _ _ _ _ _ _ _ _).mono ?_; rintro e w3 ⟨rfl, hb⟩; clear c0 c1 c2 c3 c4 c5 c6 c7; have HB := Aside0.mk hb; clear hb)
  have hS : LsS w.heap.size w2.heap.size w3.heap.size #[.int .i64 k0, .int .i64 n0, .int .i64 k1, .int .i64 n1, .int .i64 k2, .int .i64 n2, .int .i64 k3, .int .i64 n3] #[.int .i64 (vof k0 n0 b 0), .int .i64 (vof k1 n1 b 0), .int .i64 (vof k2 n2 b 0), .int .i64 (vof k3 n3 b 0)] #[.int .i64 (vof k0 n0 c 0), .int .i64 (vof k1 n1 c 0), .int .i64 (vof k2 n2 c 0), .int .i64 (vof k3 n3 c 0)] w (w3.alloc (.cells #[.int .i64 (vof k0 n0 c 0), .int .i64 (vof k1 n1 c 0), .int .i64 (vof k2 n2 c 0), .int .i64 (vof k3 n3 c 0)] 30)) :=
    ⟨blk_alloc (blk_below (blk_alloc K0.out _) HB.out) _, blk_alloc (blk_below (blk_new w2 _) HB.out) _, blk_new w3 _, below_alloc (below_step (below_alloc H0.out _) HB.out) _⟩
  have HS := Aside0.mk hS
  clear hS H0 K0 HB hlt
  go_loopw [10] (fun i W => LsL w.heap.size w2.heap.size w3.heap.size #[.int .i64 k0, .int .i64 n0, .int .i64 k1, .int .i64 n1, .int .i64 k2, .int .i64 n2, .int .i64 k3, .int .i64 n3] #[.int .i64 (vof k0 n0 b 0), .int .i64 (vof k1 n1 b 0), .int .i64 (vof k2 n2 b 0), .int .i64 (vof k3 n3 b 0)] #[.int .i64 (vof k0 n0 c 0), .int .i64 (vof k1 n1 c 0), .int .i64 (vof k2 n2 c 0), .int .i64 (vof k3 n3 c 0)] w i W) (fun i _ => 4 - (intOf i).toNat)
  case atStart => exact .inl ⟨rfl, HS.out⟩
  case round =>
    clear HS
    rcases hrel with ⟨rfl, hR⟩ | ⟨rfl, hR⟩ | ⟨rfl, hR⟩ | ⟨rfl, hR⟩ | ⟨rfl, hR⟩
    · have hof := zy_of k0 n0 b 0
      have hfx := zy_fixed k0 n0 b
      have q0 : wr.cell? ⟨w.heap.size, 0, none⟩ = some (.int .i64 k0) := (blk_cell hR.1 0).trans rfl
      have q1 : wr.cell? ⟨w.heap.size, 1, none⟩ = some (.int .i64 n0) := (blk_cell hR.1 1).trans rfl
      have q2 : wr.cell? ⟨w2.heap.size, 0, none⟩ = some (.int .i64 (vof k0 n0 b 0)) := (blk_cell hR.2.1 0).trans rfl
      have q3 : wr.cell? ⟨w3.heap.size, 0, none⟩ = some (.int .i64 (vof k0 n0 c 0)) := (blk_cell hR.2.2.1 0).trans rfl
      have HQ := Aside0.mk hR
      clear hR
      have hcase := zy_cases k0 n0 b c
      generalize hL : (#[.int .i64 k0, .int .i64 n0, .int .i64 k1, .int .i64 n1, .int .i64 k2, .int .i64 n2, .int .i64 k3, .int .i64 n3] : Array Value) = L at *
      generalize hSb : (#[.int .i64 (vof k0 n0 b 0), .int .i64 (vof k1 n1 b 0), .int .i64 (vof k2 n2 b 0), .int .i64 (vof k3 n3 b 0)] : Array Value) = Sa at *
      generalize hTb : (#[.int .i64 (vof k0 n0 c 0), .int .i64 (vof k1 n1 c 0), .int .i64 (vof k2 n2 c 0), .int .i64 (vof k3 n3 c 0)] : Array Value) = Ta at *
      clear hL hSb hTb
      generalize vof k0 n0 b 0 = s at *
      generalize vof k0 n0 c 0 = t at *
      generalize vfixed k0 b = f at *
      rcases hcase with ⟨rfl, rfl, rfl⟩ | ⟨rfl, rfl, rfl⟩ | ⟨e0, e1, rfl⟩ | ⟨e0, e1, rfl, rfl⟩
      · skip
        go_wp2
        have hS0 : LsR 0 1 0 w.heap.size w2.heap.size w3.heap.size L Sa Ta _ _ _ _ w wr := ⟨q0, q1, q2, q3, HQ.out⟩
        clear q0 q1 q2 q3 HQ
        unfold LsR at hS0
        refine start_ (n := 52) (S := fun w' => w'.cell? ⟨w.heap.size, 0, none⟩ = some (.int .i64 0) ∧ w'.cell? ⟨w.heap.size, 1, none⟩ = some (.int .i64 n0) ∧ w'.cell? ⟨w2.heap.size, 0, none⟩ = some (.int .i64 0) ∧ w'.cell? ⟨w3.heap.size, 0, none⟩ = some (.int .i64 t) ∧ LsS w.heap.size w2.heap.size w3.heap.size L Sa Ta w w') (ds := []) zY0 (by kernel_rfl) rfl rfl ⟨(LsR.below hS0 (below_drew1 (Below.refl _ _))).1, (LsR.below hS0 (below_drew1 (Below.refl _ _))).2.1, (LsR.below hS0 (below_drew1 (Below.refl _ _))).2.2.1, (LsR.below hS0 (below_drew1 (Below.refl _ _))).2.2.2.1, (LsR.below hS0 (below_drew1 (Below.refl _ _))).2.2.2.2⟩ (fun hHeld => ?_)
        refine with_tabW zls.tab9 zls.bits9 (fun HT_ HW_ => ?_)
        refine zpu 0 (some 24) zY1 ?_ rfl rfl (any_of HT_.out (by kernel_rfl)) (by rfl) ?_ ?_ ?_ ?_
        rotate_left; (intro w'; go_simp; with_reducible rfl); rotate_left; (simp only [Act.put, List.setIfInBounds_toArray, List.set_cons_zero, List.set_cons_succ]; rfl)
        refine zpu 1 (some 25) zY2 ?_ rfl rfl (any_of HT_.out (by kernel_rfl)) (by rfl) ?_ ?_ ?_ ?_
        rotate_left; (intro w'; go_simp; with_reducible rfl); rotate_left; (simp only [Act.put, List.setIfInBounds_toArray, List.set_cons_zero, List.set_cons_succ]; rfl)
        refine zpu 3 (some 27) zY3 ?_ rfl rfl (any_of HT_.out (by kernel_rfl)) (by rfl) ?_ ?_ ?_ ?_
        rotate_left; (intro w'; go_simp; with_reducible rfl); rotate_left; (simp only [Act.put, List.setIfInBounds_toArray, List.set_cons_zero, List.set_cons_succ]; rfl)
        refine zpu 4 (some 28) zY4 ?_ rfl rfl (any_of HT_.out (by kernel_rfl)) (by rfl) ?_ ?_ ?_ ?_
        rotate_left; (intro w'; go_simp; with_reducible rfl); rotate_left; (simp only [Act.put, List.setIfInBounds_toArray, List.set_cons_zero, List.set_cons_succ]; rfl)
        refine zpu 6 (some 30) zY5 ?_ rfl rfl (any_of HT_.out (by kernel_rfl)) (by rfl) ?_ ?_ ?_ ?_
        rotate_left; (intro w'; go_simp; with_reducible rfl); rotate_left; (simp only [Act.put, List.setIfInBounds_toArray, List.set_cons_zero, List.set_cons_succ]; rfl)
        refine take_ (i := 2) (N := some 26) (v := ?_) (a' := ?_) zY6 rfl rfl (take_ofW HT_.out HW_.out (by kernel_rfl)) (fun _ _ _ h => h) (Or.inl ⟨by rfl, ?_⟩) hHeld ?_ ?_
        rotate_left; (rintro w' ⟨s0, s1, s2, s3, s4⟩; go_simp; with_reducible rfl); rotate_left; (simp only [Act.put, List.setIfInBounds_toArray, List.set_cons_zero, List.set_cons_succ]; rfl)
        refine take_ (i := 5) (N := some 29) (v := ?_) (a' := ?_) zY7 rfl rfl (take_ofW HT_.out HW_.out (by kernel_rfl)) (fun _ _ _ h => h) (Or.inl ⟨by rfl, ?_⟩) hHeld ?_ ?_
        rotate_left; (rintro w' ⟨s0, s1, s2, s3, s4⟩; go_simp; with_reducible rfl); rotate_left; (simp only [Act.put, List.setIfInBounds_toArray, List.set_cons_zero, List.set_cons_succ]; rfl)
        refine one_ (i := 7) (N := some 31) zY8 rfl rfl (one_of HT_.out (by kernel_rfl)) (by decide) (fun K hK => ?_)
        refine goes_ Try.func13 (by kernel_rfl) rfl #[.agg #[.int .i64 0, .int .i64 n0], .int .i64 b, .int .i64 0] (by rfl) rfl rfl (by simp only [List.map_toArray, List.map_cons, List.map_nil]; rfl) ?_
        with_reducible refine (hof _).mono ?_
        rintro e w5 ⟨rfl, hb⟩
        refine ⟨_, rfl, ?_⟩
        refine hK.out _ _ ⟨(LsR.below hHeld hb).1, (LsR.below hHeld hb).2.1, (LsR.below hHeld hb).2.2.1, (LsR.below hHeld hb).2.2.2.1, (LsR.below hHeld hb).2.2.2.2⟩ (fun hHeld => ?_)
        clear hK K
        refine norm_ (a' := ?_) ?_ ?_
        rotate_left
        · show Act.put _ (some 31) _ = _
          simp only [Act.put, List.setIfInBounds_toArray, List.set_cons_zero, List.set_cons_succ, i64_w, i32_w]
          rfl
        refine zpu 8 (some 32) zY9 ?_ rfl rfl (any_of HT_.out (by kernel_rfl)) (by rfl) ?_ ?_ ?_ ?_
        rotate_left; (intro w'; go_simp; with_reducible rfl); rotate_left; (simp only [Act.put, List.setIfInBounds_toArray, List.set_cons_zero, List.set_cons_succ]; rfl)
        refine zpu 9 (some 33) zY10 ?_ rfl rfl (any_of HT_.out (by kernel_rfl)) (by rfl) ?_ ?_ ?_ ?_
        rotate_left; (intro w'; go_simp; with_reducible rfl); rotate_left; (simp only [Act.put, List.setIfInBounds_toArray, List.set_cons_zero, List.set_cons_succ]; rfl)
        refine zpu 10 (some 34) zY11 ?_ rfl rfl (any_of HT_.out (by kernel_rfl)) (by rfl) ?_ ?_ ?_ ?_
        rotate_left; (intro w'; go_simp; with_reducible rfl); rotate_left; (simp only [Act.put, List.setIfInBounds_toArray, List.set_cons_zero, List.set_cons_succ]; rfl)
        refine zpu 11 (some 35) zY12 ?_ rfl rfl (any_of HT_.out (by kernel_rfl)) (by rfl) ?_ ?_ ?_ ?_
        rotate_left; (intro w'; go_simp; with_reducible rfl); rotate_left; (simp only [Act.put, List.setIfInBounds_toArray, List.set_cons_zero, List.set_cons_succ]; rfl)
        refine zpu 12 (some 36) zY13 ?_ rfl rfl (any_of HT_.out (by kernel_rfl)) (by rfl) ?_ ?_ ?_ ?_
        rotate_left; (intro w'; go_simp; with_reducible rfl); rotate_left; (simp only [Act.put, List.setIfInBounds_toArray, List.set_cons_zero, List.set_cons_succ]; rfl)
        refine take_ (i := 13) (N := some 37) (v := ?_) (a' := ?_) zY14 rfl rfl (take_ofW HT_.out HW_.out (by kernel_rfl)) (fun _ _ _ h => h) (Or.inl ⟨by rfl, ?_⟩) hHeld ?_ ?_
        rotate_left; (rintro w' ⟨s0, s1, s2, s3, s4⟩; go_simp; with_reducible rfl); rotate_left; (simp only [Act.put, List.setIfInBounds_toArray, List.set_cons_zero, List.set_cons_succ]; rfl)
        refine zpu 14 (some 38) zY15 ?_ rfl rfl (any_of HT_.out (by kernel_rfl)) (by rfl) ?_ ?_ ?_ ?_
        rotate_left; (intro w'; go_simp; with_reducible rfl); rotate_left; (simp only [Act.put, List.setIfInBounds_toArray, List.set_cons_zero, List.set_cons_succ]; rfl)
        refine zpu 15 (some 39) zY16 ?_ rfl rfl (any_of HT_.out (by kernel_rfl)) (by rfl) ?_ ?_ ?_ ?_
        rotate_left; (intro w'; go_simp; with_reducible rfl); rotate_left; (simp only [Act.put, List.setIfInBounds_toArray, List.set_cons_zero, List.set_cons_succ]; rfl)
        refine zpu 16 (some 40) zY17 ?_ rfl rfl (any_of HT_.out (by kernel_rfl)) (by rfl) ?_ ?_ ?_ ?_
        rotate_left; (intro w'; go_simp; with_reducible rfl); rotate_left; (simp only [Act.put, List.setIfInBounds_toArray, List.set_cons_zero, List.set_cons_succ]; rfl)
        refine zpu 17 (some 41) zY18 ?_ rfl rfl (any_of HT_.out (by kernel_rfl)) (by rfl) ?_ ?_ ?_ ?_
        rotate_left; (intro w'; go_simp; with_reducible rfl); rotate_left; (simp only [Act.put, List.setIfInBounds_toArray, List.set_cons_zero, List.set_cons_succ]; rfl)
        refine take_ (i := 18) (N := some 42) (v := ?_) (a' := ?_) zY19 rfl rfl (take_ofW HT_.out HW_.out (by kernel_rfl)) (fun _ _ _ h => h) (Or.inl ⟨by rfl, ?_⟩) hHeld ?_ ?_
        rotate_left; (rintro w' ⟨s0, s1, s2, s3, s4⟩; go_simp; with_reducible rfl); rotate_left; (simp only [Act.put, List.setIfInBounds_toArray, List.set_cons_zero, List.set_cons_succ]; rfl)
        refine zpu 19 (some 43) zY20 ?_ rfl rfl (any_of HT_.out (by kernel_rfl)) (by rfl) ?_ ?_ ?_ ?_
        rotate_left; (intro w'; go_simp; with_reducible rfl); rotate_left; (simp only [Act.put, List.setIfInBounds_toArray, List.set_cons_zero, List.set_cons_succ]; rfl)
        refine zpu 20 (some 44) zY21 ?_ rfl rfl (any_of HT_.out (by kernel_rfl)) (by rfl) ?_ ?_ ?_ ?_
        rotate_left; (intro w'; go_simp; with_reducible rfl); rotate_left; (simp only [Act.put, List.setIfInBounds_toArray, List.set_cons_zero, List.set_cons_succ]; rfl)
        refine zpu 21 (some 45) zY22 ?_ rfl rfl (any_of HT_.out (by kernel_rfl)) (by rfl) ?_ ?_ ?_ ?_
        rotate_left; (intro w'; go_simp; with_reducible rfl); rotate_left; (simp only [Act.put, List.setIfInBounds_toArray, List.set_cons_zero, List.set_cons_succ]; rfl)
        refine zpu 22 (some 46) zY23 ?_ rfl rfl (any_of HT_.out (by kernel_rfl)) (by rfl) ?_ ?_ ?_ ?_
        rotate_left; (intro w'; go_simp; with_reducible rfl); rotate_left; (simp only [Act.put, List.setIfInBounds_toArray, List.set_cons_zero, List.set_cons_succ]; rfl)
        refine zpu 23 (some 47) zY24 ?_ rfl rfl (any_of HT_.out (by kernel_rfl)) (by rfl) ?_ ?_ ?_ ?_
        rotate_left; (intro w'; go_simp; with_reducible rfl); rotate_left; (simp only [Act.put, List.setIfInBounds_toArray, List.set_cons_zero, List.set_cons_succ]; rfl)
        refine zpu 24 (some 48) zY25 ?_ rfl rfl (any_of HT_.out (by kernel_rfl)) (by rfl) ?_ ?_ ?_ ?_
        rotate_left; (intro w'; go_simp; with_reducible rfl); rotate_left; (simp only [Act.put, List.setIfInBounds_toArray, List.set_cons_zero, List.set_cons_succ]; rfl)
        refine zpu 25 (some 49) zY26 ?_ rfl rfl (any_of HT_.out (by kernel_rfl)) (by rfl) ?_ ?_ ?_ ?_
        rotate_left; (intro w'; go_simp; with_reducible rfl); rotate_left; (simp only [Act.put, List.setIfInBounds_toArray, List.set_cons_zero, List.set_cons_succ]; rfl)
        refine take_ (i := 26) (N := some 50) (v := ?_) (a' := ?_) zY27 rfl rfl (take_ofW HT_.out HW_.out (by kernel_rfl)) (fun _ _ _ h => h) (Or.inl ⟨by rfl, ?_⟩) hHeld ?_ ?_
        rotate_left; (rintro w' ⟨s0, s1, s2, s3, s4⟩; go_simp; with_reducible rfl); rotate_left; (simp only [Act.put, List.setIfInBounds_toArray, List.set_cons_zero, List.set_cons_succ]; rfl)
        refine zpu 27 (some 51) zY28 ?_ rfl rfl (any_of HT_.out (by kernel_rfl)) (by rfl) ?_ ?_ ?_ ?_
        rotate_left; (intro w'; go_simp; with_reducible rfl); rotate_left; (simp only [Act.put, List.setIfInBounds_toArray, List.set_cons_zero, List.set_cons_succ]; rfl)
        refine zpu 28 (some 52) zY29 ?_ rfl rfl (any_of HT_.out (by kernel_rfl)) (by rfl) ?_ ?_ ?_ ?_
        rotate_left; (intro w'; go_simp; with_reducible rfl); rotate_left; (simp only [Act.put, List.setIfInBounds_toArray, List.set_cons_zero, List.set_cons_succ]; rfl)
        refine zpo 29 (some 53) zY30 rfl rfl (any_of HT_.out (by kernel_rfl)) (by rfl) ?_ ?_ ?_
        rotate_left; (simp only [Act.put, List.setIfInBounds_toArray, List.set_cons_zero, List.set_cons_succ]; rfl)
        refine zpo 30 (some 54) zY31 rfl rfl (any_of HT_.out (by kernel_rfl)) (by rfl) ?_ ?_ ?_
        rotate_left; (simp only [Act.put, List.setIfInBounds_toArray, List.set_cons_zero, List.set_cons_succ]; rfl)
        refine zpo 31 (some 55) zY32 rfl rfl (any_of HT_.out (by kernel_rfl)) (by rfl) ?_ ?_ ?_
        rotate_left; (simp only [Act.put, List.setIfInBounds_toArray, List.set_cons_zero, List.set_cons_succ]; rfl)
        refine zpo 32 (some 56) zY33 rfl rfl (any_of HT_.out (by kernel_rfl)) (by rfl) ?_ ?_ ?_
        rotate_left; (simp only [Act.put, List.setIfInBounds_toArray, List.set_cons_zero, List.set_cons_succ]; rfl)
        refine zpo 33 (some 57) zY34 rfl rfl (any_of HT_.out (by kernel_rfl)) (by rfl) ?_ ?_ ?_
        rotate_left; (simp only [Act.put, List.setIfInBounds_toArray, List.set_cons_zero, List.set_cons_succ]; rfl)
        refine zpo 34 (some 58) zY35 rfl rfl (any_of HT_.out (by kernel_rfl)) (by rfl) ?_ ?_ ?_
        rotate_left; (simp only [Act.put, List.setIfInBounds_toArray, List.set_cons_zero, List.set_cons_succ]; rfl)
        refine zpo 35 (some 59) zY36 rfl rfl (any_of HT_.out (by kernel_rfl)) (by rfl) ?_ ?_ ?_
        rotate_left; (simp only [Act.put, List.setIfInBounds_toArray, List.set_cons_zero, List.set_cons_succ]; rfl)
        refine zpu 36 (some 60) zY37 ?_ rfl rfl (any_of HT_.out (by kernel_rfl)) (by rfl) ?_ ?_ ?_ ?_
        rotate_left; (intro w'; go_simp; with_reducible rfl); rotate_left; (simp only [Act.put, List.setIfInBounds_toArray, List.set_cons_zero, List.set_cons_succ]; rfl)
        refine zpu 37 (some 61) zY38 ?_ rfl rfl (any_of HT_.out (by kernel_rfl)) (by rfl) ?_ ?_ ?_ ?_
        rotate_left; (intro w'; go_simp; with_reducible rfl); rotate_left; (simp only [Act.put, List.setIfInBounds_toArray, List.set_cons_zero, List.set_cons_succ]; rfl)
        refine zpu 38 (some 62) zY39 ?_ rfl rfl (any_of HT_.out (by kernel_rfl)) (by rfl) ?_ ?_ ?_ ?_
        rotate_left; (intro w'; go_simp; with_reducible rfl); rotate_left; (simp only [Act.put, List.setIfInBounds_toArray, List.set_cons_zero, List.set_cons_succ]; rfl)
        refine zpu 39 (some 63) zY40 ?_ rfl rfl (any_of HT_.out (by kernel_rfl)) (by rfl) ?_ ?_ ?_ ?_
        rotate_left; (intro w'; go_simp; with_reducible rfl); rotate_left; (simp only [Act.put, List.setIfInBounds_toArray, List.set_cons_zero, List.set_cons_succ]; rfl)
        refine zpu 40 (some 64) zY41 ?_ rfl rfl (any_of HT_.out (by kernel_rfl)) (by rfl) ?_ ?_ ?_ ?_
        rotate_left; (intro w'; go_simp; with_reducible rfl); rotate_left; (simp only [Act.put, List.setIfInBounds_toArray, List.set_cons_zero, List.set_cons_succ]; rfl)
        refine zpu 42 (some 66) zY42 ?_ rfl rfl (any_of HT_.out (by kernel_rfl)) (by rfl) ?_ ?_ ?_ ?_
        rotate_left; (intro w'; go_simp; with_reducible rfl); rotate_left; (simp only [Act.put, List.setIfInBounds_toArray, List.set_cons_zero, List.set_cons_succ]; rfl)
        refine take_ (i := 41) (N := some 65) (v := ?_) (a' := ?_) zY43 rfl rfl (take_ofW HT_.out HW_.out (by kernel_rfl)) (fun _ _ _ h => h) (Or.inl ⟨by rfl, ?_⟩) hHeld ?_ ?_
        rotate_left; (rintro w' ⟨s0, s1, s2, s3, s4⟩; go_simp; with_reducible rfl); rotate_left; (simp only [Act.put, List.setIfInBounds_toArray, List.set_cons_zero, List.set_cons_succ]; rfl)
        refine one_ (i := 43) (N := some 67) zY44 rfl rfl (one_of HT_.out (by kernel_rfl)) (by decide) (fun K hK => ?_)
        refine goes_ Try.func15 (by kernel_rfl) rfl #[.agg #[.int .i64 0, .int .i64 n0], .int .i64 b] (by rfl) rfl rfl (by simp only [List.map_toArray, List.map_cons, List.map_nil]; rfl) ?_
        with_reducible refine (hfx _).mono ?_
        rintro e w6 ⟨rfl, hb⟩
        refine ⟨_, rfl, ?_⟩
        refine hK.out _ _ ⟨(LsR.below hHeld hb).1, (LsR.below hHeld hb).2.1, (LsR.below hHeld hb).2.2.1, (LsR.below hHeld hb).2.2.2.1, (LsR.below hHeld hb).2.2.2.2⟩ (fun hHeld => ?_)
        clear hK K
        refine norm_ (a' := ?_) ?_ ?_
        rotate_left
        · show Act.put _ (some 67) _ = _
          simp only [Act.put, List.setIfInBounds_toArray, List.set_cons_zero, List.set_cons_succ, i64_w, i32_w]
          rfl
        refine zpu 44 (some 68) zY45 ?_ rfl rfl (any_of HT_.out (by kernel_rfl)) (by rfl) ?_ ?_ ?_ ?_
        rotate_left; (intro w'; go_simp; with_reducible rfl); rotate_left; (simp only [Act.put, List.setIfInBounds_toArray, List.set_cons_zero, List.set_cons_succ]; rfl)
        refine zpu 45 (some 69) zY46 ?_ rfl rfl (any_of HT_.out (by kernel_rfl)) (by rfl) ?_ ?_ ?_ ?_
        rotate_left; (intro w'; go_simp; with_reducible rfl); rotate_left; (simp only [Act.put, List.setIfInBounds_toArray, List.set_cons_zero, List.set_cons_succ]; rfl)
        refine zpu 46 (some 70) zY47 ?_ rfl rfl (any_of HT_.out (by kernel_rfl)) (by rfl) ?_ ?_ ?_ ?_
        rotate_left; (intro w'; go_simp; with_reducible rfl); rotate_left; (simp only [Act.put, List.setIfInBounds_toArray, List.set_cons_zero, List.set_cons_succ]; rfl)
        refine zpu 47 (some 71) zY48 ?_ rfl rfl (any_of HT_.out (by kernel_rfl)) (by rfl) ?_ ?_ ?_ ?_
        rotate_left; (intro w'; go_simp; with_reducible rfl); rotate_left; (simp only [Act.put, List.setIfInBounds_toArray, List.set_cons_zero, List.set_cons_succ]; rfl)
        refine take_ (i := 48) (N := some 72) (v := ?_) (a' := ?_) zY49 rfl rfl (take_ofW HT_.out HW_.out (by kernel_rfl)) (fun _ _ _ h => h) (Or.inl ⟨by rfl, ?_⟩) hHeld ?_ ?_
        rotate_left; (rintro w' ⟨s0, s1, s2, s3, s4⟩; go_simp; with_reducible rfl); rotate_left; (simp only [Act.put, List.setIfInBounds_toArray, List.set_cons_zero, List.set_cons_succ]; rfl)
        refine zpu 49 (some 73) zY50 ?_ rfl rfl (any_of HT_.out (by kernel_rfl)) (by rfl) ?_ ?_ ?_ ?_
        rotate_left; (intro w'; go_simp; with_reducible rfl); rotate_left; (simp only [Act.put, List.setIfInBounds_toArray, List.set_cons_zero, List.set_cons_succ]; rfl)
        refine zpu 50 (some 74) zY51 ?_ rfl rfl (any_of HT_.out (by kernel_rfl)) (by rfl) ?_ ?_ ?_ ?_
        rotate_left; (intro w'; go_simp; with_reducible rfl); rotate_left; (simp only [Act.put, List.setIfInBounds_toArray, List.set_cons_zero, List.set_cons_succ]; rfl)
        refine zpu 51 (some 75) zY52 ?_ rfl rfl (any_of HT_.out (by kernel_rfl)) (by rfl) ?_ ?_ ?_ ?_
        rotate_left; (intro w'; go_simp; with_reducible rfl); rotate_left; (simp only [Act.put, List.setIfInBounds_toArray, List.set_cons_zero, List.set_cons_succ]; rfl)
        refine done_ (done_of HT_.out (by kernel_rfl)) ?_
        have hS1 := hHeld
        have HR := Aside0.mk hS1.2.2.2.2
        clear hS0 hS1 hHeld
        go_wp2
        go_roundw
        case rel => exact .inr (.inl ⟨rfl, HR.out⟩)
        case measure => simp [intOf]
      · skip
        go_wp2
        have hS0 : LsR 0 1 0 w.heap.size w2.heap.size w3.heap.size L Sa Ta _ _ _ _ w wr := ⟨q0, q1, q2, q3, HQ.out⟩
        clear q0 q1 q2 q3 HQ
        unfold LsR at hS0
        refine start_ (n := 52) (S := fun w' => w'.cell? ⟨w.heap.size, 0, none⟩ = some (.int .i64 1) ∧ w'.cell? ⟨w.heap.size, 1, none⟩ = some (.int .i64 n0) ∧ w'.cell? ⟨w2.heap.size, 0, none⟩ = some (.int .i64 t) ∧ w'.cell? ⟨w3.heap.size, 0, none⟩ = some (.int .i64 t) ∧ LsS w.heap.size w2.heap.size w3.heap.size L Sa Ta w w') (ds := []) zY0 (by kernel_rfl) rfl rfl ⟨(LsR.below hS0 (below_drew1 (Below.refl _ _))).1, (LsR.below hS0 (below_drew1 (Below.refl _ _))).2.1, (LsR.below hS0 (below_drew1 (Below.refl _ _))).2.2.1, (LsR.below hS0 (below_drew1 (Below.refl _ _))).2.2.2.1, (LsR.below hS0 (below_drew1 (Below.refl _ _))).2.2.2.2⟩ (fun hHeld => ?_)
        refine with_tabW zls.tab9 zls.bits9 (fun HT_ HW_ => ?_)
        refine zpu 0 (some 24) zY1 ?_ rfl rfl (any_of HT_.out (by kernel_rfl)) (by rfl) ?_ ?_ ?_ ?_
        rotate_left; (intro w'; go_simp; with_reducible rfl); rotate_left; (simp only [Act.put, List.setIfInBounds_toArray, List.set_cons_zero, List.set_cons_succ]; rfl)
        refine zpu 1 (some 25) zY2 ?_ rfl rfl (any_of HT_.out (by kernel_rfl)) (by rfl) ?_ ?_ ?_ ?_
        rotate_left; (intro w'; go_simp; with_reducible rfl); rotate_left; (simp only [Act.put, List.setIfInBounds_toArray, List.set_cons_zero, List.set_cons_succ]; rfl)
        refine zpu 3 (some 27) zY3 ?_ rfl rfl (any_of HT_.out (by kernel_rfl)) (by rfl) ?_ ?_ ?_ ?_
        rotate_left; (intro w'; go_simp; with_reducible rfl); rotate_left; (simp only [Act.put, List.setIfInBounds_toArray, List.set_cons_zero, List.set_cons_succ]; rfl)
        refine zpu 4 (some 28) zY4 ?_ rfl rfl (any_of HT_.out (by kernel_rfl)) (by rfl) ?_ ?_ ?_ ?_
        rotate_left; (intro w'; go_simp; with_reducible rfl); rotate_left; (simp only [Act.put, List.setIfInBounds_toArray, List.set_cons_zero, List.set_cons_succ]; rfl)
        refine zpu 6 (some 30) zY5 ?_ rfl rfl (any_of HT_.out (by kernel_rfl)) (by rfl) ?_ ?_ ?_ ?_
        rotate_left; (intro w'; go_simp; with_reducible rfl); rotate_left; (simp only [Act.put, List.setIfInBounds_toArray, List.set_cons_zero, List.set_cons_succ]; rfl)
        refine take_ (i := 2) (N := some 26) (v := ?_) (a' := ?_) zY6 rfl rfl (take_ofW HT_.out HW_.out (by kernel_rfl)) (fun _ _ _ h => h) (Or.inl ⟨by rfl, ?_⟩) hHeld ?_ ?_
        rotate_left; (rintro w' ⟨s0, s1, s2, s3, s4⟩; go_simp; with_reducible rfl); rotate_left; (simp only [Act.put, List.setIfInBounds_toArray, List.set_cons_zero, List.set_cons_succ]; rfl)
        refine take_ (i := 5) (N := some 29) (v := ?_) (a' := ?_) zY7 rfl rfl (take_ofW HT_.out HW_.out (by kernel_rfl)) (fun _ _ _ h => h) (Or.inl ⟨by rfl, ?_⟩) hHeld ?_ ?_
        rotate_left; (rintro w' ⟨s0, s1, s2, s3, s4⟩; go_simp; with_reducible rfl); rotate_left; (simp only [Act.put, List.setIfInBounds_toArray, List.set_cons_zero, List.set_cons_succ]; rfl)
        refine one_ (i := 7) (N := some 31) zY8 rfl rfl (one_of HT_.out (by kernel_rfl)) (by decide) (fun K hK => ?_)
        refine goes_ Try.func13 (by kernel_rfl) rfl #[.agg #[.int .i64 1, .int .i64 n0], .int .i64 b, .int .i64 0] (by rfl) rfl rfl (by simp only [List.map_toArray, List.map_cons, List.map_nil]; rfl) ?_
        with_reducible refine (hof _).mono ?_
        rintro e w5 ⟨rfl, hb⟩
        refine ⟨_, rfl, ?_⟩
        refine hK.out _ _ ⟨(LsR.below hHeld hb).1, (LsR.below hHeld hb).2.1, (LsR.below hHeld hb).2.2.1, (LsR.below hHeld hb).2.2.2.1, (LsR.below hHeld hb).2.2.2.2⟩ (fun hHeld => ?_)
        clear hK K
        refine norm_ (a' := ?_) ?_ ?_
        rotate_left
        · show Act.put _ (some 31) _ = _
          simp only [Act.put, List.setIfInBounds_toArray, List.set_cons_zero, List.set_cons_succ, i64_w, i32_w]
          rfl
        refine zpu 8 (some 32) zY9 ?_ rfl rfl (any_of HT_.out (by kernel_rfl)) (by rfl) ?_ ?_ ?_ ?_
        rotate_left; (intro w'; go_simp; with_reducible rfl); rotate_left; (simp only [Act.put, List.setIfInBounds_toArray, List.set_cons_zero, List.set_cons_succ]; rfl)
        refine zpu 9 (some 33) zY10 ?_ rfl rfl (any_of HT_.out (by kernel_rfl)) (by rfl) ?_ ?_ ?_ ?_
        rotate_left; (intro w'; go_simp; with_reducible rfl); rotate_left; (simp only [Act.put, List.setIfInBounds_toArray, List.set_cons_zero, List.set_cons_succ]; rfl)
        refine zpu 10 (some 34) zY11 ?_ rfl rfl (any_of HT_.out (by kernel_rfl)) (by rfl) ?_ ?_ ?_ ?_
        rotate_left; (intro w'; go_simp; with_reducible rfl); rotate_left; (simp only [Act.put, List.setIfInBounds_toArray, List.set_cons_zero, List.set_cons_succ]; rfl)
        refine zpu 11 (some 35) zY12 ?_ rfl rfl (any_of HT_.out (by kernel_rfl)) (by rfl) ?_ ?_ ?_ ?_
        rotate_left; (intro w'; go_simp; with_reducible rfl); rotate_left; (simp only [Act.put, List.setIfInBounds_toArray, List.set_cons_zero, List.set_cons_succ]; rfl)
        refine zpu 12 (some 36) zY13 ?_ rfl rfl (any_of HT_.out (by kernel_rfl)) (by rfl) ?_ ?_ ?_ ?_
        rotate_left; (intro w'; go_simp; with_reducible rfl); rotate_left; (simp only [Act.put, List.setIfInBounds_toArray, List.set_cons_zero, List.set_cons_succ]; rfl)
        refine take_ (i := 13) (N := some 37) (v := ?_) (a' := ?_) zY14 rfl rfl (take_ofW HT_.out HW_.out (by kernel_rfl)) (fun _ _ _ h => h) (Or.inl ⟨by rfl, ?_⟩) hHeld ?_ ?_
        rotate_left; (rintro w' ⟨s0, s1, s2, s3, s4⟩; go_simp; with_reducible rfl); rotate_left; (simp only [Act.put, List.setIfInBounds_toArray, List.set_cons_zero, List.set_cons_succ]; rfl)
        refine zpu 14 (some 38) zY15 ?_ rfl rfl (any_of HT_.out (by kernel_rfl)) (by rfl) ?_ ?_ ?_ ?_
        rotate_left; (intro w'; go_simp; with_reducible rfl); rotate_left; (simp only [Act.put, List.setIfInBounds_toArray, List.set_cons_zero, List.set_cons_succ]; rfl)
        refine zpu 15 (some 39) zY16 ?_ rfl rfl (any_of HT_.out (by kernel_rfl)) (by rfl) ?_ ?_ ?_ ?_
        rotate_left; (intro w'; go_simp; with_reducible rfl); rotate_left; (simp only [Act.put, List.setIfInBounds_toArray, List.set_cons_zero, List.set_cons_succ]; rfl)
        refine zpo 16 (some 40) zY17 rfl rfl (any_of HT_.out (by kernel_rfl)) (by rfl) ?_ ?_ ?_
        rotate_left; (simp only [Act.put, List.setIfInBounds_toArray, List.set_cons_zero, List.set_cons_succ]; rfl)
        refine zpo 17 (some 41) zY18 rfl rfl (any_of HT_.out (by kernel_rfl)) (by rfl) ?_ ?_ ?_
        rotate_left; (simp only [Act.put, List.setIfInBounds_toArray, List.set_cons_zero, List.set_cons_succ]; rfl)
        refine zpo 18 (some 42) zY19 rfl rfl (any_of HT_.out (by kernel_rfl)) (by rfl) ?_ ?_ ?_
        rotate_left; (simp only [Act.put, List.setIfInBounds_toArray, List.set_cons_zero, List.set_cons_succ]; rfl)
        refine zpo 19 (some 43) zY20 rfl rfl (any_of HT_.out (by kernel_rfl)) (by rfl) ?_ ?_ ?_
        rotate_left; (simp only [Act.put, List.setIfInBounds_toArray, List.set_cons_zero, List.set_cons_succ]; rfl)
        refine zpu 20 (some 44) zY21 ?_ rfl rfl (any_of HT_.out (by kernel_rfl)) (by rfl) ?_ ?_ ?_ ?_
        rotate_left; (intro w'; go_simp; with_reducible rfl); rotate_left; (simp only [Act.put, List.setIfInBounds_toArray, List.set_cons_zero, List.set_cons_succ]; rfl)
        refine zpu 21 (some 45) zY22 ?_ rfl rfl (any_of HT_.out (by kernel_rfl)) (by rfl) ?_ ?_ ?_ ?_
        rotate_left; (intro w'; go_simp; with_reducible rfl); rotate_left; (simp only [Act.put, List.setIfInBounds_toArray, List.set_cons_zero, List.set_cons_succ]; rfl)
        refine zpu 22 (some 46) zY23 ?_ rfl rfl (any_of HT_.out (by kernel_rfl)) (by rfl) ?_ ?_ ?_ ?_
        rotate_left; (intro w'; go_simp; with_reducible rfl); rotate_left; (simp only [Act.put, List.setIfInBounds_toArray, List.set_cons_zero, List.set_cons_succ]; rfl)
        refine zpu 23 (some 47) zY24 ?_ rfl rfl (any_of HT_.out (by kernel_rfl)) (by rfl) ?_ ?_ ?_ ?_
        rotate_left; (intro w'; go_simp; with_reducible rfl); rotate_left; (simp only [Act.put, List.setIfInBounds_toArray, List.set_cons_zero, List.set_cons_succ]; rfl)
        refine zpu 24 (some 48) zY25 ?_ rfl rfl (any_of HT_.out (by kernel_rfl)) (by rfl) ?_ ?_ ?_ ?_
        rotate_left; (intro w'; go_simp; with_reducible rfl); rotate_left; (simp only [Act.put, List.setIfInBounds_toArray, List.set_cons_zero, List.set_cons_succ]; rfl)
        refine zpu 25 (some 49) zY26 ?_ rfl rfl (any_of HT_.out (by kernel_rfl)) (by rfl) ?_ ?_ ?_ ?_
        rotate_left; (intro w'; go_simp; with_reducible rfl); rotate_left; (simp only [Act.put, List.setIfInBounds_toArray, List.set_cons_zero, List.set_cons_succ]; rfl)
        refine take_ (i := 26) (N := some 50) (v := ?_) (a' := ?_) zY27 rfl rfl (take_ofW HT_.out HW_.out (by kernel_rfl)) (fun _ _ _ h => h) (Or.inl ⟨by rfl, ?_⟩) hHeld ?_ ?_
        rotate_left; (rintro w' ⟨s0, s1, s2, s3, s4⟩; go_simp; with_reducible rfl); rotate_left; (simp only [Act.put, List.setIfInBounds_toArray, List.set_cons_zero, List.set_cons_succ]; rfl)
        refine zpu 27 (some 51) zY28 ?_ rfl rfl (any_of HT_.out (by kernel_rfl)) (by rfl) ?_ ?_ ?_ ?_
        rotate_left; (intro w'; go_simp; with_reducible rfl); rotate_left; (simp only [Act.put, List.setIfInBounds_toArray, List.set_cons_zero, List.set_cons_succ]; rfl)
        refine zpu 28 (some 52) zY29 ?_ rfl rfl (any_of HT_.out (by kernel_rfl)) (by rfl) ?_ ?_ ?_ ?_
        rotate_left; (intro w'; go_simp; with_reducible rfl); rotate_left; (simp only [Act.put, List.setIfInBounds_toArray, List.set_cons_zero, List.set_cons_succ]; rfl)
        refine zpu 29 (some 53) zY30 ?_ rfl rfl (any_of HT_.out (by kernel_rfl)) (by rfl) ?_ ?_ ?_ ?_
        rotate_left; (intro w'; go_simp; with_reducible rfl); rotate_left; (simp only [Act.put, List.setIfInBounds_toArray, List.set_cons_zero, List.set_cons_succ]; rfl)
        refine zpu 30 (some 54) zY31 ?_ rfl rfl (any_of HT_.out (by kernel_rfl)) (by rfl) ?_ ?_ ?_ ?_
        rotate_left; (intro w'; go_simp; with_reducible rfl); rotate_left; (simp only [Act.put, List.setIfInBounds_toArray, List.set_cons_zero, List.set_cons_succ]; rfl)
        refine zpu 32 (some 56) zY53 ?_ rfl rfl (any_of HT_.out (by kernel_rfl)) (by rfl) ?_ ?_ ?_ ?_
        rotate_left; (intro w'; go_simp; with_reducible rfl); rotate_left; (simp only [Act.put, List.setIfInBounds_toArray, List.set_cons_zero, List.set_cons_succ]; rfl)
        refine zpu 33 (some 57) zY54 ?_ rfl rfl (any_of HT_.out (by kernel_rfl)) (by rfl) ?_ ?_ ?_ ?_
        rotate_left; (intro w'; go_simp; with_reducible rfl); rotate_left; (simp only [Act.put, List.setIfInBounds_toArray, List.set_cons_zero, List.set_cons_succ]; rfl)
        refine take_ (i := 31) (N := some 55) (v := ?_) (a' := ?_) zY34 rfl rfl (take_ofW HT_.out HW_.out (by kernel_rfl)) (fun _ _ _ h => h) (Or.inl ⟨by rfl, ?_⟩) hHeld ?_ ?_
        rotate_left; (rintro w' ⟨s0, s1, s2, s3, s4⟩; go_simp; with_reducible rfl); rotate_left; (simp only [Act.put, List.setIfInBounds_toArray, List.set_cons_zero, List.set_cons_succ]; rfl)
        refine take_ (i := 34) (N := some 58) (v := ?_) (a' := ?_) zY35 rfl rfl (take_ofW HT_.out HW_.out (by kernel_rfl)) (fun _ _ _ h => h) (Or.inl ⟨by rfl, ?_⟩) hHeld ?_ ?_
        rotate_left; (rintro w' ⟨s0, s1, s2, s3, s4⟩; go_simp; with_reducible rfl); rotate_left; (simp only [Act.put, List.setIfInBounds_toArray, List.set_cons_zero, List.set_cons_succ]; rfl)
        refine zpu 35 (some 59) zY36 ?_ rfl rfl (any_of HT_.out (by kernel_rfl)) (by rfl) ?_ ?_ ?_ ?_
        rotate_left; (intro w'; go_simp; with_reducible rfl); rotate_left; (simp only [Act.put, List.setIfInBounds_toArray, List.set_cons_zero, List.set_cons_succ]; rfl)
        refine zpu 36 (some 60) zY37 ?_ rfl rfl (any_of HT_.out (by kernel_rfl)) (by rfl) ?_ ?_ ?_ ?_
        rotate_left; (intro w'; go_simp; with_reducible rfl); rotate_left; (simp only [Act.put, List.setIfInBounds_toArray, List.set_cons_zero, List.set_cons_succ]; rfl)
        refine zpu 37 (some 61) zY38 ?_ rfl rfl (any_of HT_.out (by kernel_rfl)) (by rfl) ?_ ?_ ?_ ?_
        rotate_left; (intro w'; go_simp; with_reducible rfl); rotate_left; (simp only [Act.put, List.setIfInBounds_toArray, List.set_cons_zero, List.set_cons_succ]; rfl)
        refine zpu 38 (some 62) zY39 ?_ rfl rfl (any_of HT_.out (by kernel_rfl)) (by rfl) ?_ ?_ ?_ ?_
        rotate_left; (intro w'; go_simp; with_reducible rfl); rotate_left; (simp only [Act.put, List.setIfInBounds_toArray, List.set_cons_zero, List.set_cons_succ]; rfl)
        refine zpu 39 (some 63) zY40 ?_ rfl rfl (any_of HT_.out (by kernel_rfl)) (by rfl) ?_ ?_ ?_ ?_
        rotate_left; (intro w'; go_simp; with_reducible rfl); rotate_left; (simp only [Act.put, List.setIfInBounds_toArray, List.set_cons_zero, List.set_cons_succ]; rfl)
        refine zpu 40 (some 64) zY41 ?_ rfl rfl (any_of HT_.out (by kernel_rfl)) (by rfl) ?_ ?_ ?_ ?_
        rotate_left; (intro w'; go_simp; with_reducible rfl); rotate_left; (simp only [Act.put, List.setIfInBounds_toArray, List.set_cons_zero, List.set_cons_succ]; rfl)
        refine zpu 42 (some 66) zY42 ?_ rfl rfl (any_of HT_.out (by kernel_rfl)) (by rfl) ?_ ?_ ?_ ?_
        rotate_left; (intro w'; go_simp; with_reducible rfl); rotate_left; (simp only [Act.put, List.setIfInBounds_toArray, List.set_cons_zero, List.set_cons_succ]; rfl)
        refine take_ (i := 41) (N := some 65) (v := ?_) (a' := ?_) zY43 rfl rfl (take_ofW HT_.out HW_.out (by kernel_rfl)) (fun _ _ _ h => h) (Or.inl ⟨by rfl, ?_⟩) hHeld ?_ ?_
        rotate_left; (rintro w' ⟨s0, s1, s2, s3, s4⟩; go_simp; with_reducible rfl); rotate_left; (simp only [Act.put, List.setIfInBounds_toArray, List.set_cons_zero, List.set_cons_succ]; rfl)
        refine one_ (i := 43) (N := some 67) zY44 rfl rfl (one_of HT_.out (by kernel_rfl)) (by decide) (fun K hK => ?_)
        refine goes_ Try.func15 (by kernel_rfl) rfl #[.agg #[.int .i64 1, .int .i64 n0], .int .i64 b] (by rfl) rfl rfl (by simp only [List.map_toArray, List.map_cons, List.map_nil]; rfl) ?_
        with_reducible refine (hfx _).mono ?_
        rintro e w6 ⟨rfl, hb⟩
        refine ⟨_, rfl, ?_⟩
        refine hK.out _ _ ⟨(LsR.below hHeld hb).1, (LsR.below hHeld hb).2.1, (LsR.below hHeld hb).2.2.1, (LsR.below hHeld hb).2.2.2.1, (LsR.below hHeld hb).2.2.2.2⟩ (fun hHeld => ?_)
        clear hK K
        refine norm_ (a' := ?_) ?_ ?_
        rotate_left
        · show Act.put _ (some 67) _ = _
          simp only [Act.put, List.setIfInBounds_toArray, List.set_cons_zero, List.set_cons_succ, i64_w, i32_w]
          rfl
        refine zpu 44 (some 68) zY45 ?_ rfl rfl (any_of HT_.out (by kernel_rfl)) (by rfl) ?_ ?_ ?_ ?_
        rotate_left; (intro w'; go_simp; with_reducible rfl); rotate_left; (simp only [Act.put, List.setIfInBounds_toArray, List.set_cons_zero, List.set_cons_succ]; rfl)
        refine zpu 45 (some 69) zY46 ?_ rfl rfl (any_of HT_.out (by kernel_rfl)) (by rfl) ?_ ?_ ?_ ?_
        rotate_left; (intro w'; go_simp; with_reducible rfl); rotate_left; (simp only [Act.put, List.setIfInBounds_toArray, List.set_cons_zero, List.set_cons_succ]; rfl)
        refine zpo 46 (some 70) zY47 rfl rfl (any_of HT_.out (by kernel_rfl)) (by rfl) ?_ ?_ ?_
        rotate_left; (simp only [Act.put, List.setIfInBounds_toArray, List.set_cons_zero, List.set_cons_succ]; rfl)
        refine zpo 47 (some 71) zY48 rfl rfl (any_of HT_.out (by kernel_rfl)) (by rfl) ?_ ?_ ?_
        rotate_left; (simp only [Act.put, List.setIfInBounds_toArray, List.set_cons_zero, List.set_cons_succ]; rfl)
        refine zpo 48 (some 72) zY49 rfl rfl (any_of HT_.out (by kernel_rfl)) (by rfl) ?_ ?_ ?_
        rotate_left; (simp only [Act.put, List.setIfInBounds_toArray, List.set_cons_zero, List.set_cons_succ]; rfl)
        refine zpo 49 (some 73) zY50 rfl rfl (any_of HT_.out (by kernel_rfl)) (by rfl) ?_ ?_ ?_
        rotate_left; (simp only [Act.put, List.setIfInBounds_toArray, List.set_cons_zero, List.set_cons_succ]; rfl)
        refine zpu 50 (some 74) zY51 ?_ rfl rfl (any_of HT_.out (by kernel_rfl)) (by rfl) ?_ ?_ ?_ ?_
        rotate_left; (intro w'; go_simp; with_reducible rfl); rotate_left; (simp only [Act.put, List.setIfInBounds_toArray, List.set_cons_zero, List.set_cons_succ]; rfl)
        refine zpu 51 (some 75) zY52 ?_ rfl rfl (any_of HT_.out (by kernel_rfl)) (by rfl) ?_ ?_ ?_ ?_
        rotate_left; (intro w'; go_simp; with_reducible rfl); rotate_left; (simp only [Act.put, List.setIfInBounds_toArray, List.set_cons_zero, List.set_cons_succ]; rfl)
        refine done_ (done_of HT_.out (by kernel_rfl)) ?_
        have hS1 := hHeld
        have HR := Aside0.mk hS1.2.2.2.2
        clear hS0 hS1 hHeld
        go_wp2
        go_roundw
        case rel => exact .inr (.inl ⟨rfl, HR.out⟩)
        case measure => simp [intOf]
      · have g0 : (k0 == 0) = false := by simpa using e0
        have g1 : (k0 == 1) = false := by simpa using e1
        go_wp2
        have hS0 : LsR 0 1 0 w.heap.size w2.heap.size w3.heap.size L Sa Ta _ _ _ _ w wr := ⟨q0, q1, q2, q3, HQ.out⟩
        clear q0 q1 q2 q3 HQ
        unfold LsR at hS0
        refine start_ (n := 52) (S := fun w' => w'.cell? ⟨w.heap.size, 0, none⟩ = some (.int .i64 k0) ∧ w'.cell? ⟨w.heap.size, 1, none⟩ = some (.int .i64 n0) ∧ w'.cell? ⟨w2.heap.size, 0, none⟩ = some (.int .i64 s) ∧ w'.cell? ⟨w3.heap.size, 0, none⟩ = some (.int .i64 t) ∧ LsS w.heap.size w2.heap.size w3.heap.size L Sa Ta w w') (ds := []) zY0 (by kernel_rfl) rfl rfl ⟨(LsR.below hS0 (below_drew1 (Below.refl _ _))).1, (LsR.below hS0 (below_drew1 (Below.refl _ _))).2.1, (LsR.below hS0 (below_drew1 (Below.refl _ _))).2.2.1, (LsR.below hS0 (below_drew1 (Below.refl _ _))).2.2.2.1, (LsR.below hS0 (below_drew1 (Below.refl _ _))).2.2.2.2⟩ (fun hHeld => ?_)
        refine with_tabW zls.tab9 zls.bits9 (fun HT_ HW_ => ?_)
        refine zpu 0 (some 24) zY1 ?_ rfl rfl (any_of HT_.out (by kernel_rfl)) (by rfl) ?_ ?_ ?_ ?_
        rotate_left; (intro w'; go_simp; with_reducible rfl); rotate_left; (simp only [Act.put, List.setIfInBounds_toArray, List.set_cons_zero, List.set_cons_succ]; rfl)
        refine zpu 1 (some 25) zY2 ?_ rfl rfl (any_of HT_.out (by kernel_rfl)) (by rfl) ?_ ?_ ?_ ?_
        rotate_left; (intro w'; go_simp; with_reducible rfl); rotate_left; (simp only [Act.put, List.setIfInBounds_toArray, List.set_cons_zero, List.set_cons_succ]; rfl)
        refine zpu 3 (some 27) zY3 ?_ rfl rfl (any_of HT_.out (by kernel_rfl)) (by rfl) ?_ ?_ ?_ ?_
        rotate_left; (intro w'; go_simp; with_reducible rfl); rotate_left; (simp only [Act.put, List.setIfInBounds_toArray, List.set_cons_zero, List.set_cons_succ]; rfl)
        refine zpu 4 (some 28) zY4 ?_ rfl rfl (any_of HT_.out (by kernel_rfl)) (by rfl) ?_ ?_ ?_ ?_
        rotate_left; (intro w'; go_simp; with_reducible rfl); rotate_left; (simp only [Act.put, List.setIfInBounds_toArray, List.set_cons_zero, List.set_cons_succ]; rfl)
        refine zpu 6 (some 30) zY5 ?_ rfl rfl (any_of HT_.out (by kernel_rfl)) (by rfl) ?_ ?_ ?_ ?_
        rotate_left; (intro w'; go_simp; with_reducible rfl); rotate_left; (simp only [Act.put, List.setIfInBounds_toArray, List.set_cons_zero, List.set_cons_succ]; rfl)
        refine take_ (i := 2) (N := some 26) (v := ?_) (a' := ?_) zY6 rfl rfl (take_ofW HT_.out HW_.out (by kernel_rfl)) (fun _ _ _ h => h) (Or.inl ⟨by rfl, ?_⟩) hHeld ?_ ?_
        rotate_left; (rintro w' ⟨s0, s1, s2, s3, s4⟩; go_simp; with_reducible rfl); rotate_left; (simp only [Act.put, List.setIfInBounds_toArray, List.set_cons_zero, List.set_cons_succ]; rfl)
        refine take_ (i := 5) (N := some 29) (v := ?_) (a' := ?_) zY7 rfl rfl (take_ofW HT_.out HW_.out (by kernel_rfl)) (fun _ _ _ h => h) (Or.inl ⟨by rfl, ?_⟩) hHeld ?_ ?_
        rotate_left; (rintro w' ⟨s0, s1, s2, s3, s4⟩; go_simp; with_reducible rfl); rotate_left; (simp only [Act.put, List.setIfInBounds_toArray, List.set_cons_zero, List.set_cons_succ]; rfl)
        refine one_ (i := 7) (N := some 31) zY8 rfl rfl (one_of HT_.out (by kernel_rfl)) (by decide) (fun K hK => ?_)
        refine goes_ Try.func13 (by kernel_rfl) rfl #[.agg #[.int .i64 k0, .int .i64 n0], .int .i64 b, .int .i64 0] (by rfl) rfl rfl (by simp only [List.map_toArray, List.map_cons, List.map_nil]; rfl) ?_
        with_reducible refine (hof _).mono ?_
        rintro e w5 ⟨rfl, hb⟩
        refine ⟨_, rfl, ?_⟩
        refine hK.out _ _ ⟨(LsR.below hHeld hb).1, (LsR.below hHeld hb).2.1, (LsR.below hHeld hb).2.2.1, (LsR.below hHeld hb).2.2.2.1, (LsR.below hHeld hb).2.2.2.2⟩ (fun hHeld => ?_)
        clear hK K
        refine norm_ (a' := ?_) ?_ ?_
        rotate_left
        · show Act.put _ (some 31) _ = _
          simp only [Act.put, List.setIfInBounds_toArray, List.set_cons_zero, List.set_cons_succ, i64_w, i32_w]
          rfl
        refine zpu 8 (some 32) zY9 ?_ rfl rfl (any_of HT_.out (by kernel_rfl)) (by rfl) ?_ ?_ ?_ ?_
        rotate_left; (intro w'; go_simp; with_reducible rfl); rotate_left; (simp only [Act.put, List.setIfInBounds_toArray, List.set_cons_zero, List.set_cons_succ]; rfl)
        refine zpu 9 (some 33) zY10 ?_ rfl rfl (any_of HT_.out (by kernel_rfl)) (by rfl) ?_ ?_ ?_ ?_
        rotate_left; (intro w'; go_simp; with_reducible rfl); rotate_left; (simp only [Act.put, List.setIfInBounds_toArray, List.set_cons_zero, List.set_cons_succ]; rfl)
        refine zpu 10 (some 34) zY11 ?_ rfl rfl (any_of HT_.out (by kernel_rfl)) (by rfl) ?_ ?_ ?_ ?_
        rotate_left; (intro w'; go_simp; with_reducible rfl); rotate_left; (simp only [Act.put, List.setIfInBounds_toArray, List.set_cons_zero, List.set_cons_succ]; rfl)
        refine zpu 11 (some 35) zY12 ?_ rfl rfl (any_of HT_.out (by kernel_rfl)) (by rfl) ?_ ?_ ?_ ?_
        rotate_left; (intro w'; go_simp; with_reducible rfl); rotate_left; (simp only [Act.put, List.setIfInBounds_toArray, List.set_cons_zero, List.set_cons_succ]; rfl)
        refine zpu 12 (some 36) zY13 ?_ rfl rfl (any_of HT_.out (by kernel_rfl)) (by rfl) ?_ ?_ ?_ ?_
        rotate_left; (intro w'; go_simp; with_reducible rfl); rotate_left; (simp only [Act.put, List.setIfInBounds_toArray, List.set_cons_zero, List.set_cons_succ]; rfl)
        refine take_ (i := 13) (N := some 37) (v := ?_) (a' := ?_) zY14 rfl rfl (take_ofW HT_.out HW_.out (by kernel_rfl)) (fun _ _ _ h => h) (Or.inl ⟨by rfl, ?_⟩) hHeld ?_ ?_
        rotate_left; (rintro w' ⟨s0, s1, s2, s3, s4⟩; go_simp; with_reducible rfl); rotate_left; (simp only [Act.put, List.setIfInBounds_toArray, List.set_cons_zero, List.set_cons_succ]; rfl)
        refine zpu 14 (some 38) zY15 ?_ rfl rfl (any_of HT_.out (by kernel_rfl)) (by rfl) ?_ ?_ ?_ ?_
        rotate_left; (intro w'; go_simp; with_reducible rfl); rotate_left; (simp only [Act.put, List.setIfInBounds_toArray, List.set_cons_zero, List.set_cons_succ]; rfl)
        refine zpu 15 (some 39) zY16 ?_ rfl rfl (any_of HT_.out (by kernel_rfl)) (by rfl) ?_ ?_ ?_ ?_
        rotate_left; (intro w'; go_simp; with_reducible rfl); rotate_left; (simp only [Act.put, List.setIfInBounds_toArray, List.set_cons_zero, List.set_cons_succ]; rfl)
        refine zpo 16 (some 40) zY17 rfl rfl (any_of HT_.out (by kernel_rfl)) (by rfl) ?_ ?_ ?_
        rotate_left; (simp only [Act.put, List.setIfInBounds_toArray, List.set_cons_zero, List.set_cons_succ]; rfl)
        refine zpo 17 (some 41) zY18 rfl rfl (any_of HT_.out (by kernel_rfl)) (by rfl) ?_ ?_ ?_
        rotate_left; (simp only [Act.put, List.setIfInBounds_toArray, List.set_cons_zero, List.set_cons_succ]; rfl)
        refine zpo 18 (some 42) zY19 rfl rfl (any_of HT_.out (by kernel_rfl)) (by rfl) ?_ ?_ ?_
        rotate_left; (simp only [Act.put, List.setIfInBounds_toArray, List.set_cons_zero, List.set_cons_succ]; rfl)
        refine zpo 19 (some 43) zY20 rfl rfl (any_of HT_.out (by kernel_rfl)) (by rfl) ?_ ?_ ?_
        rotate_left; (simp only [Act.put, List.setIfInBounds_toArray, List.set_cons_zero, List.set_cons_succ]; rfl)
        refine zpu 20 (some 44) zY21 ?_ rfl rfl (any_of HT_.out (by kernel_rfl)) (by rfl) ?_ ?_ ?_ ?_
        rotate_left; (intro w'; go_simp; with_reducible rfl); rotate_left; (simp only [Act.put, List.setIfInBounds_toArray, List.set_cons_zero, List.set_cons_succ]; rfl)
        refine zpu 21 (some 45) zY22 ?_ rfl rfl (any_of HT_.out (by kernel_rfl)) (by rfl) ?_ ?_ ?_ ?_
        rotate_left; (intro w'; go_simp; with_reducible rfl); rotate_left; (simp only [Act.put, List.setIfInBounds_toArray, List.set_cons_zero, List.set_cons_succ]; rfl)
        refine zpu 22 (some 46) zY23 ?_ rfl rfl (any_of HT_.out (by kernel_rfl)) (by rfl) ?_ ?_ ?_ ?_
        rotate_left; (intro w'; go_simp; with_reducible rfl); rotate_left; (simp only [Act.put, List.setIfInBounds_toArray, List.set_cons_zero, List.set_cons_succ]; rfl)
        refine zpu 23 (some 47) zY24 ?_ rfl rfl (any_of HT_.out (by kernel_rfl)) (by rfl) ?_ ?_ ?_ ?_
        rotate_left; (intro w'; go_simp; with_reducible rfl); rotate_left; (simp only [Act.put, List.setIfInBounds_toArray, List.set_cons_zero, List.set_cons_succ]; rfl)
        refine zpu 24 (some 48) zY25 ?_ rfl rfl (any_of HT_.out (by kernel_rfl)) (by rfl) ?_ ?_ ?_ ?_
        rotate_left; (intro w'; go_simp; with_reducible rfl); rotate_left; (simp only [Act.put, List.setIfInBounds_toArray, List.set_cons_zero, List.set_cons_succ]; rfl)
        refine zpu 25 (some 49) zY26 ?_ rfl rfl (any_of HT_.out (by kernel_rfl)) (by rfl) ?_ ?_ ?_ ?_
        rotate_left; (intro w'; go_simp; with_reducible rfl); rotate_left; (simp only [Act.put, List.setIfInBounds_toArray, List.set_cons_zero, List.set_cons_succ]; rfl)
        refine take_ (i := 26) (N := some 50) (v := ?_) (a' := ?_) zY27 rfl rfl (take_ofW HT_.out HW_.out (by kernel_rfl)) (fun _ _ _ h => h) (Or.inl ⟨by rfl, ?_⟩) hHeld ?_ ?_
        rotate_left; (rintro w' ⟨s0, s1, s2, s3, s4⟩; go_simp; with_reducible rfl); rotate_left; (simp only [Act.put, List.setIfInBounds_toArray, List.set_cons_zero, List.set_cons_succ]; rfl)
        refine zpu 27 (some 51) zY28 ?_ rfl rfl (any_of HT_.out (by kernel_rfl)) (by rfl) ?_ ?_ ?_ ?_
        rotate_left; (intro w'; go_simp; with_reducible rfl); rotate_left; (simp only [Act.put, List.setIfInBounds_toArray, List.set_cons_zero, List.set_cons_succ]; rfl)
        refine zpu 28 (some 52) zY29 ?_ rfl rfl (any_of HT_.out (by kernel_rfl)) (by rfl) ?_ ?_ ?_ ?_
        rotate_left; (intro w'; go_simp; with_reducible rfl); rotate_left; (simp only [Act.put, List.setIfInBounds_toArray, List.set_cons_zero, List.set_cons_succ]; rfl)
        refine zpo 29 (some 53) zY30 rfl rfl (any_of HT_.out (by kernel_rfl)) (by rfl) ?_ ?_ ?_
        rotate_left; (simp only [Act.put, List.setIfInBounds_toArray, List.set_cons_zero, List.set_cons_succ]; rfl)
        refine zpo 30 (some 54) zY31 rfl rfl (any_of HT_.out (by kernel_rfl)) (by rfl) ?_ ?_ ?_
        rotate_left; (simp only [Act.put, List.setIfInBounds_toArray, List.set_cons_zero, List.set_cons_succ]; rfl)
        refine zpo 31 (some 55) zY32 rfl rfl (any_of HT_.out (by kernel_rfl)) (by rfl) ?_ ?_ ?_
        rotate_left; (simp only [Act.put, List.setIfInBounds_toArray, List.set_cons_zero, List.set_cons_succ]; rfl)
        refine zpo 32 (some 56) zY33 rfl rfl (any_of HT_.out (by kernel_rfl)) (by rfl) ?_ ?_ ?_
        rotate_left; (simp only [Act.put, List.setIfInBounds_toArray, List.set_cons_zero, List.set_cons_succ]; rfl)
        refine zpo 33 (some 57) zY34 rfl rfl (any_of HT_.out (by kernel_rfl)) (by rfl) ?_ ?_ ?_
        rotate_left; (simp only [Act.put, List.setIfInBounds_toArray, List.set_cons_zero, List.set_cons_succ]; rfl)
        refine zpo 34 (some 58) zY35 rfl rfl (any_of HT_.out (by kernel_rfl)) (by rfl) ?_ ?_ ?_
        rotate_left; (simp only [Act.put, List.setIfInBounds_toArray, List.set_cons_zero, List.set_cons_succ]; rfl)
        refine zpo 35 (some 59) zY36 rfl rfl (any_of HT_.out (by kernel_rfl)) (by rfl) ?_ ?_ ?_
        rotate_left; (simp only [Act.put, List.setIfInBounds_toArray, List.set_cons_zero, List.set_cons_succ]; rfl)
        refine zpu 36 (some 60) zY37 ?_ rfl rfl (any_of HT_.out (by kernel_rfl)) (by rfl) ?_ ?_ ?_ ?_
        rotate_left; (intro w'; go_simp; with_reducible rfl); rotate_left; (simp only [Act.put, List.setIfInBounds_toArray, List.set_cons_zero, List.set_cons_succ]; rfl)
        refine zpu 37 (some 61) zY38 ?_ rfl rfl (any_of HT_.out (by kernel_rfl)) (by rfl) ?_ ?_ ?_ ?_
        rotate_left; (intro w'; go_simp; with_reducible rfl); rotate_left; (simp only [Act.put, List.setIfInBounds_toArray, List.set_cons_zero, List.set_cons_succ]; rfl)
        refine zpu 38 (some 62) zY39 ?_ rfl rfl (any_of HT_.out (by kernel_rfl)) (by rfl) ?_ ?_ ?_ ?_
        rotate_left; (intro w'; go_simp; with_reducible rfl); rotate_left; (simp only [Act.put, List.setIfInBounds_toArray, List.set_cons_zero, List.set_cons_succ]; rfl)
        refine zpu 39 (some 63) zY40 ?_ rfl rfl (any_of HT_.out (by kernel_rfl)) (by rfl) ?_ ?_ ?_ ?_
        rotate_left; (intro w'; go_simp; with_reducible rfl); rotate_left; (simp only [Act.put, List.setIfInBounds_toArray, List.set_cons_zero, List.set_cons_succ]; rfl)
        refine zpu 40 (some 64) zY41 ?_ rfl rfl (any_of HT_.out (by kernel_rfl)) (by rfl) ?_ ?_ ?_ ?_
        rotate_left; (intro w'; go_simp; with_reducible rfl); rotate_left; (simp only [Act.put, List.setIfInBounds_toArray, List.set_cons_zero, List.set_cons_succ]; rfl)
        refine zpu 42 (some 66) zY42 ?_ rfl rfl (any_of HT_.out (by kernel_rfl)) (by rfl) ?_ ?_ ?_ ?_
        rotate_left; (intro w'; go_simp; with_reducible rfl); rotate_left; (simp only [Act.put, List.setIfInBounds_toArray, List.set_cons_zero, List.set_cons_succ]; rfl)
        refine take_ (i := 41) (N := some 65) (v := ?_) (a' := ?_) zY43 rfl rfl (take_ofW HT_.out HW_.out (by kernel_rfl)) (fun _ _ _ h => h) (Or.inl ⟨by rfl, ?_⟩) hHeld ?_ ?_
        rotate_left; (rintro w' ⟨s0, s1, s2, s3, s4⟩; go_simp; with_reducible rfl); rotate_left; (simp only [Act.put, List.setIfInBounds_toArray, List.set_cons_zero, List.set_cons_succ]; rfl)
        refine one_ (i := 43) (N := some 67) zY44 rfl rfl (one_of HT_.out (by kernel_rfl)) (by decide) (fun K hK => ?_)
        refine goes_ Try.func15 (by kernel_rfl) rfl #[.agg #[.int .i64 k0, .int .i64 n0], .int .i64 b] (by rfl) rfl rfl (by simp only [List.map_toArray, List.map_cons, List.map_nil]; rfl) ?_
        with_reducible refine (hfx _).mono ?_
        rintro e w6 ⟨rfl, hb⟩
        refine ⟨_, rfl, ?_⟩
        refine hK.out _ _ ⟨(LsR.below hHeld hb).1, (LsR.below hHeld hb).2.1, (LsR.below hHeld hb).2.2.1, (LsR.below hHeld hb).2.2.2.1, (LsR.below hHeld hb).2.2.2.2⟩ (fun hHeld => ?_)
        clear hK K
        refine norm_ (a' := ?_) ?_ ?_
        rotate_left
        · show Act.put _ (some 67) _ = _
          simp only [Act.put, List.setIfInBounds_toArray, List.set_cons_zero, List.set_cons_succ, i64_w, i32_w]
          rfl
        refine zpu 44 (some 68) zY45 ?_ rfl rfl (any_of HT_.out (by kernel_rfl)) (by rfl) ?_ ?_ ?_ ?_
        rotate_left; (intro w'; go_simp; with_reducible rfl); rotate_left; (simp only [Act.put, List.setIfInBounds_toArray, List.set_cons_zero, List.set_cons_succ]; rfl)
        refine zpu 45 (some 69) zY46 ?_ rfl rfl (any_of HT_.out (by kernel_rfl)) (by rfl) ?_ ?_ ?_ ?_
        rotate_left; (intro w'; go_simp; with_reducible rfl); rotate_left; (simp only [Act.put, List.setIfInBounds_toArray, List.set_cons_zero, List.set_cons_succ]; rfl)
        refine zpo 46 (some 70) zY47 rfl rfl (any_of HT_.out (by kernel_rfl)) (by rfl) ?_ ?_ ?_
        rotate_left; (simp only [Act.put, List.setIfInBounds_toArray, List.set_cons_zero, List.set_cons_succ]; rfl)
        refine zpo 47 (some 71) zY48 rfl rfl (any_of HT_.out (by kernel_rfl)) (by rfl) ?_ ?_ ?_
        rotate_left; (simp only [Act.put, List.setIfInBounds_toArray, List.set_cons_zero, List.set_cons_succ]; rfl)
        refine zpo 48 (some 72) zY49 rfl rfl (any_of HT_.out (by kernel_rfl)) (by rfl) ?_ ?_ ?_
        rotate_left; (simp only [Act.put, List.setIfInBounds_toArray, List.set_cons_zero, List.set_cons_succ]; rfl)
        refine zpo 49 (some 73) zY50 rfl rfl (any_of HT_.out (by kernel_rfl)) (by rfl) ?_ ?_ ?_
        rotate_left; (simp only [Act.put, List.setIfInBounds_toArray, List.set_cons_zero, List.set_cons_succ]; rfl)
        refine zpu 50 (some 74) zY51 ?_ rfl rfl (any_of HT_.out (by kernel_rfl)) (by rfl) ?_ ?_ ?_ ?_
        rotate_left; (intro w'; go_simp; with_reducible rfl); rotate_left; (simp only [Act.put, List.setIfInBounds_toArray, List.set_cons_zero, List.set_cons_succ]; rfl)
        refine zpu 51 (some 75) zY52 ?_ rfl rfl (any_of HT_.out (by kernel_rfl)) (by rfl) ?_ ?_ ?_ ?_
        rotate_left; (intro w'; go_simp; with_reducible rfl); rotate_left; (simp only [Act.put, List.setIfInBounds_toArray, List.set_cons_zero, List.set_cons_succ]; rfl)
        refine done_ (done_of HT_.out (by kernel_rfl)) ?_
        have hS1 := hHeld
        have HR := Aside0.mk hS1.2.2.2.2
        clear hS0 hS1 hHeld
        go_wp2
        go_roundw
        case rel => exact .inr (.inl ⟨rfl, HR.out⟩)
        case measure => simp [intOf]
      · have g0 : (k0 == 0) = false := by simpa using e0
        have g1 : (k0 == 1) = false := by simpa using e1
        go_wp2
        have hS0 : LsR 0 1 0 w.heap.size w2.heap.size w3.heap.size L Sa Ta _ _ _ _ w wr := ⟨q0, q1, q2, q3, HQ.out⟩
        clear q0 q1 q2 q3 HQ
        unfold LsR at hS0
        refine start_ (n := 52) (S := fun w' => w'.cell? ⟨w.heap.size, 0, none⟩ = some (.int .i64 k0) ∧ w'.cell? ⟨w.heap.size, 1, none⟩ = some (.int .i64 n0) ∧ w'.cell? ⟨w2.heap.size, 0, none⟩ = some (.int .i64 0) ∧ w'.cell? ⟨w3.heap.size, 0, none⟩ = some (.int .i64 t) ∧ LsS w.heap.size w2.heap.size w3.heap.size L Sa Ta w w') (ds := []) zY0 (by kernel_rfl) rfl rfl ⟨(LsR.below hS0 (below_drew1 (Below.refl _ _))).1, (LsR.below hS0 (below_drew1 (Below.refl _ _))).2.1, (LsR.below hS0 (below_drew1 (Below.refl _ _))).2.2.1, (LsR.below hS0 (below_drew1 (Below.refl _ _))).2.2.2.1, (LsR.below hS0 (below_drew1 (Below.refl _ _))).2.2.2.2⟩ (fun hHeld => ?_)
        refine with_tabW zls.tab9 zls.bits9 (fun HT_ HW_ => ?_)
        refine zpu 0 (some 24) zY1 ?_ rfl rfl (any_of HT_.out (by kernel_rfl)) (by rfl) ?_ ?_ ?_ ?_
        rotate_left; (intro w'; go_simp; with_reducible rfl); rotate_left; (simp only [Act.put, List.setIfInBounds_toArray, List.set_cons_zero, List.set_cons_succ]; rfl)
        refine zpu 1 (some 25) zY2 ?_ rfl rfl (any_of HT_.out (by kernel_rfl)) (by rfl) ?_ ?_ ?_ ?_
        rotate_left; (intro w'; go_simp; with_reducible rfl); rotate_left; (simp only [Act.put, List.setIfInBounds_toArray, List.set_cons_zero, List.set_cons_succ]; rfl)
        refine zpu 3 (some 27) zY3 ?_ rfl rfl (any_of HT_.out (by kernel_rfl)) (by rfl) ?_ ?_ ?_ ?_
        rotate_left; (intro w'; go_simp; with_reducible rfl); rotate_left; (simp only [Act.put, List.setIfInBounds_toArray, List.set_cons_zero, List.set_cons_succ]; rfl)
        refine zpu 4 (some 28) zY4 ?_ rfl rfl (any_of HT_.out (by kernel_rfl)) (by rfl) ?_ ?_ ?_ ?_
        rotate_left; (intro w'; go_simp; with_reducible rfl); rotate_left; (simp only [Act.put, List.setIfInBounds_toArray, List.set_cons_zero, List.set_cons_succ]; rfl)
        refine zpu 6 (some 30) zY5 ?_ rfl rfl (any_of HT_.out (by kernel_rfl)) (by rfl) ?_ ?_ ?_ ?_
        rotate_left; (intro w'; go_simp; with_reducible rfl); rotate_left; (simp only [Act.put, List.setIfInBounds_toArray, List.set_cons_zero, List.set_cons_succ]; rfl)
        refine take_ (i := 2) (N := some 26) (v := ?_) (a' := ?_) zY6 rfl rfl (take_ofW HT_.out HW_.out (by kernel_rfl)) (fun _ _ _ h => h) (Or.inl ⟨by rfl, ?_⟩) hHeld ?_ ?_
        rotate_left; (rintro w' ⟨s0, s1, s2, s3, s4⟩; go_simp; with_reducible rfl); rotate_left; (simp only [Act.put, List.setIfInBounds_toArray, List.set_cons_zero, List.set_cons_succ]; rfl)
        refine take_ (i := 5) (N := some 29) (v := ?_) (a' := ?_) zY7 rfl rfl (take_ofW HT_.out HW_.out (by kernel_rfl)) (fun _ _ _ h => h) (Or.inl ⟨by rfl, ?_⟩) hHeld ?_ ?_
        rotate_left; (rintro w' ⟨s0, s1, s2, s3, s4⟩; go_simp; with_reducible rfl); rotate_left; (simp only [Act.put, List.setIfInBounds_toArray, List.set_cons_zero, List.set_cons_succ]; rfl)
        refine one_ (i := 7) (N := some 31) zY8 rfl rfl (one_of HT_.out (by kernel_rfl)) (by decide) (fun K hK => ?_)
        refine goes_ Try.func13 (by kernel_rfl) rfl #[.agg #[.int .i64 k0, .int .i64 n0], .int .i64 b, .int .i64 0] (by rfl) rfl rfl (by simp only [List.map_toArray, List.map_cons, List.map_nil]; rfl) ?_
        with_reducible refine (hof _).mono ?_
        rintro e w5 ⟨rfl, hb⟩
        refine ⟨_, rfl, ?_⟩
        refine hK.out _ _ ⟨(LsR.below hHeld hb).1, (LsR.below hHeld hb).2.1, (LsR.below hHeld hb).2.2.1, (LsR.below hHeld hb).2.2.2.1, (LsR.below hHeld hb).2.2.2.2⟩ (fun hHeld => ?_)
        clear hK K
        refine norm_ (a' := ?_) ?_ ?_
        rotate_left
        · show Act.put _ (some 31) _ = _
          simp only [Act.put, List.setIfInBounds_toArray, List.set_cons_zero, List.set_cons_succ, i64_w, i32_w]
          rfl
        refine zpu 8 (some 32) zY9 ?_ rfl rfl (any_of HT_.out (by kernel_rfl)) (by rfl) ?_ ?_ ?_ ?_
        rotate_left; (intro w'; go_simp; with_reducible rfl); rotate_left; (simp only [Act.put, List.setIfInBounds_toArray, List.set_cons_zero, List.set_cons_succ]; rfl)
        refine zpu 9 (some 33) zY10 ?_ rfl rfl (any_of HT_.out (by kernel_rfl)) (by rfl) ?_ ?_ ?_ ?_
        rotate_left; (intro w'; go_simp; with_reducible rfl); rotate_left; (simp only [Act.put, List.setIfInBounds_toArray, List.set_cons_zero, List.set_cons_succ]; rfl)
        refine zpu 10 (some 34) zY11 ?_ rfl rfl (any_of HT_.out (by kernel_rfl)) (by rfl) ?_ ?_ ?_ ?_
        rotate_left; (intro w'; go_simp; with_reducible rfl); rotate_left; (simp only [Act.put, List.setIfInBounds_toArray, List.set_cons_zero, List.set_cons_succ]; rfl)
        refine zpu 11 (some 35) zY12 ?_ rfl rfl (any_of HT_.out (by kernel_rfl)) (by rfl) ?_ ?_ ?_ ?_
        rotate_left; (intro w'; go_simp; with_reducible rfl); rotate_left; (simp only [Act.put, List.setIfInBounds_toArray, List.set_cons_zero, List.set_cons_succ]; rfl)
        refine zpu 12 (some 36) zY13 ?_ rfl rfl (any_of HT_.out (by kernel_rfl)) (by rfl) ?_ ?_ ?_ ?_
        rotate_left; (intro w'; go_simp; with_reducible rfl); rotate_left; (simp only [Act.put, List.setIfInBounds_toArray, List.set_cons_zero, List.set_cons_succ]; rfl)
        refine take_ (i := 13) (N := some 37) (v := ?_) (a' := ?_) zY14 rfl rfl (take_ofW HT_.out HW_.out (by kernel_rfl)) (fun _ _ _ h => h) (Or.inl ⟨by rfl, ?_⟩) hHeld ?_ ?_
        rotate_left; (rintro w' ⟨s0, s1, s2, s3, s4⟩; go_simp; with_reducible rfl); rotate_left; (simp only [Act.put, List.setIfInBounds_toArray, List.set_cons_zero, List.set_cons_succ]; rfl)
        refine zpu 14 (some 38) zY15 ?_ rfl rfl (any_of HT_.out (by kernel_rfl)) (by rfl) ?_ ?_ ?_ ?_
        rotate_left; (intro w'; go_simp; with_reducible rfl); rotate_left; (simp only [Act.put, List.setIfInBounds_toArray, List.set_cons_zero, List.set_cons_succ]; rfl)
        refine zpu 15 (some 39) zY16 ?_ rfl rfl (any_of HT_.out (by kernel_rfl)) (by rfl) ?_ ?_ ?_ ?_
        rotate_left; (intro w'; go_simp; with_reducible rfl); rotate_left; (simp only [Act.put, List.setIfInBounds_toArray, List.set_cons_zero, List.set_cons_succ]; rfl)
        refine zpo 16 (some 40) zY17 rfl rfl (any_of HT_.out (by kernel_rfl)) (by rfl) ?_ ?_ ?_
        rotate_left; (simp only [Act.put, List.setIfInBounds_toArray, List.set_cons_zero, List.set_cons_succ]; rfl)
        refine zpo 17 (some 41) zY18 rfl rfl (any_of HT_.out (by kernel_rfl)) (by rfl) ?_ ?_ ?_
        rotate_left; (simp only [Act.put, List.setIfInBounds_toArray, List.set_cons_zero, List.set_cons_succ]; rfl)
        refine zpo 18 (some 42) zY19 rfl rfl (any_of HT_.out (by kernel_rfl)) (by rfl) ?_ ?_ ?_
        rotate_left; (simp only [Act.put, List.setIfInBounds_toArray, List.set_cons_zero, List.set_cons_succ]; rfl)
        refine zpo 19 (some 43) zY20 rfl rfl (any_of HT_.out (by kernel_rfl)) (by rfl) ?_ ?_ ?_
        rotate_left; (simp only [Act.put, List.setIfInBounds_toArray, List.set_cons_zero, List.set_cons_succ]; rfl)
        refine zpu 20 (some 44) zY21 ?_ rfl rfl (any_of HT_.out (by kernel_rfl)) (by rfl) ?_ ?_ ?_ ?_
        rotate_left; (intro w'; go_simp; with_reducible rfl); rotate_left; (simp only [Act.put, List.setIfInBounds_toArray, List.set_cons_zero, List.set_cons_succ]; rfl)
        refine zpu 21 (some 45) zY22 ?_ rfl rfl (any_of HT_.out (by kernel_rfl)) (by rfl) ?_ ?_ ?_ ?_
        rotate_left; (intro w'; go_simp; with_reducible rfl); rotate_left; (simp only [Act.put, List.setIfInBounds_toArray, List.set_cons_zero, List.set_cons_succ]; rfl)
        refine zpu 22 (some 46) zY23 ?_ rfl rfl (any_of HT_.out (by kernel_rfl)) (by rfl) ?_ ?_ ?_ ?_
        rotate_left; (intro w'; go_simp; with_reducible rfl); rotate_left; (simp only [Act.put, List.setIfInBounds_toArray, List.set_cons_zero, List.set_cons_succ]; rfl)
        refine zpu 23 (some 47) zY24 ?_ rfl rfl (any_of HT_.out (by kernel_rfl)) (by rfl) ?_ ?_ ?_ ?_
        rotate_left; (intro w'; go_simp; with_reducible rfl); rotate_left; (simp only [Act.put, List.setIfInBounds_toArray, List.set_cons_zero, List.set_cons_succ]; rfl)
        refine zpu 24 (some 48) zY25 ?_ rfl rfl (any_of HT_.out (by kernel_rfl)) (by rfl) ?_ ?_ ?_ ?_
        rotate_left; (intro w'; go_simp; with_reducible rfl); rotate_left; (simp only [Act.put, List.setIfInBounds_toArray, List.set_cons_zero, List.set_cons_succ]; rfl)
        refine zpu 25 (some 49) zY26 ?_ rfl rfl (any_of HT_.out (by kernel_rfl)) (by rfl) ?_ ?_ ?_ ?_
        rotate_left; (intro w'; go_simp; with_reducible rfl); rotate_left; (simp only [Act.put, List.setIfInBounds_toArray, List.set_cons_zero, List.set_cons_succ]; rfl)
        refine take_ (i := 26) (N := some 50) (v := ?_) (a' := ?_) zY27 rfl rfl (take_ofW HT_.out HW_.out (by kernel_rfl)) (fun _ _ _ h => h) (Or.inl ⟨by rfl, ?_⟩) hHeld ?_ ?_
        rotate_left; (rintro w' ⟨s0, s1, s2, s3, s4⟩; go_simp; with_reducible rfl); rotate_left; (simp only [Act.put, List.setIfInBounds_toArray, List.set_cons_zero, List.set_cons_succ]; rfl)
        refine zpu 27 (some 51) zY28 ?_ rfl rfl (any_of HT_.out (by kernel_rfl)) (by rfl) ?_ ?_ ?_ ?_
        rotate_left; (intro w'; go_simp; with_reducible rfl); rotate_left; (simp only [Act.put, List.setIfInBounds_toArray, List.set_cons_zero, List.set_cons_succ]; rfl)
        refine zpu 28 (some 52) zY29 ?_ rfl rfl (any_of HT_.out (by kernel_rfl)) (by rfl) ?_ ?_ ?_ ?_
        rotate_left; (intro w'; go_simp; with_reducible rfl); rotate_left; (simp only [Act.put, List.setIfInBounds_toArray, List.set_cons_zero, List.set_cons_succ]; rfl)
        refine zpo 29 (some 53) zY30 rfl rfl (any_of HT_.out (by kernel_rfl)) (by rfl) ?_ ?_ ?_
        rotate_left; (simp only [Act.put, List.setIfInBounds_toArray, List.set_cons_zero, List.set_cons_succ]; rfl)
        refine zpo 30 (some 54) zY31 rfl rfl (any_of HT_.out (by kernel_rfl)) (by rfl) ?_ ?_ ?_
        rotate_left; (simp only [Act.put, List.setIfInBounds_toArray, List.set_cons_zero, List.set_cons_succ]; rfl)
        refine zpo 31 (some 55) zY32 rfl rfl (any_of HT_.out (by kernel_rfl)) (by rfl) ?_ ?_ ?_
        rotate_left; (simp only [Act.put, List.setIfInBounds_toArray, List.set_cons_zero, List.set_cons_succ]; rfl)
        refine zpo 32 (some 56) zY33 rfl rfl (any_of HT_.out (by kernel_rfl)) (by rfl) ?_ ?_ ?_
        rotate_left; (simp only [Act.put, List.setIfInBounds_toArray, List.set_cons_zero, List.set_cons_succ]; rfl)
        refine zpo 33 (some 57) zY34 rfl rfl (any_of HT_.out (by kernel_rfl)) (by rfl) ?_ ?_ ?_
        rotate_left; (simp only [Act.put, List.setIfInBounds_toArray, List.set_cons_zero, List.set_cons_succ]; rfl)
        refine zpo 34 (some 58) zY35 rfl rfl (any_of HT_.out (by kernel_rfl)) (by rfl) ?_ ?_ ?_
        rotate_left; (simp only [Act.put, List.setIfInBounds_toArray, List.set_cons_zero, List.set_cons_succ]; rfl)
        refine zpo 35 (some 59) zY36 rfl rfl (any_of HT_.out (by kernel_rfl)) (by rfl) ?_ ?_ ?_
        rotate_left; (simp only [Act.put, List.setIfInBounds_toArray, List.set_cons_zero, List.set_cons_succ]; rfl)
        refine zpu 36 (some 60) zY37 ?_ rfl rfl (any_of HT_.out (by kernel_rfl)) (by rfl) ?_ ?_ ?_ ?_
        rotate_left; (intro w'; go_simp; with_reducible rfl); rotate_left; (simp only [Act.put, List.setIfInBounds_toArray, List.set_cons_zero, List.set_cons_succ]; rfl)
        refine zpu 37 (some 61) zY38 ?_ rfl rfl (any_of HT_.out (by kernel_rfl)) (by rfl) ?_ ?_ ?_ ?_
        rotate_left; (intro w'; go_simp; with_reducible rfl); rotate_left; (simp only [Act.put, List.setIfInBounds_toArray, List.set_cons_zero, List.set_cons_succ]; rfl)
        refine zpu 38 (some 62) zY39 ?_ rfl rfl (any_of HT_.out (by kernel_rfl)) (by rfl) ?_ ?_ ?_ ?_
        rotate_left; (intro w'; go_simp; with_reducible rfl); rotate_left; (simp only [Act.put, List.setIfInBounds_toArray, List.set_cons_zero, List.set_cons_succ]; rfl)
        refine zpu 39 (some 63) zY40 ?_ rfl rfl (any_of HT_.out (by kernel_rfl)) (by rfl) ?_ ?_ ?_ ?_
        rotate_left; (intro w'; go_simp; with_reducible rfl); rotate_left; (simp only [Act.put, List.setIfInBounds_toArray, List.set_cons_zero, List.set_cons_succ]; rfl)
        refine zpu 40 (some 64) zY41 ?_ rfl rfl (any_of HT_.out (by kernel_rfl)) (by rfl) ?_ ?_ ?_ ?_
        rotate_left; (intro w'; go_simp; with_reducible rfl); rotate_left; (simp only [Act.put, List.setIfInBounds_toArray, List.set_cons_zero, List.set_cons_succ]; rfl)
        refine zpu 42 (some 66) zY42 ?_ rfl rfl (any_of HT_.out (by kernel_rfl)) (by rfl) ?_ ?_ ?_ ?_
        rotate_left; (intro w'; go_simp; with_reducible rfl); rotate_left; (simp only [Act.put, List.setIfInBounds_toArray, List.set_cons_zero, List.set_cons_succ]; rfl)
        refine take_ (i := 41) (N := some 65) (v := ?_) (a' := ?_) zY43 rfl rfl (take_ofW HT_.out HW_.out (by kernel_rfl)) (fun _ _ _ h => h) (Or.inl ⟨by rfl, ?_⟩) hHeld ?_ ?_
        rotate_left; (rintro w' ⟨s0, s1, s2, s3, s4⟩; go_simp; with_reducible rfl); rotate_left; (simp only [Act.put, List.setIfInBounds_toArray, List.set_cons_zero, List.set_cons_succ]; rfl)
        refine one_ (i := 43) (N := some 67) zY44 rfl rfl (one_of HT_.out (by kernel_rfl)) (by decide) (fun K hK => ?_)
        refine goes_ Try.func15 (by kernel_rfl) rfl #[.agg #[.int .i64 k0, .int .i64 n0], .int .i64 b] (by rfl) rfl rfl (by simp only [List.map_toArray, List.map_cons, List.map_nil]; rfl) ?_
        with_reducible refine (hfx _).mono ?_
        rintro e w6 ⟨rfl, hb⟩
        refine ⟨_, rfl, ?_⟩
        refine hK.out _ _ ⟨(LsR.below hHeld hb).1, (LsR.below hHeld hb).2.1, (LsR.below hHeld hb).2.2.1, (LsR.below hHeld hb).2.2.2.1, (LsR.below hHeld hb).2.2.2.2⟩ (fun hHeld => ?_)
        clear hK K
        refine norm_ (a' := ?_) ?_ ?_
        rotate_left
        · show Act.put _ (some 67) _ = _
          simp only [Act.put, List.setIfInBounds_toArray, List.set_cons_zero, List.set_cons_succ, i64_w, i32_w]
          rfl
        refine zpu 44 (some 68) zY45 ?_ rfl rfl (any_of HT_.out (by kernel_rfl)) (by rfl) ?_ ?_ ?_ ?_
        rotate_left; (intro w'; go_simp; with_reducible rfl); rotate_left; (simp only [Act.put, List.setIfInBounds_toArray, List.set_cons_zero, List.set_cons_succ]; rfl)
        refine zpu 45 (some 69) zY46 ?_ rfl rfl (any_of HT_.out (by kernel_rfl)) (by rfl) ?_ ?_ ?_ ?_
        rotate_left; (intro w'; go_simp; with_reducible rfl); rotate_left; (simp only [Act.put, List.setIfInBounds_toArray, List.set_cons_zero, List.set_cons_succ]; rfl)
        refine zpu 46 (some 70) zY47 ?_ rfl rfl (any_of HT_.out (by kernel_rfl)) (by rfl) ?_ ?_ ?_ ?_
        rotate_left; (intro w'; go_simp; with_reducible rfl); rotate_left; (simp only [Act.put, List.setIfInBounds_toArray, List.set_cons_zero, List.set_cons_succ]; rfl)
        refine zpu 47 (some 71) zY48 ?_ rfl rfl (any_of HT_.out (by kernel_rfl)) (by rfl) ?_ ?_ ?_ ?_
        rotate_left; (intro w'; go_simp; with_reducible rfl); rotate_left; (simp only [Act.put, List.setIfInBounds_toArray, List.set_cons_zero, List.set_cons_succ]; rfl)
        refine take_ (i := 48) (N := some 72) (v := ?_) (a' := ?_) zY49 rfl rfl (take_ofW HT_.out HW_.out (by kernel_rfl)) (fun _ _ _ h => h) (Or.inl ⟨by rfl, ?_⟩) hHeld ?_ ?_
        rotate_left; (rintro w' ⟨s0, s1, s2, s3, s4⟩; go_simp; with_reducible rfl); rotate_left; (simp only [Act.put, List.setIfInBounds_toArray, List.set_cons_zero, List.set_cons_succ]; rfl)
        refine zpu 49 (some 73) zY50 ?_ rfl rfl (any_of HT_.out (by kernel_rfl)) (by rfl) ?_ ?_ ?_ ?_
        rotate_left; (intro w'; go_simp; with_reducible rfl); rotate_left; (simp only [Act.put, List.setIfInBounds_toArray, List.set_cons_zero, List.set_cons_succ]; rfl)
        refine zpu 50 (some 74) zY51 ?_ rfl rfl (any_of HT_.out (by kernel_rfl)) (by rfl) ?_ ?_ ?_ ?_
        rotate_left; (intro w'; go_simp; with_reducible rfl); rotate_left; (simp only [Act.put, List.setIfInBounds_toArray, List.set_cons_zero, List.set_cons_succ]; rfl)
        refine zpu 51 (some 75) zY52 ?_ rfl rfl (any_of HT_.out (by kernel_rfl)) (by rfl) ?_ ?_ ?_ ?_
        rotate_left; (intro w'; go_simp; with_reducible rfl); rotate_left; (simp only [Act.put, List.setIfInBounds_toArray, List.set_cons_zero, List.set_cons_succ]; rfl)
        refine done_ (done_of HT_.out (by kernel_rfl)) ?_
        have hS1 := hHeld
        have HR := Aside0.mk hS1.2.2.2.2
        clear hS0 hS1 hHeld
        go_wp2
        go_roundw
        case rel => exact .inr (.inl ⟨rfl, HR.out⟩)
        case measure => simp [intOf]
    · have hof := zy_of k1 n1 b 0
      have hfx := zy_fixed k1 n1 b
      have q0 : wr.cell? ⟨w.heap.size, 2, none⟩ = some (.int .i64 k1) := (blk_cell hR.1 2).trans rfl
      have q1 : wr.cell? ⟨w.heap.size, 3, none⟩ = some (.int .i64 n1) := (blk_cell hR.1 3).trans rfl
      have q2 : wr.cell? ⟨w2.heap.size, 1, none⟩ = some (.int .i64 (vof k1 n1 b 0)) := (blk_cell hR.2.1 1).trans rfl
      have q3 : wr.cell? ⟨w3.heap.size, 1, none⟩ = some (.int .i64 (vof k1 n1 c 0)) := (blk_cell hR.2.2.1 1).trans rfl
      have HQ := Aside0.mk hR
      clear hR
      have hcase := zy_cases k1 n1 b c
      generalize hL : (#[.int .i64 k0, .int .i64 n0, .int .i64 k1, .int .i64 n1, .int .i64 k2, .int .i64 n2, .int .i64 k3, .int .i64 n3] : Array Value) = L at *
      generalize hSb : (#[.int .i64 (vof k0 n0 b 0), .int .i64 (vof k1 n1 b 0), .int .i64 (vof k2 n2 b 0), .int .i64 (vof k3 n3 b 0)] : Array Value) = Sa at *
      generalize hTb : (#[.int .i64 (vof k0 n0 c 0), .int .i64 (vof k1 n1 c 0), .int .i64 (vof k2 n2 c 0), .int .i64 (vof k3 n3 c 0)] : Array Value) = Ta at *
      clear hL hSb hTb
      generalize vof k1 n1 b 0 = s at *
      generalize vof k1 n1 c 0 = t at *
      generalize vfixed k1 b = f at *
      rcases hcase with ⟨rfl, rfl, rfl⟩ | ⟨rfl, rfl, rfl⟩ | ⟨e0, e1, rfl⟩ | ⟨e0, e1, rfl, rfl⟩
      · skip
        go_wp2
        have hS0 : LsR 2 3 1 w.heap.size w2.heap.size w3.heap.size L Sa Ta _ _ _ _ w wr := ⟨q0, q1, q2, q3, HQ.out⟩
        clear q0 q1 q2 q3 HQ
        unfold LsR at hS0
        refine start_ (n := 52) (S := fun w' => w'.cell? ⟨w.heap.size, 2, none⟩ = some (.int .i64 0) ∧ w'.cell? ⟨w.heap.size, 3, none⟩ = some (.int .i64 n1) ∧ w'.cell? ⟨w2.heap.size, 1, none⟩ = some (.int .i64 0) ∧ w'.cell? ⟨w3.heap.size, 1, none⟩ = some (.int .i64 t) ∧ LsS w.heap.size w2.heap.size w3.heap.size L Sa Ta w w') (ds := []) zY0 (by kernel_rfl) rfl rfl ⟨(LsR.below hS0 (below_drew1 (Below.refl _ _))).1, (LsR.below hS0 (below_drew1 (Below.refl _ _))).2.1, (LsR.below hS0 (below_drew1 (Below.refl _ _))).2.2.1, (LsR.below hS0 (below_drew1 (Below.refl _ _))).2.2.2.1, (LsR.below hS0 (below_drew1 (Below.refl _ _))).2.2.2.2⟩ (fun hHeld => ?_)
        refine with_tabW zls.tab9 zls.bits9 (fun HT_ HW_ => ?_)
        refine zpu 0 (some 24) zY1 ?_ rfl rfl (any_of HT_.out (by kernel_rfl)) (by rfl) ?_ ?_ ?_ ?_
        rotate_left; (intro w'; go_simp; with_reducible rfl); rotate_left; (simp only [Act.put, List.setIfInBounds_toArray, List.set_cons_zero, List.set_cons_succ]; rfl)
        refine zpu 1 (some 25) zY2 ?_ rfl rfl (any_of HT_.out (by kernel_rfl)) (by rfl) ?_ ?_ ?_ ?_
        rotate_left; (intro w'; go_simp; with_reducible rfl); rotate_left; (simp only [Act.put, List.setIfInBounds_toArray, List.set_cons_zero, List.set_cons_succ]; rfl)
        refine zpu 3 (some 27) zY3 ?_ rfl rfl (any_of HT_.out (by kernel_rfl)) (by rfl) ?_ ?_ ?_ ?_
        rotate_left; (intro w'; go_simp; with_reducible rfl); rotate_left; (simp only [Act.put, List.setIfInBounds_toArray, List.set_cons_zero, List.set_cons_succ]; rfl)
        refine zpu 4 (some 28) zY4 ?_ rfl rfl (any_of HT_.out (by kernel_rfl)) (by rfl) ?_ ?_ ?_ ?_
        rotate_left; (intro w'; go_simp; with_reducible rfl); rotate_left; (simp only [Act.put, List.setIfInBounds_toArray, List.set_cons_zero, List.set_cons_succ]; rfl)
        refine zpu 6 (some 30) zY5 ?_ rfl rfl (any_of HT_.out (by kernel_rfl)) (by rfl) ?_ ?_ ?_ ?_
        rotate_left; (intro w'; go_simp; with_reducible rfl); rotate_left; (simp only [Act.put, List.setIfInBounds_toArray, List.set_cons_zero, List.set_cons_succ]; rfl)
        refine take_ (i := 2) (N := some 26) (v := ?_) (a' := ?_) zY6 rfl rfl (take_ofW HT_.out HW_.out (by kernel_rfl)) (fun _ _ _ h => h) (Or.inl ⟨by rfl, ?_⟩) hHeld ?_ ?_
        rotate_left; (rintro w' ⟨s0, s1, s2, s3, s4⟩; go_simp; with_reducible rfl); rotate_left; (simp only [Act.put, List.setIfInBounds_toArray, List.set_cons_zero, List.set_cons_succ]; rfl)
        refine take_ (i := 5) (N := some 29) (v := ?_) (a' := ?_) zY7 rfl rfl (take_ofW HT_.out HW_.out (by kernel_rfl)) (fun _ _ _ h => h) (Or.inl ⟨by rfl, ?_⟩) hHeld ?_ ?_
        rotate_left; (rintro w' ⟨s0, s1, s2, s3, s4⟩; go_simp; with_reducible rfl); rotate_left; (simp only [Act.put, List.setIfInBounds_toArray, List.set_cons_zero, List.set_cons_succ]; rfl)
        refine one_ (i := 7) (N := some 31) zY8 rfl rfl (one_of HT_.out (by kernel_rfl)) (by decide) (fun K hK => ?_)
        refine goes_ Try.func13 (by kernel_rfl) rfl #[.agg #[.int .i64 0, .int .i64 n1], .int .i64 b, .int .i64 0] (by rfl) rfl rfl (by simp only [List.map_toArray, List.map_cons, List.map_nil]; rfl) ?_
        with_reducible refine (hof _).mono ?_
        rintro e w5 ⟨rfl, hb⟩
        refine ⟨_, rfl, ?_⟩
        refine hK.out _ _ ⟨(LsR.below hHeld hb).1, (LsR.below hHeld hb).2.1, (LsR.below hHeld hb).2.2.1, (LsR.below hHeld hb).2.2.2.1, (LsR.below hHeld hb).2.2.2.2⟩ (fun hHeld => ?_)
        clear hK K
        refine norm_ (a' := ?_) ?_ ?_
        rotate_left
        · show Act.put _ (some 31) _ = _
          simp only [Act.put, List.setIfInBounds_toArray, List.set_cons_zero, List.set_cons_succ, i64_w, i32_w]
          rfl
        refine zpu 8 (some 32) zY9 ?_ rfl rfl (any_of HT_.out (by kernel_rfl)) (by rfl) ?_ ?_ ?_ ?_
        rotate_left; (intro w'; go_simp; with_reducible rfl); rotate_left; (simp only [Act.put, List.setIfInBounds_toArray, List.set_cons_zero, List.set_cons_succ]; rfl)
        refine zpu 9 (some 33) zY10 ?_ rfl rfl (any_of HT_.out (by kernel_rfl)) (by rfl) ?_ ?_ ?_ ?_
        rotate_left; (intro w'; go_simp; with_reducible rfl); rotate_left; (simp only [Act.put, List.setIfInBounds_toArray, List.set_cons_zero, List.set_cons_succ]; rfl)
        refine zpu 10 (some 34) zY11 ?_ rfl rfl (any_of HT_.out (by kernel_rfl)) (by rfl) ?_ ?_ ?_ ?_
        rotate_left; (intro w'; go_simp; with_reducible rfl); rotate_left; (simp only [Act.put, List.setIfInBounds_toArray, List.set_cons_zero, List.set_cons_succ]; rfl)
        refine zpu 11 (some 35) zY12 ?_ rfl rfl (any_of HT_.out (by kernel_rfl)) (by rfl) ?_ ?_ ?_ ?_
        rotate_left; (intro w'; go_simp; with_reducible rfl); rotate_left; (simp only [Act.put, List.setIfInBounds_toArray, List.set_cons_zero, List.set_cons_succ]; rfl)
        refine zpu 12 (some 36) zY13 ?_ rfl rfl (any_of HT_.out (by kernel_rfl)) (by rfl) ?_ ?_ ?_ ?_
        rotate_left; (intro w'; go_simp; with_reducible rfl); rotate_left; (simp only [Act.put, List.setIfInBounds_toArray, List.set_cons_zero, List.set_cons_succ]; rfl)
        refine take_ (i := 13) (N := some 37) (v := ?_) (a' := ?_) zY14 rfl rfl (take_ofW HT_.out HW_.out (by kernel_rfl)) (fun _ _ _ h => h) (Or.inl ⟨by rfl, ?_⟩) hHeld ?_ ?_
        rotate_left; (rintro w' ⟨s0, s1, s2, s3, s4⟩; go_simp; with_reducible rfl); rotate_left; (simp only [Act.put, List.setIfInBounds_toArray, List.set_cons_zero, List.set_cons_succ]; rfl)
        refine zpu 14 (some 38) zY15 ?_ rfl rfl (any_of HT_.out (by kernel_rfl)) (by rfl) ?_ ?_ ?_ ?_
        rotate_left; (intro w'; go_simp; with_reducible rfl); rotate_left; (simp only [Act.put, List.setIfInBounds_toArray, List.set_cons_zero, List.set_cons_succ]; rfl)
        refine zpu 15 (some 39) zY16 ?_ rfl rfl (any_of HT_.out (by kernel_rfl)) (by rfl) ?_ ?_ ?_ ?_
        rotate_left; (intro w'; go_simp; with_reducible rfl); rotate_left; (simp only [Act.put, List.setIfInBounds_toArray, List.set_cons_zero, List.set_cons_succ]; rfl)
        refine zpu 16 (some 40) zY17 ?_ rfl rfl (any_of HT_.out (by kernel_rfl)) (by rfl) ?_ ?_ ?_ ?_
        rotate_left; (intro w'; go_simp; with_reducible rfl); rotate_left; (simp only [Act.put, List.setIfInBounds_toArray, List.set_cons_zero, List.set_cons_succ]; rfl)
        refine zpu 17 (some 41) zY18 ?_ rfl rfl (any_of HT_.out (by kernel_rfl)) (by rfl) ?_ ?_ ?_ ?_
        rotate_left; (intro w'; go_simp; with_reducible rfl); rotate_left; (simp only [Act.put, List.setIfInBounds_toArray, List.set_cons_zero, List.set_cons_succ]; rfl)
        refine take_ (i := 18) (N := some 42) (v := ?_) (a' := ?_) zY19 rfl rfl (take_ofW HT_.out HW_.out (by kernel_rfl)) (fun _ _ _ h => h) (Or.inl ⟨by rfl, ?_⟩) hHeld ?_ ?_
        rotate_left; (rintro w' ⟨s0, s1, s2, s3, s4⟩; go_simp; with_reducible rfl); rotate_left; (simp only [Act.put, List.setIfInBounds_toArray, List.set_cons_zero, List.set_cons_succ]; rfl)
        refine zpu 19 (some 43) zY20 ?_ rfl rfl (any_of HT_.out (by kernel_rfl)) (by rfl) ?_ ?_ ?_ ?_
        rotate_left; (intro w'; go_simp; with_reducible rfl); rotate_left; (simp only [Act.put, List.setIfInBounds_toArray, List.set_cons_zero, List.set_cons_succ]; rfl)
        refine zpu 20 (some 44) zY21 ?_ rfl rfl (any_of HT_.out (by kernel_rfl)) (by rfl) ?_ ?_ ?_ ?_
        rotate_left; (intro w'; go_simp; with_reducible rfl); rotate_left; (simp only [Act.put, List.setIfInBounds_toArray, List.set_cons_zero, List.set_cons_succ]; rfl)
        refine zpu 21 (some 45) zY22 ?_ rfl rfl (any_of HT_.out (by kernel_rfl)) (by rfl) ?_ ?_ ?_ ?_
        rotate_left; (intro w'; go_simp; with_reducible rfl); rotate_left; (simp only [Act.put, List.setIfInBounds_toArray, List.set_cons_zero, List.set_cons_succ]; rfl)
        refine zpu 22 (some 46) zY23 ?_ rfl rfl (any_of HT_.out (by kernel_rfl)) (by rfl) ?_ ?_ ?_ ?_
        rotate_left; (intro w'; go_simp; with_reducible rfl); rotate_left; (simp only [Act.put, List.setIfInBounds_toArray, List.set_cons_zero, List.set_cons_succ]; rfl)
        refine zpu 23 (some 47) zY24 ?_ rfl rfl (any_of HT_.out (by kernel_rfl)) (by rfl) ?_ ?_ ?_ ?_
        rotate_left; (intro w'; go_simp; with_reducible rfl); rotate_left; (simp only [Act.put, List.setIfInBounds_toArray, List.set_cons_zero, List.set_cons_succ]; rfl)
        refine zpu 24 (some 48) zY25 ?_ rfl rfl (any_of HT_.out (by kernel_rfl)) (by rfl) ?_ ?_ ?_ ?_
        rotate_left; (intro w'; go_simp; with_reducible rfl); rotate_left; (simp only [Act.put, List.setIfInBounds_toArray, List.set_cons_zero, List.set_cons_succ]; rfl)
        refine zpu 25 (some 49) zY26 ?_ rfl rfl (any_of HT_.out (by kernel_rfl)) (by rfl) ?_ ?_ ?_ ?_
        rotate_left; (intro w'; go_simp; with_reducible rfl); rotate_left; (simp only [Act.put, List.setIfInBounds_toArray, List.set_cons_zero, List.set_cons_succ]; rfl)
        refine take_ (i := 26) (N := some 50) (v := ?_) (a' := ?_) zY27 rfl rfl (take_ofW HT_.out HW_.out (by kernel_rfl)) (fun _ _ _ h => h) (Or.inl ⟨by rfl, ?_⟩) hHeld ?_ ?_
        rotate_left; (rintro w' ⟨s0, s1, s2, s3, s4⟩; go_simp; with_reducible rfl); rotate_left; (simp only [Act.put, List.setIfInBounds_toArray, List.set_cons_zero, List.set_cons_succ]; rfl)
        refine zpu 27 (some 51) zY28 ?_ rfl rfl (any_of HT_.out (by kernel_rfl)) (by rfl) ?_ ?_ ?_ ?_
        rotate_left; (intro w'; go_simp; with_reducible rfl); rotate_left; (simp only [Act.put, List.setIfInBounds_toArray, List.set_cons_zero, List.set_cons_succ]; rfl)
        refine zpu 28 (some 52) zY29 ?_ rfl rfl (any_of HT_.out (by kernel_rfl)) (by rfl) ?_ ?_ ?_ ?_
        rotate_left; (intro w'; go_simp; with_reducible rfl); rotate_left; (simp only [Act.put, List.setIfInBounds_toArray, List.set_cons_zero, List.set_cons_succ]; rfl)
        refine zpo 29 (some 53) zY30 rfl rfl (any_of HT_.out (by kernel_rfl)) (by rfl) ?_ ?_ ?_
        rotate_left; (simp only [Act.put, List.setIfInBounds_toArray, List.set_cons_zero, List.set_cons_succ]; rfl)
        refine zpo 30 (some 54) zY31 rfl rfl (any_of HT_.out (by kernel_rfl)) (by rfl) ?_ ?_ ?_
        rotate_left; (simp only [Act.put, List.setIfInBounds_toArray, List.set_cons_zero, List.set_cons_succ]; rfl)
        refine zpo 31 (some 55) zY32 rfl rfl (any_of HT_.out (by kernel_rfl)) (by rfl) ?_ ?_ ?_
        rotate_left; (simp only [Act.put, List.setIfInBounds_toArray, List.set_cons_zero, List.set_cons_succ]; rfl)
        refine zpo 32 (some 56) zY33 rfl rfl (any_of HT_.out (by kernel_rfl)) (by rfl) ?_ ?_ ?_
        rotate_left; (simp only [Act.put, List.setIfInBounds_toArray, List.set_cons_zero, List.set_cons_succ]; rfl)
        refine zpo 33 (some 57) zY34 rfl rfl (any_of HT_.out (by kernel_rfl)) (by rfl) ?_ ?_ ?_
        rotate_left; (simp only [Act.put, List.setIfInBounds_toArray, List.set_cons_zero, List.set_cons_succ]; rfl)
        refine zpo 34 (some 58) zY35 rfl rfl (any_of HT_.out (by kernel_rfl)) (by rfl) ?_ ?_ ?_
        rotate_left; (simp only [Act.put, List.setIfInBounds_toArray, List.set_cons_zero, List.set_cons_succ]; rfl)
        refine zpo 35 (some 59) zY36 rfl rfl (any_of HT_.out (by kernel_rfl)) (by rfl) ?_ ?_ ?_
        rotate_left; (simp only [Act.put, List.setIfInBounds_toArray, List.set_cons_zero, List.set_cons_succ]; rfl)
        refine zpu 36 (some 60) zY37 ?_ rfl rfl (any_of HT_.out (by kernel_rfl)) (by rfl) ?_ ?_ ?_ ?_
        rotate_left; (intro w'; go_simp; with_reducible rfl); rotate_left; (simp only [Act.put, List.setIfInBounds_toArray, List.set_cons_zero, List.set_cons_succ]; rfl)
        refine zpu 37 (some 61) zY38 ?_ rfl rfl (any_of HT_.out (by kernel_rfl)) (by rfl) ?_ ?_ ?_ ?_
        rotate_left; (intro w'; go_simp; with_reducible rfl); rotate_left; (simp only [Act.put, List.setIfInBounds_toArray, List.set_cons_zero, List.set_cons_succ]; rfl)
        refine zpu 38 (some 62) zY39 ?_ rfl rfl (any_of HT_.out (by kernel_rfl)) (by rfl) ?_ ?_ ?_ ?_
        rotate_left; (intro w'; go_simp; with_reducible rfl); rotate_left; (simp only [Act.put, List.setIfInBounds_toArray, List.set_cons_zero, List.set_cons_succ]; rfl)
        refine zpu 39 (some 63) zY40 ?_ rfl rfl (any_of HT_.out (by kernel_rfl)) (by rfl) ?_ ?_ ?_ ?_
        rotate_left; (intro w'; go_simp; with_reducible rfl); rotate_left; (simp only [Act.put, List.setIfInBounds_toArray, List.set_cons_zero, List.set_cons_succ]; rfl)
        refine zpu 40 (some 64) zY41 ?_ rfl rfl (any_of HT_.out (by kernel_rfl)) (by rfl) ?_ ?_ ?_ ?_
        rotate_left; (intro w'; go_simp; with_reducible rfl); rotate_left; (simp only [Act.put, List.setIfInBounds_toArray, List.set_cons_zero, List.set_cons_succ]; rfl)
        refine zpu 42 (some 66) zY42 ?_ rfl rfl (any_of HT_.out (by kernel_rfl)) (by rfl) ?_ ?_ ?_ ?_
        rotate_left; (intro w'; go_simp; with_reducible rfl); rotate_left; (simp only [Act.put, List.setIfInBounds_toArray, List.set_cons_zero, List.set_cons_succ]; rfl)
        refine take_ (i := 41) (N := some 65) (v := ?_) (a' := ?_) zY43 rfl rfl (take_ofW HT_.out HW_.out (by kernel_rfl)) (fun _ _ _ h => h) (Or.inl ⟨by rfl, ?_⟩) hHeld ?_ ?_
        rotate_left; (rintro w' ⟨s0, s1, s2, s3, s4⟩; go_simp; with_reducible rfl); rotate_left; (simp only [Act.put, List.setIfInBounds_toArray, List.set_cons_zero, List.set_cons_succ]; rfl)
        refine one_ (i := 43) (N := some 67) zY44 rfl rfl (one_of HT_.out (by kernel_rfl)) (by decide) (fun K hK => ?_)
        refine goes_ Try.func15 (by kernel_rfl) rfl #[.agg #[.int .i64 0, .int .i64 n1], .int .i64 b] (by rfl) rfl rfl (by simp only [List.map_toArray, List.map_cons, List.map_nil]; rfl) ?_
        with_reducible refine (hfx _).mono ?_
        rintro e w6 ⟨rfl, hb⟩
        refine ⟨_, rfl, ?_⟩
        refine hK.out _ _ ⟨(LsR.below hHeld hb).1, (LsR.below hHeld hb).2.1, (LsR.below hHeld hb).2.2.1, (LsR.below hHeld hb).2.2.2.1, (LsR.below hHeld hb).2.2.2.2⟩ (fun hHeld => ?_)
        clear hK K
        refine norm_ (a' := ?_) ?_ ?_
        rotate_left
        · show Act.put _ (some 67) _ = _
          simp only [Act.put, List.setIfInBounds_toArray, List.set_cons_zero, List.set_cons_succ, i64_w, i32_w]
          rfl
        refine zpu 44 (some 68) zY45 ?_ rfl rfl (any_of HT_.out (by kernel_rfl)) (by rfl) ?_ ?_ ?_ ?_
        rotate_left; (intro w'; go_simp; with_reducible rfl); rotate_left; (simp only [Act.put, List.setIfInBounds_toArray, List.set_cons_zero, List.set_cons_succ]; rfl)
        refine zpu 45 (some 69) zY46 ?_ rfl rfl (any_of HT_.out (by kernel_rfl)) (by rfl) ?_ ?_ ?_ ?_
        rotate_left; (intro w'; go_simp; with_reducible rfl); rotate_left; (simp only [Act.put, List.setIfInBounds_toArray, List.set_cons_zero, List.set_cons_succ]; rfl)
        refine zpu 46 (some 70) zY47 ?_ rfl rfl (any_of HT_.out (by kernel_rfl)) (by rfl) ?_ ?_ ?_ ?_
        rotate_left; (intro w'; go_simp; with_reducible rfl); rotate_left; (simp only [Act.put, List.setIfInBounds_toArray, List.set_cons_zero, List.set_cons_succ]; rfl)
        refine zpu 47 (some 71) zY48 ?_ rfl rfl (any_of HT_.out (by kernel_rfl)) (by rfl) ?_ ?_ ?_ ?_
        rotate_left; (intro w'; go_simp; with_reducible rfl); rotate_left; (simp only [Act.put, List.setIfInBounds_toArray, List.set_cons_zero, List.set_cons_succ]; rfl)
        refine take_ (i := 48) (N := some 72) (v := ?_) (a' := ?_) zY49 rfl rfl (take_ofW HT_.out HW_.out (by kernel_rfl)) (fun _ _ _ h => h) (Or.inl ⟨by rfl, ?_⟩) hHeld ?_ ?_
        rotate_left; (rintro w' ⟨s0, s1, s2, s3, s4⟩; go_simp; with_reducible rfl); rotate_left; (simp only [Act.put, List.setIfInBounds_toArray, List.set_cons_zero, List.set_cons_succ]; rfl)
        refine zpu 49 (some 73) zY50 ?_ rfl rfl (any_of HT_.out (by kernel_rfl)) (by rfl) ?_ ?_ ?_ ?_
        rotate_left; (intro w'; go_simp; with_reducible rfl); rotate_left; (simp only [Act.put, List.setIfInBounds_toArray, List.set_cons_zero, List.set_cons_succ]; rfl)
        refine zpu 50 (some 74) zY51 ?_ rfl rfl (any_of HT_.out (by kernel_rfl)) (by rfl) ?_ ?_ ?_ ?_
        rotate_left; (intro w'; go_simp; with_reducible rfl); rotate_left; (simp only [Act.put, List.setIfInBounds_toArray, List.set_cons_zero, List.set_cons_succ]; rfl)
        refine zpu 51 (some 75) zY52 ?_ rfl rfl (any_of HT_.out (by kernel_rfl)) (by rfl) ?_ ?_ ?_ ?_
        rotate_left; (intro w'; go_simp; with_reducible rfl); rotate_left; (simp only [Act.put, List.setIfInBounds_toArray, List.set_cons_zero, List.set_cons_succ]; rfl)
        refine done_ (done_of HT_.out (by kernel_rfl)) ?_
        have hS1 := hHeld
        have HR := Aside0.mk hS1.2.2.2.2
        clear hS0 hS1 hHeld
        go_wp2
        go_roundw
        case rel => exact .inr (.inr (.inl ⟨rfl, HR.out⟩))
        case measure => simp [intOf]
      · skip
        go_wp2
        have hS0 : LsR 2 3 1 w.heap.size w2.heap.size w3.heap.size L Sa Ta _ _ _ _ w wr := ⟨q0, q1, q2, q3, HQ.out⟩
        clear q0 q1 q2 q3 HQ
        unfold LsR at hS0
        refine start_ (n := 52) (S := fun w' => w'.cell? ⟨w.heap.size, 2, none⟩ = some (.int .i64 1) ∧ w'.cell? ⟨w.heap.size, 3, none⟩ = some (.int .i64 n1) ∧ w'.cell? ⟨w2.heap.size, 1, none⟩ = some (.int .i64 t) ∧ w'.cell? ⟨w3.heap.size, 1, none⟩ = some (.int .i64 t) ∧ LsS w.heap.size w2.heap.size w3.heap.size L Sa Ta w w') (ds := []) zY0 (by kernel_rfl) rfl rfl ⟨(LsR.below hS0 (below_drew1 (Below.refl _ _))).1, (LsR.below hS0 (below_drew1 (Below.refl _ _))).2.1, (LsR.below hS0 (below_drew1 (Below.refl _ _))).2.2.1, (LsR.below hS0 (below_drew1 (Below.refl _ _))).2.2.2.1, (LsR.below hS0 (below_drew1 (Below.refl _ _))).2.2.2.2⟩ (fun hHeld => ?_)
        refine with_tabW zls.tab9 zls.bits9 (fun HT_ HW_ => ?_)
        refine zpu 0 (some 24) zY1 ?_ rfl rfl (any_of HT_.out (by kernel_rfl)) (by rfl) ?_ ?_ ?_ ?_
        rotate_left; (intro w'; go_simp; with_reducible rfl); rotate_left; (simp only [Act.put, List.setIfInBounds_toArray, List.set_cons_zero, List.set_cons_succ]; rfl)
        refine zpu 1 (some 25) zY2 ?_ rfl rfl (any_of HT_.out (by kernel_rfl)) (by rfl) ?_ ?_ ?_ ?_
        rotate_left; (intro w'; go_simp; with_reducible rfl); rotate_left; (simp only [Act.put, List.setIfInBounds_toArray, List.set_cons_zero, List.set_cons_succ]; rfl)
        refine zpu 3 (some 27) zY3 ?_ rfl rfl (any_of HT_.out (by kernel_rfl)) (by rfl) ?_ ?_ ?_ ?_
        rotate_left; (intro w'; go_simp; with_reducible rfl); rotate_left; (simp only [Act.put, List.setIfInBounds_toArray, List.set_cons_zero, List.set_cons_succ]; rfl)
        refine zpu 4 (some 28) zY4 ?_ rfl rfl (any_of HT_.out (by kernel_rfl)) (by rfl) ?_ ?_ ?_ ?_
        rotate_left; (intro w'; go_simp; with_reducible rfl); rotate_left; (simp only [Act.put, List.setIfInBounds_toArray, List.set_cons_zero, List.set_cons_succ]; rfl)
        refine zpu 6 (some 30) zY5 ?_ rfl rfl (any_of HT_.out (by kernel_rfl)) (by rfl) ?_ ?_ ?_ ?_
        rotate_left; (intro w'; go_simp; with_reducible rfl); rotate_left; (simp only [Act.put, List.setIfInBounds_toArray, List.set_cons_zero, List.set_cons_succ]; rfl)
        refine take_ (i := 2) (N := some 26) (v := ?_) (a' := ?_) zY6 rfl rfl (take_ofW HT_.out HW_.out (by kernel_rfl)) (fun _ _ _ h => h) (Or.inl ⟨by rfl, ?_⟩) hHeld ?_ ?_
        rotate_left; (rintro w' ⟨s0, s1, s2, s3, s4⟩; go_simp; with_reducible rfl); rotate_left; (simp only [Act.put, List.setIfInBounds_toArray, List.set_cons_zero, List.set_cons_succ]; rfl)
        refine take_ (i := 5) (N := some 29) (v := ?_) (a' := ?_) zY7 rfl rfl (take_ofW HT_.out HW_.out (by kernel_rfl)) (fun _ _ _ h => h) (Or.inl ⟨by rfl, ?_⟩) hHeld ?_ ?_
        rotate_left; (rintro w' ⟨s0, s1, s2, s3, s4⟩; go_simp; with_reducible rfl); rotate_left; (simp only [Act.put, List.setIfInBounds_toArray, List.set_cons_zero, List.set_cons_succ]; rfl)
        refine one_ (i := 7) (N := some 31) zY8 rfl rfl (one_of HT_.out (by kernel_rfl)) (by decide) (fun K hK => ?_)
        refine goes_ Try.func13 (by kernel_rfl) rfl #[.agg #[.int .i64 1, .int .i64 n1], .int .i64 b, .int .i64 0] (by rfl) rfl rfl (by simp only [List.map_toArray, List.map_cons, List.map_nil]; rfl) ?_
        with_reducible refine (hof _).mono ?_
        rintro e w5 ⟨rfl, hb⟩
        refine ⟨_, rfl, ?_⟩
        refine hK.out _ _ ⟨(LsR.below hHeld hb).1, (LsR.below hHeld hb).2.1, (LsR.below hHeld hb).2.2.1, (LsR.below hHeld hb).2.2.2.1, (LsR.below hHeld hb).2.2.2.2⟩ (fun hHeld => ?_)
        clear hK K
        refine norm_ (a' := ?_) ?_ ?_
        rotate_left
        · show Act.put _ (some 31) _ = _
          simp only [Act.put, List.setIfInBounds_toArray, List.set_cons_zero, List.set_cons_succ, i64_w, i32_w]
          rfl
        refine zpu 8 (some 32) zY9 ?_ rfl rfl (any_of HT_.out (by kernel_rfl)) (by rfl) ?_ ?_ ?_ ?_
        rotate_left; (intro w'; go_simp; with_reducible rfl); rotate_left; (simp only [Act.put, List.setIfInBounds_toArray, List.set_cons_zero, List.set_cons_succ]; rfl)
        refine zpu 9 (some 33) zY10 ?_ rfl rfl (any_of HT_.out (by kernel_rfl)) (by rfl) ?_ ?_ ?_ ?_
        rotate_left; (intro w'; go_simp; with_reducible rfl); rotate_left; (simp only [Act.put, List.setIfInBounds_toArray, List.set_cons_zero, List.set_cons_succ]; rfl)
        refine zpu 10 (some 34) zY11 ?_ rfl rfl (any_of HT_.out (by kernel_rfl)) (by rfl) ?_ ?_ ?_ ?_
        rotate_left; (intro w'; go_simp; with_reducible rfl); rotate_left; (simp only [Act.put, List.setIfInBounds_toArray, List.set_cons_zero, List.set_cons_succ]; rfl)
        refine zpu 11 (some 35) zY12 ?_ rfl rfl (any_of HT_.out (by kernel_rfl)) (by rfl) ?_ ?_ ?_ ?_
        rotate_left; (intro w'; go_simp; with_reducible rfl); rotate_left; (simp only [Act.put, List.setIfInBounds_toArray, List.set_cons_zero, List.set_cons_succ]; rfl)
        refine zpu 12 (some 36) zY13 ?_ rfl rfl (any_of HT_.out (by kernel_rfl)) (by rfl) ?_ ?_ ?_ ?_
        rotate_left; (intro w'; go_simp; with_reducible rfl); rotate_left; (simp only [Act.put, List.setIfInBounds_toArray, List.set_cons_zero, List.set_cons_succ]; rfl)
        refine take_ (i := 13) (N := some 37) (v := ?_) (a' := ?_) zY14 rfl rfl (take_ofW HT_.out HW_.out (by kernel_rfl)) (fun _ _ _ h => h) (Or.inl ⟨by rfl, ?_⟩) hHeld ?_ ?_
        rotate_left; (rintro w' ⟨s0, s1, s2, s3, s4⟩; go_simp; with_reducible rfl); rotate_left; (simp only [Act.put, List.setIfInBounds_toArray, List.set_cons_zero, List.set_cons_succ]; rfl)
        refine zpu 14 (some 38) zY15 ?_ rfl rfl (any_of HT_.out (by kernel_rfl)) (by rfl) ?_ ?_ ?_ ?_
        rotate_left; (intro w'; go_simp; with_reducible rfl); rotate_left; (simp only [Act.put, List.setIfInBounds_toArray, List.set_cons_zero, List.set_cons_succ]; rfl)
        refine zpu 15 (some 39) zY16 ?_ rfl rfl (any_of HT_.out (by kernel_rfl)) (by rfl) ?_ ?_ ?_ ?_
        rotate_left; (intro w'; go_simp; with_reducible rfl); rotate_left; (simp only [Act.put, List.setIfInBounds_toArray, List.set_cons_zero, List.set_cons_succ]; rfl)
        refine zpo 16 (some 40) zY17 rfl rfl (any_of HT_.out (by kernel_rfl)) (by rfl) ?_ ?_ ?_
        rotate_left; (simp only [Act.put, List.setIfInBounds_toArray, List.set_cons_zero, List.set_cons_succ]; rfl)
        refine zpo 17 (some 41) zY18 rfl rfl (any_of HT_.out (by kernel_rfl)) (by rfl) ?_ ?_ ?_
        rotate_left; (simp only [Act.put, List.setIfInBounds_toArray, List.set_cons_zero, List.set_cons_succ]; rfl)
        refine zpo 18 (some 42) zY19 rfl rfl (any_of HT_.out (by kernel_rfl)) (by rfl) ?_ ?_ ?_
        rotate_left; (simp only [Act.put, List.setIfInBounds_toArray, List.set_cons_zero, List.set_cons_succ]; rfl)
        refine zpo 19 (some 43) zY20 rfl rfl (any_of HT_.out (by kernel_rfl)) (by rfl) ?_ ?_ ?_
        rotate_left; (simp only [Act.put, List.setIfInBounds_toArray, List.set_cons_zero, List.set_cons_succ]; rfl)
        refine zpu 20 (some 44) zY21 ?_ rfl rfl (any_of HT_.out (by kernel_rfl)) (by rfl) ?_ ?_ ?_ ?_
        rotate_left; (intro w'; go_simp; with_reducible rfl); rotate_left; (simp only [Act.put, List.setIfInBounds_toArray, List.set_cons_zero, List.set_cons_succ]; rfl)
        refine zpu 21 (some 45) zY22 ?_ rfl rfl (any_of HT_.out (by kernel_rfl)) (by rfl) ?_ ?_ ?_ ?_
        rotate_left; (intro w'; go_simp; with_reducible rfl); rotate_left; (simp only [Act.put, List.setIfInBounds_toArray, List.set_cons_zero, List.set_cons_succ]; rfl)
        refine zpu 22 (some 46) zY23 ?_ rfl rfl (any_of HT_.out (by kernel_rfl)) (by rfl) ?_ ?_ ?_ ?_
        rotate_left; (intro w'; go_simp; with_reducible rfl); rotate_left; (simp only [Act.put, List.setIfInBounds_toArray, List.set_cons_zero, List.set_cons_succ]; rfl)
        refine zpu 23 (some 47) zY24 ?_ rfl rfl (any_of HT_.out (by kernel_rfl)) (by rfl) ?_ ?_ ?_ ?_
        rotate_left; (intro w'; go_simp; with_reducible rfl); rotate_left; (simp only [Act.put, List.setIfInBounds_toArray, List.set_cons_zero, List.set_cons_succ]; rfl)
        refine zpu 24 (some 48) zY25 ?_ rfl rfl (any_of HT_.out (by kernel_rfl)) (by rfl) ?_ ?_ ?_ ?_
        rotate_left; (intro w'; go_simp; with_reducible rfl); rotate_left; (simp only [Act.put, List.setIfInBounds_toArray, List.set_cons_zero, List.set_cons_succ]; rfl)
        refine zpu 25 (some 49) zY26 ?_ rfl rfl (any_of HT_.out (by kernel_rfl)) (by rfl) ?_ ?_ ?_ ?_
        rotate_left; (intro w'; go_simp; with_reducible rfl); rotate_left; (simp only [Act.put, List.setIfInBounds_toArray, List.set_cons_zero, List.set_cons_succ]; rfl)
        refine take_ (i := 26) (N := some 50) (v := ?_) (a' := ?_) zY27 rfl rfl (take_ofW HT_.out HW_.out (by kernel_rfl)) (fun _ _ _ h => h) (Or.inl ⟨by rfl, ?_⟩) hHeld ?_ ?_
        rotate_left; (rintro w' ⟨s0, s1, s2, s3, s4⟩; go_simp; with_reducible rfl); rotate_left; (simp only [Act.put, List.setIfInBounds_toArray, List.set_cons_zero, List.set_cons_succ]; rfl)
        refine zpu 27 (some 51) zY28 ?_ rfl rfl (any_of HT_.out (by kernel_rfl)) (by rfl) ?_ ?_ ?_ ?_
        rotate_left; (intro w'; go_simp; with_reducible rfl); rotate_left; (simp only [Act.put, List.setIfInBounds_toArray, List.set_cons_zero, List.set_cons_succ]; rfl)
        refine zpu 28 (some 52) zY29 ?_ rfl rfl (any_of HT_.out (by kernel_rfl)) (by rfl) ?_ ?_ ?_ ?_
        rotate_left; (intro w'; go_simp; with_reducible rfl); rotate_left; (simp only [Act.put, List.setIfInBounds_toArray, List.set_cons_zero, List.set_cons_succ]; rfl)
        refine zpu 29 (some 53) zY30 ?_ rfl rfl (any_of HT_.out (by kernel_rfl)) (by rfl) ?_ ?_ ?_ ?_
        rotate_left; (intro w'; go_simp; with_reducible rfl); rotate_left; (simp only [Act.put, List.setIfInBounds_toArray, List.set_cons_zero, List.set_cons_succ]; rfl)
        refine zpu 30 (some 54) zY31 ?_ rfl rfl (any_of HT_.out (by kernel_rfl)) (by rfl) ?_ ?_ ?_ ?_
        rotate_left; (intro w'; go_simp; with_reducible rfl); rotate_left; (simp only [Act.put, List.setIfInBounds_toArray, List.set_cons_zero, List.set_cons_succ]; rfl)
        refine zpu 32 (some 56) zY53 ?_ rfl rfl (any_of HT_.out (by kernel_rfl)) (by rfl) ?_ ?_ ?_ ?_
        rotate_left; (intro w'; go_simp; with_reducible rfl); rotate_left; (simp only [Act.put, List.setIfInBounds_toArray, List.set_cons_zero, List.set_cons_succ]; rfl)
        refine zpu 33 (some 57) zY54 ?_ rfl rfl (any_of HT_.out (by kernel_rfl)) (by rfl) ?_ ?_ ?_ ?_
        rotate_left; (intro w'; go_simp; with_reducible rfl); rotate_left; (simp only [Act.put, List.setIfInBounds_toArray, List.set_cons_zero, List.set_cons_succ]; rfl)
        refine take_ (i := 31) (N := some 55) (v := ?_) (a' := ?_) zY34 rfl rfl (take_ofW HT_.out HW_.out (by kernel_rfl)) (fun _ _ _ h => h) (Or.inl ⟨by rfl, ?_⟩) hHeld ?_ ?_
        rotate_left; (rintro w' ⟨s0, s1, s2, s3, s4⟩; go_simp; with_reducible rfl); rotate_left; (simp only [Act.put, List.setIfInBounds_toArray, List.set_cons_zero, List.set_cons_succ]; rfl)
        refine take_ (i := 34) (N := some 58) (v := ?_) (a' := ?_) zY35 rfl rfl (take_ofW HT_.out HW_.out (by kernel_rfl)) (fun _ _ _ h => h) (Or.inl ⟨by rfl, ?_⟩) hHeld ?_ ?_
        rotate_left; (rintro w' ⟨s0, s1, s2, s3, s4⟩; go_simp; with_reducible rfl); rotate_left; (simp only [Act.put, List.setIfInBounds_toArray, List.set_cons_zero, List.set_cons_succ]; rfl)
        refine zpu 35 (some 59) zY36 ?_ rfl rfl (any_of HT_.out (by kernel_rfl)) (by rfl) ?_ ?_ ?_ ?_
        rotate_left; (intro w'; go_simp; with_reducible rfl); rotate_left; (simp only [Act.put, List.setIfInBounds_toArray, List.set_cons_zero, List.set_cons_succ]; rfl)
        refine zpu 36 (some 60) zY37 ?_ rfl rfl (any_of HT_.out (by kernel_rfl)) (by rfl) ?_ ?_ ?_ ?_
        rotate_left; (intro w'; go_simp; with_reducible rfl); rotate_left; (simp only [Act.put, List.setIfInBounds_toArray, List.set_cons_zero, List.set_cons_succ]; rfl)
        refine zpu 37 (some 61) zY38 ?_ rfl rfl (any_of HT_.out (by kernel_rfl)) (by rfl) ?_ ?_ ?_ ?_
        rotate_left; (intro w'; go_simp; with_reducible rfl); rotate_left; (simp only [Act.put, List.setIfInBounds_toArray, List.set_cons_zero, List.set_cons_succ]; rfl)
        refine zpu 38 (some 62) zY39 ?_ rfl rfl (any_of HT_.out (by kernel_rfl)) (by rfl) ?_ ?_ ?_ ?_
        rotate_left; (intro w'; go_simp; with_reducible rfl); rotate_left; (simp only [Act.put, List.setIfInBounds_toArray, List.set_cons_zero, List.set_cons_succ]; rfl)
        refine zpu 39 (some 63) zY40 ?_ rfl rfl (any_of HT_.out (by kernel_rfl)) (by rfl) ?_ ?_ ?_ ?_
        rotate_left; (intro w'; go_simp; with_reducible rfl); rotate_left; (simp only [Act.put, List.setIfInBounds_toArray, List.set_cons_zero, List.set_cons_succ]; rfl)
        refine zpu 40 (some 64) zY41 ?_ rfl rfl (any_of HT_.out (by kernel_rfl)) (by rfl) ?_ ?_ ?_ ?_
        rotate_left; (intro w'; go_simp; with_reducible rfl); rotate_left; (simp only [Act.put, List.setIfInBounds_toArray, List.set_cons_zero, List.set_cons_succ]; rfl)
        refine zpu 42 (some 66) zY42 ?_ rfl rfl (any_of HT_.out (by kernel_rfl)) (by rfl) ?_ ?_ ?_ ?_
        rotate_left; (intro w'; go_simp; with_reducible rfl); rotate_left; (simp only [Act.put, List.setIfInBounds_toArray, List.set_cons_zero, List.set_cons_succ]; rfl)
        refine take_ (i := 41) (N := some 65) (v := ?_) (a' := ?_) zY43 rfl rfl (take_ofW HT_.out HW_.out (by kernel_rfl)) (fun _ _ _ h => h) (Or.inl ⟨by rfl, ?_⟩) hHeld ?_ ?_
        rotate_left; (rintro w' ⟨s0, s1, s2, s3, s4⟩; go_simp; with_reducible rfl); rotate_left; (simp only [Act.put, List.setIfInBounds_toArray, List.set_cons_zero, List.set_cons_succ]; rfl)
        refine one_ (i := 43) (N := some 67) zY44 rfl rfl (one_of HT_.out (by kernel_rfl)) (by decide) (fun K hK => ?_)
        refine goes_ Try.func15 (by kernel_rfl) rfl #[.agg #[.int .i64 1, .int .i64 n1], .int .i64 b] (by rfl) rfl rfl (by simp only [List.map_toArray, List.map_cons, List.map_nil]; rfl) ?_
        with_reducible refine (hfx _).mono ?_
        rintro e w6 ⟨rfl, hb⟩
        refine ⟨_, rfl, ?_⟩
        refine hK.out _ _ ⟨(LsR.below hHeld hb).1, (LsR.below hHeld hb).2.1, (LsR.below hHeld hb).2.2.1, (LsR.below hHeld hb).2.2.2.1, (LsR.below hHeld hb).2.2.2.2⟩ (fun hHeld => ?_)
        clear hK K
        refine norm_ (a' := ?_) ?_ ?_
        rotate_left
        · show Act.put _ (some 67) _ = _
          simp only [Act.put, List.setIfInBounds_toArray, List.set_cons_zero, List.set_cons_succ, i64_w, i32_w]
          rfl
        refine zpu 44 (some 68) zY45 ?_ rfl rfl (any_of HT_.out (by kernel_rfl)) (by rfl) ?_ ?_ ?_ ?_
        rotate_left; (intro w'; go_simp; with_reducible rfl); rotate_left; (simp only [Act.put, List.setIfInBounds_toArray, List.set_cons_zero, List.set_cons_succ]; rfl)
        refine zpu 45 (some 69) zY46 ?_ rfl rfl (any_of HT_.out (by kernel_rfl)) (by rfl) ?_ ?_ ?_ ?_
        rotate_left; (intro w'; go_simp; with_reducible rfl); rotate_left; (simp only [Act.put, List.setIfInBounds_toArray, List.set_cons_zero, List.set_cons_succ]; rfl)
        refine zpo 46 (some 70) zY47 rfl rfl (any_of HT_.out (by kernel_rfl)) (by rfl) ?_ ?_ ?_
        rotate_left; (simp only [Act.put, List.setIfInBounds_toArray, List.set_cons_zero, List.set_cons_succ]; rfl)
        refine zpo 47 (some 71) zY48 rfl rfl (any_of HT_.out (by kernel_rfl)) (by rfl) ?_ ?_ ?_
        rotate_left; (simp only [Act.put, List.setIfInBounds_toArray, List.set_cons_zero, List.set_cons_succ]; rfl)
        refine zpo 48 (some 72) zY49 rfl rfl (any_of HT_.out (by kernel_rfl)) (by rfl) ?_ ?_ ?_
        rotate_left; (simp only [Act.put, List.setIfInBounds_toArray, List.set_cons_zero, List.set_cons_succ]; rfl)
        refine zpo 49 (some 73) zY50 rfl rfl (any_of HT_.out (by kernel_rfl)) (by rfl) ?_ ?_ ?_
        rotate_left; (simp only [Act.put, List.setIfInBounds_toArray, List.set_cons_zero, List.set_cons_succ]; rfl)
        refine zpu 50 (some 74) zY51 ?_ rfl rfl (any_of HT_.out (by kernel_rfl)) (by rfl) ?_ ?_ ?_ ?_
        rotate_left; (intro w'; go_simp; with_reducible rfl); rotate_left; (simp only [Act.put, List.setIfInBounds_toArray, List.set_cons_zero, List.set_cons_succ]; rfl)
        refine zpu 51 (some 75) zY52 ?_ rfl rfl (any_of HT_.out (by kernel_rfl)) (by rfl) ?_ ?_ ?_ ?_
        rotate_left; (intro w'; go_simp; with_reducible rfl); rotate_left; (simp only [Act.put, List.setIfInBounds_toArray, List.set_cons_zero, List.set_cons_succ]; rfl)
        refine done_ (done_of HT_.out (by kernel_rfl)) ?_
        have hS1 := hHeld
        have HR := Aside0.mk hS1.2.2.2.2
        clear hS0 hS1 hHeld
        go_wp2
        go_roundw
        case rel => exact .inr (.inr (.inl ⟨rfl, HR.out⟩))
        case measure => simp [intOf]
      · have g0 : (k1 == 0) = false := by simpa using e0
        have g1 : (k1 == 1) = false := by simpa using e1
        go_wp2
        have hS0 : LsR 2 3 1 w.heap.size w2.heap.size w3.heap.size L Sa Ta _ _ _ _ w wr := ⟨q0, q1, q2, q3, HQ.out⟩
        clear q0 q1 q2 q3 HQ
        unfold LsR at hS0
        refine start_ (n := 52) (S := fun w' => w'.cell? ⟨w.heap.size, 2, none⟩ = some (.int .i64 k1) ∧ w'.cell? ⟨w.heap.size, 3, none⟩ = some (.int .i64 n1) ∧ w'.cell? ⟨w2.heap.size, 1, none⟩ = some (.int .i64 s) ∧ w'.cell? ⟨w3.heap.size, 1, none⟩ = some (.int .i64 t) ∧ LsS w.heap.size w2.heap.size w3.heap.size L Sa Ta w w') (ds := []) zY0 (by kernel_rfl) rfl rfl ⟨(LsR.below hS0 (below_drew1 (Below.refl _ _))).1, (LsR.below hS0 (below_drew1 (Below.refl _ _))).2.1, (LsR.below hS0 (below_drew1 (Below.refl _ _))).2.2.1, (LsR.below hS0 (below_drew1 (Below.refl _ _))).2.2.2.1, (LsR.below hS0 (below_drew1 (Below.refl _ _))).2.2.2.2⟩ (fun hHeld => ?_)
        refine with_tabW zls.tab9 zls.bits9 (fun HT_ HW_ => ?_)
        refine zpu 0 (some 24) zY1 ?_ rfl rfl (any_of HT_.out (by kernel_rfl)) (by rfl) ?_ ?_ ?_ ?_
        rotate_left; (intro w'; go_simp; with_reducible rfl); rotate_left; (simp only [Act.put, List.setIfInBounds_toArray, List.set_cons_zero, List.set_cons_succ]; rfl)
        refine zpu 1 (some 25) zY2 ?_ rfl rfl (any_of HT_.out (by kernel_rfl)) (by rfl) ?_ ?_ ?_ ?_
        rotate_left; (intro w'; go_simp; with_reducible rfl); rotate_left; (simp only [Act.put, List.setIfInBounds_toArray, List.set_cons_zero, List.set_cons_succ]; rfl)
        refine zpu 3 (some 27) zY3 ?_ rfl rfl (any_of HT_.out (by kernel_rfl)) (by rfl) ?_ ?_ ?_ ?_
        rotate_left; (intro w'; go_simp; with_reducible rfl); rotate_left; (simp only [Act.put, List.setIfInBounds_toArray, List.set_cons_zero, List.set_cons_succ]; rfl)
        refine zpu 4 (some 28) zY4 ?_ rfl rfl (any_of HT_.out (by kernel_rfl)) (by rfl) ?_ ?_ ?_ ?_
        rotate_left; (intro w'; go_simp; with_reducible rfl); rotate_left; (simp only [Act.put, List.setIfInBounds_toArray, List.set_cons_zero, List.set_cons_succ]; rfl)
        refine zpu 6 (some 30) zY5 ?_ rfl rfl (any_of HT_.out (by kernel_rfl)) (by rfl) ?_ ?_ ?_ ?_
        rotate_left; (intro w'; go_simp; with_reducible rfl); rotate_left; (simp only [Act.put, List.setIfInBounds_toArray, List.set_cons_zero, List.set_cons_succ]; rfl)
        refine take_ (i := 2) (N := some 26) (v := ?_) (a' := ?_) zY6 rfl rfl (take_ofW HT_.out HW_.out (by kernel_rfl)) (fun _ _ _ h => h) (Or.inl ⟨by rfl, ?_⟩) hHeld ?_ ?_
        rotate_left; (rintro w' ⟨s0, s1, s2, s3, s4⟩; go_simp; with_reducible rfl); rotate_left; (simp only [Act.put, List.setIfInBounds_toArray, List.set_cons_zero, List.set_cons_succ]; rfl)
        refine take_ (i := 5) (N := some 29) (v := ?_) (a' := ?_) zY7 rfl rfl (take_ofW HT_.out HW_.out (by kernel_rfl)) (fun _ _ _ h => h) (Or.inl ⟨by rfl, ?_⟩) hHeld ?_ ?_
        rotate_left; (rintro w' ⟨s0, s1, s2, s3, s4⟩; go_simp; with_reducible rfl); rotate_left; (simp only [Act.put, List.setIfInBounds_toArray, List.set_cons_zero, List.set_cons_succ]; rfl)
        refine one_ (i := 7) (N := some 31) zY8 rfl rfl (one_of HT_.out (by kernel_rfl)) (by decide) (fun K hK => ?_)
        refine goes_ Try.func13 (by kernel_rfl) rfl #[.agg #[.int .i64 k1, .int .i64 n1], .int .i64 b, .int .i64 0] (by rfl) rfl rfl (by simp only [List.map_toArray, List.map_cons, List.map_nil]; rfl) ?_
        with_reducible refine (hof _).mono ?_
        rintro e w5 ⟨rfl, hb⟩
        refine ⟨_, rfl, ?_⟩
        refine hK.out _ _ ⟨(LsR.below hHeld hb).1, (LsR.below hHeld hb).2.1, (LsR.below hHeld hb).2.2.1, (LsR.below hHeld hb).2.2.2.1, (LsR.below hHeld hb).2.2.2.2⟩ (fun hHeld => ?_)
        clear hK K
        refine norm_ (a' := ?_) ?_ ?_
        rotate_left
        · show Act.put _ (some 31) _ = _
          simp only [Act.put, List.setIfInBounds_toArray, List.set_cons_zero, List.set_cons_succ, i64_w, i32_w]
          rfl
        refine zpu 8 (some 32) zY9 ?_ rfl rfl (any_of HT_.out (by kernel_rfl)) (by rfl) ?_ ?_ ?_ ?_
        rotate_left; (intro w'; go_simp; with_reducible rfl); rotate_left; (simp only [Act.put, List.setIfInBounds_toArray, List.set_cons_zero, List.set_cons_succ]; rfl)
        refine zpu 9 (some 33) zY10 ?_ rfl rfl (any_of HT_.out (by kernel_rfl)) (by rfl) ?_ ?_ ?_ ?_
        rotate_left; (intro w'; go_simp; with_reducible rfl); rotate_left; (simp only [Act.put, List.setIfInBounds_toArray, List.set_cons_zero, List.set_cons_succ]; rfl)
        refine zpu 10 (some 34) zY11 ?_ rfl rfl (any_of HT_.out (by kernel_rfl)) (by rfl) ?_ ?_ ?_ ?_
        rotate_left; (intro w'; go_simp; with_reducible rfl); rotate_left; (simp only [Act.put, List.setIfInBounds_toArray, List.set_cons_zero, List.set_cons_succ]; rfl)
        refine zpu 11 (some 35) zY12 ?_ rfl rfl (any_of HT_.out (by kernel_rfl)) (by rfl) ?_ ?_ ?_ ?_
        rotate_left; (intro w'; go_simp; with_reducible rfl); rotate_left; (simp only [Act.put, List.setIfInBounds_toArray, List.set_cons_zero, List.set_cons_succ]; rfl)
        refine zpu 12 (some 36) zY13 ?_ rfl rfl (any_of HT_.out (by kernel_rfl)) (by rfl) ?_ ?_ ?_ ?_
        rotate_left; (intro w'; go_simp; with_reducible rfl); rotate_left; (simp only [Act.put, List.setIfInBounds_toArray, List.set_cons_zero, List.set_cons_succ]; rfl)
        refine take_ (i := 13) (N := some 37) (v := ?_) (a' := ?_) zY14 rfl rfl (take_ofW HT_.out HW_.out (by kernel_rfl)) (fun _ _ _ h => h) (Or.inl ⟨by rfl, ?_⟩) hHeld ?_ ?_
        rotate_left; (rintro w' ⟨s0, s1, s2, s3, s4⟩; go_simp; with_reducible rfl); rotate_left; (simp only [Act.put, List.setIfInBounds_toArray, List.set_cons_zero, List.set_cons_succ]; rfl)
        refine zpu 14 (some 38) zY15 ?_ rfl rfl (any_of HT_.out (by kernel_rfl)) (by rfl) ?_ ?_ ?_ ?_
        rotate_left; (intro w'; go_simp; with_reducible rfl); rotate_left; (simp only [Act.put, List.setIfInBounds_toArray, List.set_cons_zero, List.set_cons_succ]; rfl)
        refine zpu 15 (some 39) zY16 ?_ rfl rfl (any_of HT_.out (by kernel_rfl)) (by rfl) ?_ ?_ ?_ ?_
        rotate_left; (intro w'; go_simp; with_reducible rfl); rotate_left; (simp only [Act.put, List.setIfInBounds_toArray, List.set_cons_zero, List.set_cons_succ]; rfl)
        refine zpo 16 (some 40) zY17 rfl rfl (any_of HT_.out (by kernel_rfl)) (by rfl) ?_ ?_ ?_
        rotate_left; (simp only [Act.put, List.setIfInBounds_toArray, List.set_cons_zero, List.set_cons_succ]; rfl)
        refine zpo 17 (some 41) zY18 rfl rfl (any_of HT_.out (by kernel_rfl)) (by rfl) ?_ ?_ ?_
        rotate_left; (simp only [Act.put, List.setIfInBounds_toArray, List.set_cons_zero, List.set_cons_succ]; rfl)
        refine zpo 18 (some 42) zY19 rfl rfl (any_of HT_.out (by kernel_rfl)) (by rfl) ?_ ?_ ?_
        rotate_left; (simp only [Act.put, List.setIfInBounds_toArray, List.set_cons_zero, List.set_cons_succ]; rfl)
        refine zpo 19 (some 43) zY20 rfl rfl (any_of HT_.out (by kernel_rfl)) (by rfl) ?_ ?_ ?_
        rotate_left; (simp only [Act.put, List.setIfInBounds_toArray, List.set_cons_zero, List.set_cons_succ]; rfl)
        refine zpu 20 (some 44) zY21 ?_ rfl rfl (any_of HT_.out (by kernel_rfl)) (by rfl) ?_ ?_ ?_ ?_
        rotate_left; (intro w'; go_simp; with_reducible rfl); rotate_left; (simp only [Act.put, List.setIfInBounds_toArray, List.set_cons_zero, List.set_cons_succ]; rfl)
        refine zpu 21 (some 45) zY22 ?_ rfl rfl (any_of HT_.out (by kernel_rfl)) (by rfl) ?_ ?_ ?_ ?_
        rotate_left; (intro w'; go_simp; with_reducible rfl); rotate_left; (simp only [Act.put, List.setIfInBounds_toArray, List.set_cons_zero, List.set_cons_succ]; rfl)
        refine zpu 22 (some 46) zY23 ?_ rfl rfl (any_of HT_.out (by kernel_rfl)) (by rfl) ?_ ?_ ?_ ?_
        rotate_left; (intro w'; go_simp; with_reducible rfl); rotate_left; (simp only [Act.put, List.setIfInBounds_toArray, List.set_cons_zero, List.set_cons_succ]; rfl)
        refine zpu 23 (some 47) zY24 ?_ rfl rfl (any_of HT_.out (by kernel_rfl)) (by rfl) ?_ ?_ ?_ ?_
        rotate_left; (intro w'; go_simp; with_reducible rfl); rotate_left; (simp only [Act.put, List.setIfInBounds_toArray, List.set_cons_zero, List.set_cons_succ]; rfl)
        refine zpu 24 (some 48) zY25 ?_ rfl rfl (any_of HT_.out (by kernel_rfl)) (by rfl) ?_ ?_ ?_ ?_
        rotate_left; (intro w'; go_simp; with_reducible rfl); rotate_left; (simp only [Act.put, List.setIfInBounds_toArray, List.set_cons_zero, List.set_cons_succ]; rfl)
        refine zpu 25 (some 49) zY26 ?_ rfl rfl (any_of HT_.out (by kernel_rfl)) (by rfl) ?_ ?_ ?_ ?_
        rotate_left; (intro w'; go_simp; with_reducible rfl); rotate_left; (simp only [Act.put, List.setIfInBounds_toArray, List.set_cons_zero, List.set_cons_succ]; rfl)
        refine take_ (i := 26) (N := some 50) (v := ?_) (a' := ?_) zY27 rfl rfl (take_ofW HT_.out HW_.out (by kernel_rfl)) (fun _ _ _ h => h) (Or.inl ⟨by rfl, ?_⟩) hHeld ?_ ?_
        rotate_left; (rintro w' ⟨s0, s1, s2, s3, s4⟩; go_simp; with_reducible rfl); rotate_left; (simp only [Act.put, List.setIfInBounds_toArray, List.set_cons_zero, List.set_cons_succ]; rfl)
        refine zpu 27 (some 51) zY28 ?_ rfl rfl (any_of HT_.out (by kernel_rfl)) (by rfl) ?_ ?_ ?_ ?_
        rotate_left; (intro w'; go_simp; with_reducible rfl); rotate_left; (simp only [Act.put, List.setIfInBounds_toArray, List.set_cons_zero, List.set_cons_succ]; rfl)
        refine zpu 28 (some 52) zY29 ?_ rfl rfl (any_of HT_.out (by kernel_rfl)) (by rfl) ?_ ?_ ?_ ?_
        rotate_left; (intro w'; go_simp; with_reducible rfl); rotate_left; (simp only [Act.put, List.setIfInBounds_toArray, List.set_cons_zero, List.set_cons_succ]; rfl)
        refine zpo 29 (some 53) zY30 rfl rfl (any_of HT_.out (by kernel_rfl)) (by rfl) ?_ ?_ ?_
        rotate_left; (simp only [Act.put, List.setIfInBounds_toArray, List.set_cons_zero, List.set_cons_succ]; rfl)
        refine zpo 30 (some 54) zY31 rfl rfl (any_of HT_.out (by kernel_rfl)) (by rfl) ?_ ?_ ?_
        rotate_left; (simp only [Act.put, List.setIfInBounds_toArray, List.set_cons_zero, List.set_cons_succ]; rfl)
        refine zpo 31 (some 55) zY32 rfl rfl (any_of HT_.out (by kernel_rfl)) (by rfl) ?_ ?_ ?_
        rotate_left; (simp only [Act.put, List.setIfInBounds_toArray, List.set_cons_zero, List.set_cons_succ]; rfl)
        refine zpo 32 (some 56) zY33 rfl rfl (any_of HT_.out (by kernel_rfl)) (by rfl) ?_ ?_ ?_
        rotate_left; (simp only [Act.put, List.setIfInBounds_toArray, List.set_cons_zero, List.set_cons_succ]; rfl)
        refine zpo 33 (some 57) zY34 rfl rfl (any_of HT_.out (by kernel_rfl)) (by rfl) ?_ ?_ ?_
        rotate_left; (simp only [Act.put, List.setIfInBounds_toArray, List.set_cons_zero, List.set_cons_succ]; rfl)
        refine zpo 34 (some 58) zY35 rfl rfl (any_of HT_.out (by kernel_rfl)) (by rfl) ?_ ?_ ?_
        rotate_left; (simp only [Act.put, List.setIfInBounds_toArray, List.set_cons_zero, List.set_cons_succ]; rfl)
        refine zpo 35 (some 59) zY36 rfl rfl (any_of HT_.out (by kernel_rfl)) (by rfl) ?_ ?_ ?_
        rotate_left; (simp only [Act.put, List.setIfInBounds_toArray, List.set_cons_zero, List.set_cons_succ]; rfl)
        refine zpu 36 (some 60) zY37 ?_ rfl rfl (any_of HT_.out (by kernel_rfl)) (by rfl) ?_ ?_ ?_ ?_
        rotate_left; (intro w'; go_simp; with_reducible rfl); rotate_left; (simp only [Act.put, List.setIfInBounds_toArray, List.set_cons_zero, List.set_cons_succ]; rfl)
        refine zpu 37 (some 61) zY38 ?_ rfl rfl (any_of HT_.out (by kernel_rfl)) (by rfl) ?_ ?_ ?_ ?_
        rotate_left; (intro w'; go_simp; with_reducible rfl); rotate_left; (simp only [Act.put, List.setIfInBounds_toArray, List.set_cons_zero, List.set_cons_succ]; rfl)
        refine zpu 38 (some 62) zY39 ?_ rfl rfl (any_of HT_.out (by kernel_rfl)) (by rfl) ?_ ?_ ?_ ?_
        rotate_left; (intro w'; go_simp; with_reducible rfl); rotate_left; (simp only [Act.put, List.setIfInBounds_toArray, List.set_cons_zero, List.set_cons_succ]; rfl)
        refine zpu 39 (some 63) zY40 ?_ rfl rfl (any_of HT_.out (by kernel_rfl)) (by rfl) ?_ ?_ ?_ ?_
        rotate_left; (intro w'; go_simp; with_reducible rfl); rotate_left; (simp only [Act.put, List.setIfInBounds_toArray, List.set_cons_zero, List.set_cons_succ]; rfl)
        refine zpu 40 (some 64) zY41 ?_ rfl rfl (any_of HT_.out (by kernel_rfl)) (by rfl) ?_ ?_ ?_ ?_
        rotate_left; (intro w'; go_simp; with_reducible rfl); rotate_left; (simp only [Act.put, List.setIfInBounds_toArray, List.set_cons_zero, List.set_cons_succ]; rfl)
        refine zpu 42 (some 66) zY42 ?_ rfl rfl (any_of HT_.out (by kernel_rfl)) (by rfl) ?_ ?_ ?_ ?_
        rotate_left; (intro w'; go_simp; with_reducible rfl); rotate_left; (simp only [Act.put, List.setIfInBounds_toArray, List.set_cons_zero, List.set_cons_succ]; rfl)
        refine take_ (i := 41) (N := some 65) (v := ?_) (a' := ?_) zY43 rfl rfl (take_ofW HT_.out HW_.out (by kernel_rfl)) (fun _ _ _ h => h) (Or.inl ⟨by rfl, ?_⟩) hHeld ?_ ?_
        rotate_left; (rintro w' ⟨s0, s1, s2, s3, s4⟩; go_simp; with_reducible rfl); rotate_left; (simp only [Act.put, List.setIfInBounds_toArray, List.set_cons_zero, List.set_cons_succ]; rfl)
        refine one_ (i := 43) (N := some 67) zY44 rfl rfl (one_of HT_.out (by kernel_rfl)) (by decide) (fun K hK => ?_)
        refine goes_ Try.func15 (by kernel_rfl) rfl #[.agg #[.int .i64 k1, .int .i64 n1], .int .i64 b] (by rfl) rfl rfl (by simp only [List.map_toArray, List.map_cons, List.map_nil]; rfl) ?_
        with_reducible refine (hfx _).mono ?_
        rintro e w6 ⟨rfl, hb⟩
        refine ⟨_, rfl, ?_⟩
        refine hK.out _ _ ⟨(LsR.below hHeld hb).1, (LsR.below hHeld hb).2.1, (LsR.below hHeld hb).2.2.1, (LsR.below hHeld hb).2.2.2.1, (LsR.below hHeld hb).2.2.2.2⟩ (fun hHeld => ?_)
        clear hK K
        refine norm_ (a' := ?_) ?_ ?_
        rotate_left
        · show Act.put _ (some 67) _ = _
          simp only [Act.put, List.setIfInBounds_toArray, List.set_cons_zero, List.set_cons_succ, i64_w, i32_w]
          rfl
        refine zpu 44 (some 68) zY45 ?_ rfl rfl (any_of HT_.out (by kernel_rfl)) (by rfl) ?_ ?_ ?_ ?_
        rotate_left; (intro w'; go_simp; with_reducible rfl); rotate_left; (simp only [Act.put, List.setIfInBounds_toArray, List.set_cons_zero, List.set_cons_succ]; rfl)
        refine zpu 45 (some 69) zY46 ?_ rfl rfl (any_of HT_.out (by kernel_rfl)) (by rfl) ?_ ?_ ?_ ?_
        rotate_left; (intro w'; go_simp; with_reducible rfl); rotate_left; (simp only [Act.put, List.setIfInBounds_toArray, List.set_cons_zero, List.set_cons_succ]; rfl)
        refine zpo 46 (some 70) zY47 rfl rfl (any_of HT_.out (by kernel_rfl)) (by rfl) ?_ ?_ ?_
        rotate_left; (simp only [Act.put, List.setIfInBounds_toArray, List.set_cons_zero, List.set_cons_succ]; rfl)
        refine zpo 47 (some 71) zY48 rfl rfl (any_of HT_.out (by kernel_rfl)) (by rfl) ?_ ?_ ?_
        rotate_left; (simp only [Act.put, List.setIfInBounds_toArray, List.set_cons_zero, List.set_cons_succ]; rfl)
        refine zpo 48 (some 72) zY49 rfl rfl (any_of HT_.out (by kernel_rfl)) (by rfl) ?_ ?_ ?_
        rotate_left; (simp only [Act.put, List.setIfInBounds_toArray, List.set_cons_zero, List.set_cons_succ]; rfl)
        refine zpo 49 (some 73) zY50 rfl rfl (any_of HT_.out (by kernel_rfl)) (by rfl) ?_ ?_ ?_
        rotate_left; (simp only [Act.put, List.setIfInBounds_toArray, List.set_cons_zero, List.set_cons_succ]; rfl)
        refine zpu 50 (some 74) zY51 ?_ rfl rfl (any_of HT_.out (by kernel_rfl)) (by rfl) ?_ ?_ ?_ ?_
        rotate_left; (intro w'; go_simp; with_reducible rfl); rotate_left; (simp only [Act.put, List.setIfInBounds_toArray, List.set_cons_zero, List.set_cons_succ]; rfl)
        refine zpu 51 (some 75) zY52 ?_ rfl rfl (any_of HT_.out (by kernel_rfl)) (by rfl) ?_ ?_ ?_ ?_
        rotate_left; (intro w'; go_simp; with_reducible rfl); rotate_left; (simp only [Act.put, List.setIfInBounds_toArray, List.set_cons_zero, List.set_cons_succ]; rfl)
        refine done_ (done_of HT_.out (by kernel_rfl)) ?_
        have hS1 := hHeld
        have HR := Aside0.mk hS1.2.2.2.2
        clear hS0 hS1 hHeld
        go_wp2
        go_roundw
        case rel => exact .inr (.inr (.inl ⟨rfl, HR.out⟩))
        case measure => simp [intOf]
      · have g0 : (k1 == 0) = false := by simpa using e0
        have g1 : (k1 == 1) = false := by simpa using e1
        go_wp2
        have hS0 : LsR 2 3 1 w.heap.size w2.heap.size w3.heap.size L Sa Ta _ _ _ _ w wr := ⟨q0, q1, q2, q3, HQ.out⟩
        clear q0 q1 q2 q3 HQ
        unfold LsR at hS0
        refine start_ (n := 52) (S := fun w' => w'.cell? ⟨w.heap.size, 2, none⟩ = some (.int .i64 k1) ∧ w'.cell? ⟨w.heap.size, 3, none⟩ = some (.int .i64 n1) ∧ w'.cell? ⟨w2.heap.size, 1, none⟩ = some (.int .i64 0) ∧ w'.cell? ⟨w3.heap.size, 1, none⟩ = some (.int .i64 t) ∧ LsS w.heap.size w2.heap.size w3.heap.size L Sa Ta w w') (ds := []) zY0 (by kernel_rfl) rfl rfl ⟨(LsR.below hS0 (below_drew1 (Below.refl _ _))).1, (LsR.below hS0 (below_drew1 (Below.refl _ _))).2.1, (LsR.below hS0 (below_drew1 (Below.refl _ _))).2.2.1, (LsR.below hS0 (below_drew1 (Below.refl _ _))).2.2.2.1, (LsR.below hS0 (below_drew1 (Below.refl _ _))).2.2.2.2⟩ (fun hHeld => ?_)
        refine with_tabW zls.tab9 zls.bits9 (fun HT_ HW_ => ?_)
        refine zpu 0 (some 24) zY1 ?_ rfl rfl (any_of HT_.out (by kernel_rfl)) (by rfl) ?_ ?_ ?_ ?_
        rotate_left; (intro w'; go_simp; with_reducible rfl); rotate_left; (simp only [Act.put, List.setIfInBounds_toArray, List.set_cons_zero, List.set_cons_succ]; rfl)
        refine zpu 1 (some 25) zY2 ?_ rfl rfl (any_of HT_.out (by kernel_rfl)) (by rfl) ?_ ?_ ?_ ?_
        rotate_left; (intro w'; go_simp; with_reducible rfl); rotate_left; (simp only [Act.put, List.setIfInBounds_toArray, List.set_cons_zero, List.set_cons_succ]; rfl)
        refine zpu 3 (some 27) zY3 ?_ rfl rfl (any_of HT_.out (by kernel_rfl)) (by rfl) ?_ ?_ ?_ ?_
        rotate_left; (intro w'; go_simp; with_reducible rfl); rotate_left; (simp only [Act.put, List.setIfInBounds_toArray, List.set_cons_zero, List.set_cons_succ]; rfl)
        refine zpu 4 (some 28) zY4 ?_ rfl rfl (any_of HT_.out (by kernel_rfl)) (by rfl) ?_ ?_ ?_ ?_
        rotate_left; (intro w'; go_simp; with_reducible rfl); rotate_left; (simp only [Act.put, List.setIfInBounds_toArray, List.set_cons_zero, List.set_cons_succ]; rfl)
        refine zpu 6 (some 30) zY5 ?_ rfl rfl (any_of HT_.out (by kernel_rfl)) (by rfl) ?_ ?_ ?_ ?_
        rotate_left; (intro w'; go_simp; with_reducible rfl); rotate_left; (simp only [Act.put, List.setIfInBounds_toArray, List.set_cons_zero, List.set_cons_succ]; rfl)
        refine take_ (i := 2) (N := some 26) (v := ?_) (a' := ?_) zY6 rfl rfl (take_ofW HT_.out HW_.out (by kernel_rfl)) (fun _ _ _ h => h) (Or.inl ⟨by rfl, ?_⟩) hHeld ?_ ?_
        rotate_left; (rintro w' ⟨s0, s1, s2, s3, s4⟩; go_simp; with_reducible rfl); rotate_left; (simp only [Act.put, List.setIfInBounds_toArray, List.set_cons_zero, List.set_cons_succ]; rfl)
        refine take_ (i := 5) (N := some 29) (v := ?_) (a' := ?_) zY7 rfl rfl (take_ofW HT_.out HW_.out (by kernel_rfl)) (fun _ _ _ h => h) (Or.inl ⟨by rfl, ?_⟩) hHeld ?_ ?_
        rotate_left; (rintro w' ⟨s0, s1, s2, s3, s4⟩; go_simp; with_reducible rfl); rotate_left; (simp only [Act.put, List.setIfInBounds_toArray, List.set_cons_zero, List.set_cons_succ]; rfl)
        refine one_ (i := 7) (N := some 31) zY8 rfl rfl (one_of HT_.out (by kernel_rfl)) (by decide) (fun K hK => ?_)
        refine goes_ Try.func13 (by kernel_rfl) rfl #[.agg #[.int .i64 k1, .int .i64 n1], .int .i64 b, .int .i64 0] (by rfl) rfl rfl (by simp only [List.map_toArray, List.map_cons, List.map_nil]; rfl) ?_
        with_reducible refine (hof _).mono ?_
        rintro e w5 ⟨rfl, hb⟩
        refine ⟨_, rfl, ?_⟩
        refine hK.out _ _ ⟨(LsR.below hHeld hb).1, (LsR.below hHeld hb).2.1, (LsR.below hHeld hb).2.2.1, (LsR.below hHeld hb).2.2.2.1, (LsR.below hHeld hb).2.2.2.2⟩ (fun hHeld => ?_)
        clear hK K
        refine norm_ (a' := ?_) ?_ ?_
        rotate_left
        · show Act.put _ (some 31) _ = _
          simp only [Act.put, List.setIfInBounds_toArray, List.set_cons_zero, List.set_cons_succ, i64_w, i32_w]
          rfl
        refine zpu 8 (some 32) zY9 ?_ rfl rfl (any_of HT_.out (by kernel_rfl)) (by rfl) ?_ ?_ ?_ ?_
        rotate_left; (intro w'; go_simp; with_reducible rfl); rotate_left; (simp only [Act.put, List.setIfInBounds_toArray, List.set_cons_zero, List.set_cons_succ]; rfl)
        refine zpu 9 (some 33) zY10 ?_ rfl rfl (any_of HT_.out (by kernel_rfl)) (by rfl) ?_ ?_ ?_ ?_
        rotate_left; (intro w'; go_simp; with_reducible rfl); rotate_left; (simp only [Act.put, List.setIfInBounds_toArray, List.set_cons_zero, List.set_cons_succ]; rfl)
        refine zpu 10 (some 34) zY11 ?_ rfl rfl (any_of HT_.out (by kernel_rfl)) (by rfl) ?_ ?_ ?_ ?_
        rotate_left; (intro w'; go_simp; with_reducible rfl); rotate_left; (simp only [Act.put, List.setIfInBounds_toArray, List.set_cons_zero, List.set_cons_succ]; rfl)
        refine zpu 11 (some 35) zY12 ?_ rfl rfl (any_of HT_.out (by kernel_rfl)) (by rfl) ?_ ?_ ?_ ?_
        rotate_left; (intro w'; go_simp; with_reducible rfl); rotate_left; (simp only [Act.put, List.setIfInBounds_toArray, List.set_cons_zero, List.set_cons_succ]; rfl)
        refine zpu 12 (some 36) zY13 ?_ rfl rfl (any_of HT_.out (by kernel_rfl)) (by rfl) ?_ ?_ ?_ ?_
        rotate_left; (intro w'; go_simp; with_reducible rfl); rotate_left; (simp only [Act.put, List.setIfInBounds_toArray, List.set_cons_zero, List.set_cons_succ]; rfl)
        refine take_ (i := 13) (N := some 37) (v := ?_) (a' := ?_) zY14 rfl rfl (take_ofW HT_.out HW_.out (by kernel_rfl)) (fun _ _ _ h => h) (Or.inl ⟨by rfl, ?_⟩) hHeld ?_ ?_
        rotate_left; (rintro w' ⟨s0, s1, s2, s3, s4⟩; go_simp; with_reducible rfl); rotate_left; (simp only [Act.put, List.setIfInBounds_toArray, List.set_cons_zero, List.set_cons_succ]; rfl)
        refine zpu 14 (some 38) zY15 ?_ rfl rfl (any_of HT_.out (by kernel_rfl)) (by rfl) ?_ ?_ ?_ ?_
        rotate_left; (intro w'; go_simp; with_reducible rfl); rotate_left; (simp only [Act.put, List.setIfInBounds_toArray, List.set_cons_zero, List.set_cons_succ]; rfl)
        refine zpu 15 (some 39) zY16 ?_ rfl rfl (any_of HT_.out (by kernel_rfl)) (by rfl) ?_ ?_ ?_ ?_
        rotate_left; (intro w'; go_simp; with_reducible rfl); rotate_left; (simp only [Act.put, List.setIfInBounds_toArray, List.set_cons_zero, List.set_cons_succ]; rfl)
        refine zpo 16 (some 40) zY17 rfl rfl (any_of HT_.out (by kernel_rfl)) (by rfl) ?_ ?_ ?_
        rotate_left; (simp only [Act.put, List.setIfInBounds_toArray, List.set_cons_zero, List.set_cons_succ]; rfl)
        refine zpo 17 (some 41) zY18 rfl rfl (any_of HT_.out (by kernel_rfl)) (by rfl) ?_ ?_ ?_
        rotate_left; (simp only [Act.put, List.setIfInBounds_toArray, List.set_cons_zero, List.set_cons_succ]; rfl)
        refine zpo 18 (some 42) zY19 rfl rfl (any_of HT_.out (by kernel_rfl)) (by rfl) ?_ ?_ ?_
        rotate_left; (simp only [Act.put, List.setIfInBounds_toArray, List.set_cons_zero, List.set_cons_succ]; rfl)
        refine zpo 19 (some 43) zY20 rfl rfl (any_of HT_.out (by kernel_rfl)) (by rfl) ?_ ?_ ?_
        rotate_left; (simp only [Act.put, List.setIfInBounds_toArray, List.set_cons_zero, List.set_cons_succ]; rfl)
        refine zpu 20 (some 44) zY21 ?_ rfl rfl (any_of HT_.out (by kernel_rfl)) (by rfl) ?_ ?_ ?_ ?_
        rotate_left; (intro w'; go_simp; with_reducible rfl); rotate_left; (simp only [Act.put, List.setIfInBounds_toArray, List.set_cons_zero, List.set_cons_succ]; rfl)
        refine zpu 21 (some 45) zY22 ?_ rfl rfl (any_of HT_.out (by kernel_rfl)) (by rfl) ?_ ?_ ?_ ?_
        rotate_left; (intro w'; go_simp; with_reducible rfl); rotate_left; (simp only [Act.put, List.setIfInBounds_toArray, List.set_cons_zero, List.set_cons_succ]; rfl)
        refine zpu 22 (some 46) zY23 ?_ rfl rfl (any_of HT_.out (by kernel_rfl)) (by rfl) ?_ ?_ ?_ ?_
        rotate_left; (intro w'; go_simp; with_reducible rfl); rotate_left; (simp only [Act.put, List.setIfInBounds_toArray, List.set_cons_zero, List.set_cons_succ]; rfl)
        refine zpu 23 (some 47) zY24 ?_ rfl rfl (any_of HT_.out (by kernel_rfl)) (by rfl) ?_ ?_ ?_ ?_
        rotate_left; (intro w'; go_simp; with_reducible rfl); rotate_left; (simp only [Act.put, List.setIfInBounds_toArray, List.set_cons_zero, List.set_cons_succ]; rfl)
        refine zpu 24 (some 48) zY25 ?_ rfl rfl (any_of HT_.out (by kernel_rfl)) (by rfl) ?_ ?_ ?_ ?_
        rotate_left; (intro w'; go_simp; with_reducible rfl); rotate_left; (simp only [Act.put, List.setIfInBounds_toArray, List.set_cons_zero, List.set_cons_succ]; rfl)
        refine zpu 25 (some 49) zY26 ?_ rfl rfl (any_of HT_.out (by kernel_rfl)) (by rfl) ?_ ?_ ?_ ?_
        rotate_left; (intro w'; go_simp; with_reducible rfl); rotate_left; (simp only [Act.put, List.setIfInBounds_toArray, List.set_cons_zero, List.set_cons_succ]; rfl)
        refine take_ (i := 26) (N := some 50) (v := ?_) (a' := ?_) zY27 rfl rfl (take_ofW HT_.out HW_.out (by kernel_rfl)) (fun _ _ _ h => h) (Or.inl ⟨by rfl, ?_⟩) hHeld ?_ ?_
        rotate_left; (rintro w' ⟨s0, s1, s2, s3, s4⟩; go_simp; with_reducible rfl); rotate_left; (simp only [Act.put, List.setIfInBounds_toArray, List.set_cons_zero, List.set_cons_succ]; rfl)
        refine zpu 27 (some 51) zY28 ?_ rfl rfl (any_of HT_.out (by kernel_rfl)) (by rfl) ?_ ?_ ?_ ?_
        rotate_left; (intro w'; go_simp; with_reducible rfl); rotate_left; (simp only [Act.put, List.setIfInBounds_toArray, List.set_cons_zero, List.set_cons_succ]; rfl)
        refine zpu 28 (some 52) zY29 ?_ rfl rfl (any_of HT_.out (by kernel_rfl)) (by rfl) ?_ ?_ ?_ ?_
        rotate_left; (intro w'; go_simp; with_reducible rfl); rotate_left; (simp only [Act.put, List.setIfInBounds_toArray, List.set_cons_zero, List.set_cons_succ]; rfl)
        refine zpo 29 (some 53) zY30 rfl rfl (any_of HT_.out (by kernel_rfl)) (by rfl) ?_ ?_ ?_
        rotate_left; (simp only [Act.put, List.setIfInBounds_toArray, List.set_cons_zero, List.set_cons_succ]; rfl)
        refine zpo 30 (some 54) zY31 rfl rfl (any_of HT_.out (by kernel_rfl)) (by rfl) ?_ ?_ ?_
        rotate_left; (simp only [Act.put, List.setIfInBounds_toArray, List.set_cons_zero, List.set_cons_succ]; rfl)
        refine zpo 31 (some 55) zY32 rfl rfl (any_of HT_.out (by kernel_rfl)) (by rfl) ?_ ?_ ?_
        rotate_left; (simp only [Act.put, List.setIfInBounds_toArray, List.set_cons_zero, List.set_cons_succ]; rfl)
        refine zpo 32 (some 56) zY33 rfl rfl (any_of HT_.out (by kernel_rfl)) (by rfl) ?_ ?_ ?_
        rotate_left; (simp only [Act.put, List.setIfInBounds_toArray, List.set_cons_zero, List.set_cons_succ]; rfl)
        refine zpo 33 (some 57) zY34 rfl rfl (any_of HT_.out (by kernel_rfl)) (by rfl) ?_ ?_ ?_
        rotate_left; (simp only [Act.put, List.setIfInBounds_toArray, List.set_cons_zero, List.set_cons_succ]; rfl)
        refine zpo 34 (some 58) zY35 rfl rfl (any_of HT_.out (by kernel_rfl)) (by rfl) ?_ ?_ ?_
        rotate_left; (simp only [Act.put, List.setIfInBounds_toArray, List.set_cons_zero, List.set_cons_succ]; rfl)
        refine zpo 35 (some 59) zY36 rfl rfl (any_of HT_.out (by kernel_rfl)) (by rfl) ?_ ?_ ?_
        rotate_left; (simp only [Act.put, List.setIfInBounds_toArray, List.set_cons_zero, List.set_cons_succ]; rfl)
        refine zpu 36 (some 60) zY37 ?_ rfl rfl (any_of HT_.out (by kernel_rfl)) (by rfl) ?_ ?_ ?_ ?_
        rotate_left; (intro w'; go_simp; with_reducible rfl); rotate_left; (simp only [Act.put, List.setIfInBounds_toArray, List.set_cons_zero, List.set_cons_succ]; rfl)
        refine zpu 37 (some 61) zY38 ?_ rfl rfl (any_of HT_.out (by kernel_rfl)) (by rfl) ?_ ?_ ?_ ?_
        rotate_left; (intro w'; go_simp; with_reducible rfl); rotate_left; (simp only [Act.put, List.setIfInBounds_toArray, List.set_cons_zero, List.set_cons_succ]; rfl)
        refine zpu 38 (some 62) zY39 ?_ rfl rfl (any_of HT_.out (by kernel_rfl)) (by rfl) ?_ ?_ ?_ ?_
        rotate_left; (intro w'; go_simp; with_reducible rfl); rotate_left; (simp only [Act.put, List.setIfInBounds_toArray, List.set_cons_zero, List.set_cons_succ]; rfl)
        refine zpu 39 (some 63) zY40 ?_ rfl rfl (any_of HT_.out (by kernel_rfl)) (by rfl) ?_ ?_ ?_ ?_
        rotate_left; (intro w'; go_simp; with_reducible rfl); rotate_left; (simp only [Act.put, List.setIfInBounds_toArray, List.set_cons_zero, List.set_cons_succ]; rfl)
        refine zpu 40 (some 64) zY41 ?_ rfl rfl (any_of HT_.out (by kernel_rfl)) (by rfl) ?_ ?_ ?_ ?_
        rotate_left; (intro w'; go_simp; with_reducible rfl); rotate_left; (simp only [Act.put, List.setIfInBounds_toArray, List.set_cons_zero, List.set_cons_succ]; rfl)
        refine zpu 42 (some 66) zY42 ?_ rfl rfl (any_of HT_.out (by kernel_rfl)) (by rfl) ?_ ?_ ?_ ?_
        rotate_left; (intro w'; go_simp; with_reducible rfl); rotate_left; (simp only [Act.put, List.setIfInBounds_toArray, List.set_cons_zero, List.set_cons_succ]; rfl)
        refine take_ (i := 41) (N := some 65) (v := ?_) (a' := ?_) zY43 rfl rfl (take_ofW HT_.out HW_.out (by kernel_rfl)) (fun _ _ _ h => h) (Or.inl ⟨by rfl, ?_⟩) hHeld ?_ ?_
        rotate_left; (rintro w' ⟨s0, s1, s2, s3, s4⟩; go_simp; with_reducible rfl); rotate_left; (simp only [Act.put, List.setIfInBounds_toArray, List.set_cons_zero, List.set_cons_succ]; rfl)
        refine one_ (i := 43) (N := some 67) zY44 rfl rfl (one_of HT_.out (by kernel_rfl)) (by decide) (fun K hK => ?_)
        refine goes_ Try.func15 (by kernel_rfl) rfl #[.agg #[.int .i64 k1, .int .i64 n1], .int .i64 b] (by rfl) rfl rfl (by simp only [List.map_toArray, List.map_cons, List.map_nil]; rfl) ?_
        with_reducible refine (hfx _).mono ?_
        rintro e w6 ⟨rfl, hb⟩
        refine ⟨_, rfl, ?_⟩
        refine hK.out _ _ ⟨(LsR.below hHeld hb).1, (LsR.below hHeld hb).2.1, (LsR.below hHeld hb).2.2.1, (LsR.below hHeld hb).2.2.2.1, (LsR.below hHeld hb).2.2.2.2⟩ (fun hHeld => ?_)
        clear hK K
        refine norm_ (a' := ?_) ?_ ?_
        rotate_left
        · show Act.put _ (some 67) _ = _
          simp only [Act.put, List.setIfInBounds_toArray, List.set_cons_zero, List.set_cons_succ, i64_w, i32_w]
          rfl
        refine zpu 44 (some 68) zY45 ?_ rfl rfl (any_of HT_.out (by kernel_rfl)) (by rfl) ?_ ?_ ?_ ?_
        rotate_left; (intro w'; go_simp; with_reducible rfl); rotate_left; (simp only [Act.put, List.setIfInBounds_toArray, List.set_cons_zero, List.set_cons_succ]; rfl)
        refine zpu 45 (some 69) zY46 ?_ rfl rfl (any_of HT_.out (by kernel_rfl)) (by rfl) ?_ ?_ ?_ ?_
        rotate_left; (intro w'; go_simp; with_reducible rfl); rotate_left; (simp only [Act.put, List.setIfInBounds_toArray, List.set_cons_zero, List.set_cons_succ]; rfl)
        refine zpu 46 (some 70) zY47 ?_ rfl rfl (any_of HT_.out (by kernel_rfl)) (by rfl) ?_ ?_ ?_ ?_
        rotate_left; (intro w'; go_simp; with_reducible rfl); rotate_left; (simp only [Act.put, List.setIfInBounds_toArray, List.set_cons_zero, List.set_cons_succ]; rfl)
        refine zpu 47 (some 71) zY48 ?_ rfl rfl (any_of HT_.out (by kernel_rfl)) (by rfl) ?_ ?_ ?_ ?_
        rotate_left; (intro w'; go_simp; with_reducible rfl); rotate_left; (simp only [Act.put, List.setIfInBounds_toArray, List.set_cons_zero, List.set_cons_succ]; rfl)
        refine take_ (i := 48) (N := some 72) (v := ?_) (a' := ?_) zY49 rfl rfl (take_ofW HT_.out HW_.out (by kernel_rfl)) (fun _ _ _ h => h) (Or.inl ⟨by rfl, ?_⟩) hHeld ?_ ?_
        rotate_left; (rintro w' ⟨s0, s1, s2, s3, s4⟩; go_simp; with_reducible rfl); rotate_left; (simp only [Act.put, List.setIfInBounds_toArray, List.set_cons_zero, List.set_cons_succ]; rfl)
        refine zpu 49 (some 73) zY50 ?_ rfl rfl (any_of HT_.out (by kernel_rfl)) (by rfl) ?_ ?_ ?_ ?_
        rotate_left; (intro w'; go_simp; with_reducible rfl); rotate_left; (simp only [Act.put, List.setIfInBounds_toArray, List.set_cons_zero, List.set_cons_succ]; rfl)
        refine zpu 50 (some 74) zY51 ?_ rfl rfl (any_of HT_.out (by kernel_rfl)) (by rfl) ?_ ?_ ?_ ?_
        rotate_left; (intro w'; go_simp; with_reducible rfl); rotate_left; (simp only [Act.put, List.setIfInBounds_toArray, List.set_cons_zero, List.set_cons_succ]; rfl)
        refine zpu 51 (some 75) zY52 ?_ rfl rfl (any_of HT_.out (by kernel_rfl)) (by rfl) ?_ ?_ ?_ ?_
        rotate_left; (intro w'; go_simp; with_reducible rfl); rotate_left; (simp only [Act.put, List.setIfInBounds_toArray, List.set_cons_zero, List.set_cons_succ]; rfl)
        refine done_ (done_of HT_.out (by kernel_rfl)) ?_
        have hS1 := hHeld
        have HR := Aside0.mk hS1.2.2.2.2
        clear hS0 hS1 hHeld
        go_wp2
        go_roundw
        case rel => exact .inr (.inr (.inl ⟨rfl, HR.out⟩))
        case measure => simp [intOf]
    · have hof := zy_of k2 n2 b 0
      have hfx := zy_fixed k2 n2 b
      have q0 : wr.cell? ⟨w.heap.size, 4, none⟩ = some (.int .i64 k2) := (blk_cell hR.1 4).trans rfl
      have q1 : wr.cell? ⟨w.heap.size, 5, none⟩ = some (.int .i64 n2) := (blk_cell hR.1 5).trans rfl
      have q2 : wr.cell? ⟨w2.heap.size, 2, none⟩ = some (.int .i64 (vof k2 n2 b 0)) := (blk_cell hR.2.1 2).trans rfl
      have q3 : wr.cell? ⟨w3.heap.size, 2, none⟩ = some (.int .i64 (vof k2 n2 c 0)) := (blk_cell hR.2.2.1 2).trans rfl
      have HQ := Aside0.mk hR
      clear hR
      have hcase := zy_cases k2 n2 b c
      generalize hL : (#[.int .i64 k0, .int .i64 n0, .int .i64 k1, .int .i64 n1, .int .i64 k2, .int .i64 n2, .int .i64 k3, .int .i64 n3] : Array Value) = L at *
      generalize hSb : (#[.int .i64 (vof k0 n0 b 0), .int .i64 (vof k1 n1 b 0), .int .i64 (vof k2 n2 b 0), .int .i64 (vof k3 n3 b 0)] : Array Value) = Sa at *
      generalize hTb : (#[.int .i64 (vof k0 n0 c 0), .int .i64 (vof k1 n1 c 0), .int .i64 (vof k2 n2 c 0), .int .i64 (vof k3 n3 c 0)] : Array Value) = Ta at *
      clear hL hSb hTb
      generalize vof k2 n2 b 0 = s at *
      generalize vof k2 n2 c 0 = t at *
      generalize vfixed k2 b = f at *
      rcases hcase with ⟨rfl, rfl, rfl⟩ | ⟨rfl, rfl, rfl⟩ | ⟨e0, e1, rfl⟩ | ⟨e0, e1, rfl, rfl⟩
      · skip
        go_wp2
        have hS0 : LsR 4 5 2 w.heap.size w2.heap.size w3.heap.size L Sa Ta _ _ _ _ w wr := ⟨q0, q1, q2, q3, HQ.out⟩
        clear q0 q1 q2 q3 HQ
        unfold LsR at hS0
        refine start_ (n := 52) (S := fun w' => w'.cell? ⟨w.heap.size, 4, none⟩ = some (.int .i64 0) ∧ w'.cell? ⟨w.heap.size, 5, none⟩ = some (.int .i64 n2) ∧ w'.cell? ⟨w2.heap.size, 2, none⟩ = some (.int .i64 0) ∧ w'.cell? ⟨w3.heap.size, 2, none⟩ = some (.int .i64 t) ∧ LsS w.heap.size w2.heap.size w3.heap.size L Sa Ta w w') (ds := []) zY0 (by kernel_rfl) rfl rfl ⟨(LsR.below hS0 (below_drew1 (Below.refl _ _))).1, (LsR.below hS0 (below_drew1 (Below.refl _ _))).2.1, (LsR.below hS0 (below_drew1 (Below.refl _ _))).2.2.1, (LsR.below hS0 (below_drew1 (Below.refl _ _))).2.2.2.1, (LsR.below hS0 (below_drew1 (Below.refl _ _))).2.2.2.2⟩ (fun hHeld => ?_)
        refine with_tabW zls.tab9 zls.bits9 (fun HT_ HW_ => ?_)
        refine zpu 0 (some 24) zY1 ?_ rfl rfl (any_of HT_.out (by kernel_rfl)) (by rfl) ?_ ?_ ?_ ?_
        rotate_left; (intro w'; go_simp; with_reducible rfl); rotate_left; (simp only [Act.put, List.setIfInBounds_toArray, List.set_cons_zero, List.set_cons_succ]; rfl)
        refine zpu 1 (some 25) zY2 ?_ rfl rfl (any_of HT_.out (by kernel_rfl)) (by rfl) ?_ ?_ ?_ ?_
        rotate_left; (intro w'; go_simp; with_reducible rfl); rotate_left; (simp only [Act.put, List.setIfInBounds_toArray, List.set_cons_zero, List.set_cons_succ]; rfl)
        refine zpu 3 (some 27) zY3 ?_ rfl rfl (any_of HT_.out (by kernel_rfl)) (by rfl) ?_ ?_ ?_ ?_
        rotate_left; (intro w'; go_simp; with_reducible rfl); rotate_left; (simp only [Act.put, List.setIfInBounds_toArray, List.set_cons_zero, List.set_cons_succ]; rfl)
        refine zpu 4 (some 28) zY4 ?_ rfl rfl (any_of HT_.out (by kernel_rfl)) (by rfl) ?_ ?_ ?_ ?_
        rotate_left; (intro w'; go_simp; with_reducible rfl); rotate_left; (simp only [Act.put, List.setIfInBounds_toArray, List.set_cons_zero, List.set_cons_succ]; rfl)
        refine zpu 6 (some 30) zY5 ?_ rfl rfl (any_of HT_.out (by kernel_rfl)) (by rfl) ?_ ?_ ?_ ?_
        rotate_left; (intro w'; go_simp; with_reducible rfl); rotate_left; (simp only [Act.put, List.setIfInBounds_toArray, List.set_cons_zero, List.set_cons_succ]; rfl)
        refine take_ (i := 2) (N := some 26) (v := ?_) (a' := ?_) zY6 rfl rfl (take_ofW HT_.out HW_.out (by kernel_rfl)) (fun _ _ _ h => h) (Or.inl ⟨by rfl, ?_⟩) hHeld ?_ ?_
        rotate_left; (rintro w' ⟨s0, s1, s2, s3, s4⟩; go_simp; with_reducible rfl); rotate_left; (simp only [Act.put, List.setIfInBounds_toArray, List.set_cons_zero, List.set_cons_succ]; rfl)
        refine take_ (i := 5) (N := some 29) (v := ?_) (a' := ?_) zY7 rfl rfl (take_ofW HT_.out HW_.out (by kernel_rfl)) (fun _ _ _ h => h) (Or.inl ⟨by rfl, ?_⟩) hHeld ?_ ?_
        rotate_left; (rintro w' ⟨s0, s1, s2, s3, s4⟩; go_simp; with_reducible rfl); rotate_left; (simp only [Act.put, List.setIfInBounds_toArray, List.set_cons_zero, List.set_cons_succ]; rfl)
        refine one_ (i := 7) (N := some 31) zY8 rfl rfl (one_of HT_.out (by kernel_rfl)) (by decide) (fun K hK => ?_)
        refine goes_ Try.func13 (by kernel_rfl) rfl #[.agg #[.int .i64 0, .int .i64 n2], .int .i64 b, .int .i64 0] (by rfl) rfl rfl (by simp only [List.map_toArray, List.map_cons, List.map_nil]; rfl) ?_
        with_reducible refine (hof _).mono ?_
        rintro e w5 ⟨rfl, hb⟩
        refine ⟨_, rfl, ?_⟩
        refine hK.out _ _ ⟨(LsR.below hHeld hb).1, (LsR.below hHeld hb).2.1, (LsR.below hHeld hb).2.2.1, (LsR.below hHeld hb).2.2.2.1, (LsR.below hHeld hb).2.2.2.2⟩ (fun hHeld => ?_)
        clear hK K
        refine norm_ (a' := ?_) ?_ ?_
        rotate_left
        · show Act.put _ (some 31) _ = _
          simp only [Act.put, List.setIfInBounds_toArray, List.set_cons_zero, List.set_cons_succ, i64_w, i32_w]
          rfl
        refine zpu 8 (some 32) zY9 ?_ rfl rfl (any_of HT_.out (by kernel_rfl)) (by rfl) ?_ ?_ ?_ ?_
        rotate_left; (intro w'; go_simp; with_reducible rfl); rotate_left; (simp only [Act.put, List.setIfInBounds_toArray, List.set_cons_zero, List.set_cons_succ]; rfl)
        refine zpu 9 (some 33) zY10 ?_ rfl rfl (any_of HT_.out (by kernel_rfl)) (by rfl) ?_ ?_ ?_ ?_
        rotate_left; (intro w'; go_simp; with_reducible rfl); rotate_left; (simp only [Act.put, List.setIfInBounds_toArray, List.set_cons_zero, List.set_cons_succ]; rfl)
        refine zpu 10 (some 34) zY11 ?_ rfl rfl (any_of HT_.out (by kernel_rfl)) (by rfl) ?_ ?_ ?_ ?_
        rotate_left; (intro w'; go_simp; with_reducible rfl); rotate_left; (simp only [Act.put, List.setIfInBounds_toArray, List.set_cons_zero, List.set_cons_succ]; rfl)
        refine zpu 11 (some 35) zY12 ?_ rfl rfl (any_of HT_.out (by kernel_rfl)) (by rfl) ?_ ?_ ?_ ?_
        rotate_left; (intro w'; go_simp; with_reducible rfl); rotate_left; (simp only [Act.put, List.setIfInBounds_toArray, List.set_cons_zero, List.set_cons_succ]; rfl)
        refine zpu 12 (some 36) zY13 ?_ rfl rfl (any_of HT_.out (by kernel_rfl)) (by rfl) ?_ ?_ ?_ ?_
        rotate_left; (intro w'; go_simp; with_reducible rfl); rotate_left; (simp only [Act.put, List.setIfInBounds_toArray, List.set_cons_zero, List.set_cons_succ]; rfl)
        refine take_ (i := 13) (N := some 37) (v := ?_) (a' := ?_) zY14 rfl rfl (take_ofW HT_.out HW_.out (by kernel_rfl)) (fun _ _ _ h => h) (Or.inl ⟨by rfl, ?_⟩) hHeld ?_ ?_
        rotate_left; (rintro w' ⟨s0, s1, s2, s3, s4⟩; go_simp; with_reducible rfl); rotate_left; (simp only [Act.put, List.setIfInBounds_toArray, List.set_cons_zero, List.set_cons_succ]; rfl)
        refine zpu 14 (some 38) zY15 ?_ rfl rfl (any_of HT_.out (by kernel_rfl)) (by rfl) ?_ ?_ ?_ ?_
        rotate_left; (intro w'; go_simp; with_reducible rfl); rotate_left; (simp only [Act.put, List.setIfInBounds_toArray, List.set_cons_zero, List.set_cons_succ]; rfl)
        refine zpu 15 (some 39) zY16 ?_ rfl rfl (any_of HT_.out (by kernel_rfl)) (by rfl) ?_ ?_ ?_ ?_
        rotate_left; (intro w'; go_simp; with_reducible rfl); rotate_left; (simp only [Act.put, List.setIfInBounds_toArray, List.set_cons_zero, List.set_cons_succ]; rfl)
        refine zpu 16 (some 40) zY17 ?_ rfl rfl (any_of HT_.out (by kernel_rfl)) (by rfl) ?_ ?_ ?_ ?_
        rotate_left; (intro w'; go_simp; with_reducible rfl); rotate_left; (simp only [Act.put, List.setIfInBounds_toArray, List.set_cons_zero, List.set_cons_succ]; rfl)
        refine zpu 17 (some 41) zY18 ?_ rfl rfl (any_of HT_.out (by kernel_rfl)) (by rfl) ?_ ?_ ?_ ?_
        rotate_left; (intro w'; go_simp; with_reducible rfl); rotate_left; (simp only [Act.put, List.setIfInBounds_toArray, List.set_cons_zero, List.set_cons_succ]; rfl)
        refine take_ (i := 18) (N := some 42) (v := ?_) (a' := ?_) zY19 rfl rfl (take_ofW HT_.out HW_.out (by kernel_rfl)) (fun _ _ _ h => h) (Or.inl ⟨by rfl, ?_⟩) hHeld ?_ ?_
        rotate_left; (rintro w' ⟨s0, s1, s2, s3, s4⟩; go_simp; with_reducible rfl); rotate_left; (simp only [Act.put, List.setIfInBounds_toArray, List.set_cons_zero, List.set_cons_succ]; rfl)
        refine zpu 19 (some 43) zY20 ?_ rfl rfl (any_of HT_.out (by kernel_rfl)) (by rfl) ?_ ?_ ?_ ?_
        rotate_left; (intro w'; go_simp; with_reducible rfl); rotate_left; (simp only [Act.put, List.setIfInBounds_toArray, List.set_cons_zero, List.set_cons_succ]; rfl)
        refine zpu 20 (some 44) zY21 ?_ rfl rfl (any_of HT_.out (by kernel_rfl)) (by rfl) ?_ ?_ ?_ ?_
        rotate_left; (intro w'; go_simp; with_reducible rfl); rotate_left; (simp only [Act.put, List.setIfInBounds_toArray, List.set_cons_zero, List.set_cons_succ]; rfl)
        refine zpu 21 (some 45) zY22 ?_ rfl rfl (any_of HT_.out (by kernel_rfl)) (by rfl) ?_ ?_ ?_ ?_
        rotate_left; (intro w'; go_simp; with_reducible rfl); rotate_left; (simp only [Act.put, List.setIfInBounds_toArray, List.set_cons_zero, List.set_cons_succ]; rfl)
        refine zpu 22 (some 46) zY23 ?_ rfl rfl (any_of HT_.out (by kernel_rfl)) (by rfl) ?_ ?_ ?_ ?_
        rotate_left; (intro w'; go_simp; with_reducible rfl); rotate_left; (simp only [Act.put, List.setIfInBounds_toArray, List.set_cons_zero, List.set_cons_succ]; rfl)
        refine zpu 23 (some 47) zY24 ?_ rfl rfl (any_of HT_.out (by kernel_rfl)) (by rfl) ?_ ?_ ?_ ?_
        rotate_left; (intro w'; go_simp; with_reducible rfl); rotate_left; (simp only [Act.put, List.setIfInBounds_toArray, List.set_cons_zero, List.set_cons_succ]; rfl)
        refine zpu 24 (some 48) zY25 ?_ rfl rfl (any_of HT_.out (by kernel_rfl)) (by rfl) ?_ ?_ ?_ ?_
        rotate_left; (intro w'; go_simp; with_reducible rfl); rotate_left; (simp only [Act.put, List.setIfInBounds_toArray, List.set_cons_zero, List.set_cons_succ]; rfl)
        refine zpu 25 (some 49) zY26 ?_ rfl rfl (any_of HT_.out (by kernel_rfl)) (by rfl) ?_ ?_ ?_ ?_
        rotate_left; (intro w'; go_simp; with_reducible rfl); rotate_left; (simp only [Act.put, List.setIfInBounds_toArray, List.set_cons_zero, List.set_cons_succ]; rfl)
        refine take_ (i := 26) (N := some 50) (v := ?_) (a' := ?_) zY27 rfl rfl (take_ofW HT_.out HW_.out (by kernel_rfl)) (fun _ _ _ h => h) (Or.inl ⟨by rfl, ?_⟩) hHeld ?_ ?_
        rotate_left; (rintro w' ⟨s0, s1, s2, s3, s4⟩; go_simp; with_reducible rfl); rotate_left; (simp only [Act.put, List.setIfInBounds_toArray, List.set_cons_zero, List.set_cons_succ]; rfl)
        refine zpu 27 (some 51) zY28 ?_ rfl rfl (any_of HT_.out (by kernel_rfl)) (by rfl) ?_ ?_ ?_ ?_
        rotate_left; (intro w'; go_simp; with_reducible rfl); rotate_left; (simp only [Act.put, List.setIfInBounds_toArray, List.set_cons_zero, List.set_cons_succ]; rfl)
        refine zpu 28 (some 52) zY29 ?_ rfl rfl (any_of HT_.out (by kernel_rfl)) (by rfl) ?_ ?_ ?_ ?_
        rotate_left; (intro w'; go_simp; with_reducible rfl); rotate_left; (simp only [Act.put, List.setIfInBounds_toArray, List.set_cons_zero, List.set_cons_succ]; rfl)
        refine zpo 29 (some 53) zY30 rfl rfl (any_of HT_.out (by kernel_rfl)) (by rfl) ?_ ?_ ?_
        rotate_left; (simp only [Act.put, List.setIfInBounds_toArray, List.set_cons_zero, List.set_cons_succ]; rfl)
        refine zpo 30 (some 54) zY31 rfl rfl (any_of HT_.out (by kernel_rfl)) (by rfl) ?_ ?_ ?_
        rotate_left; (simp only [Act.put, List.setIfInBounds_toArray, List.set_cons_zero, List.set_cons_succ]; rfl)
        refine zpo 31 (some 55) zY32 rfl rfl (any_of HT_.out (by kernel_rfl)) (by rfl) ?_ ?_ ?_
        rotate_left; (simp only [Act.put, List.setIfInBounds_toArray, List.set_cons_zero, List.set_cons_succ]; rfl)
        refine zpo 32 (some 56) zY33 rfl rfl (any_of HT_.out (by kernel_rfl)) (by rfl) ?_ ?_ ?_
        rotate_left; (simp only [Act.put, List.setIfInBounds_toArray, List.set_cons_zero, List.set_cons_succ]; rfl)
        refine zpo 33 (some 57) zY34 rfl rfl (any_of HT_.out (by kernel_rfl)) (by rfl) ?_ ?_ ?_
        rotate_left; (simp only [Act.put, List.setIfInBounds_toArray, List.set_cons_zero, List.set_cons_succ]; rfl)
        refine zpo 34 (some 58) zY35 rfl rfl (any_of HT_.out (by kernel_rfl)) (by rfl) ?_ ?_ ?_
        rotate_left; (simp only [Act.put, List.setIfInBounds_toArray, List.set_cons_zero, List.set_cons_succ]; rfl)
        refine zpo 35 (some 59) zY36 rfl rfl (any_of HT_.out (by kernel_rfl)) (by rfl) ?_ ?_ ?_
        rotate_left; (simp only [Act.put, List.setIfInBounds_toArray, List.set_cons_zero, List.set_cons_succ]; rfl)
        refine zpu 36 (some 60) zY37 ?_ rfl rfl (any_of HT_.out (by kernel_rfl)) (by rfl) ?_ ?_ ?_ ?_
        rotate_left; (intro w'; go_simp; with_reducible rfl); rotate_left; (simp only [Act.put, List.setIfInBounds_toArray, List.set_cons_zero, List.set_cons_succ]; rfl)
        refine zpu 37 (some 61) zY38 ?_ rfl rfl (any_of HT_.out (by kernel_rfl)) (by rfl) ?_ ?_ ?_ ?_
        rotate_left; (intro w'; go_simp; with_reducible rfl); rotate_left; (simp only [Act.put, List.setIfInBounds_toArray, List.set_cons_zero, List.set_cons_succ]; rfl)
        refine zpu 38 (some 62) zY39 ?_ rfl rfl (any_of HT_.out (by kernel_rfl)) (by rfl) ?_ ?_ ?_ ?_
        rotate_left; (intro w'; go_simp; with_reducible rfl); rotate_left; (simp only [Act.put, List.setIfInBounds_toArray, List.set_cons_zero, List.set_cons_succ]; rfl)
        refine zpu 39 (some 63) zY40 ?_ rfl rfl (any_of HT_.out (by kernel_rfl)) (by rfl) ?_ ?_ ?_ ?_
        rotate_left; (intro w'; go_simp; with_reducible rfl); rotate_left; (simp only [Act.put, List.setIfInBounds_toArray, List.set_cons_zero, List.set_cons_succ]; rfl)
        refine zpu 40 (some 64) zY41 ?_ rfl rfl (any_of HT_.out (by kernel_rfl)) (by rfl) ?_ ?_ ?_ ?_
        rotate_left; (intro w'; go_simp; with_reducible rfl); rotate_left; (simp only [Act.put, List.setIfInBounds_toArray, List.set_cons_zero, List.set_cons_succ]; rfl)
        refine zpu 42 (some 66) zY42 ?_ rfl rfl (any_of HT_.out (by kernel_rfl)) (by rfl) ?_ ?_ ?_ ?_
        rotate_left; (intro w'; go_simp; with_reducible rfl); rotate_left; (simp only [Act.put, List.setIfInBounds_toArray, List.set_cons_zero, List.set_cons_succ]; rfl)
        refine take_ (i := 41) (N := some 65) (v := ?_) (a' := ?_) zY43 rfl rfl (take_ofW HT_.out HW_.out (by kernel_rfl)) (fun _ _ _ h => h) (Or.inl ⟨by rfl, ?_⟩) hHeld ?_ ?_
        rotate_left; (rintro w' ⟨s0, s1, s2, s3, s4⟩; go_simp; with_reducible rfl); rotate_left; (simp only [Act.put, List.setIfInBounds_toArray, List.set_cons_zero, List.set_cons_succ]; rfl)
        refine one_ (i := 43) (N := some 67) zY44 rfl rfl (one_of HT_.out (by kernel_rfl)) (by decide) (fun K hK => ?_)
        refine goes_ Try.func15 (by kernel_rfl) rfl #[.agg #[.int .i64 0, .int .i64 n2], .int .i64 b] (by rfl) rfl rfl (by simp only [List.map_toArray, List.map_cons, List.map_nil]; rfl) ?_
        with_reducible refine (hfx _).mono ?_
        rintro e w6 ⟨rfl, hb⟩
        refine ⟨_, rfl, ?_⟩
        refine hK.out _ _ ⟨(LsR.below hHeld hb).1, (LsR.below hHeld hb).2.1, (LsR.below hHeld hb).2.2.1, (LsR.below hHeld hb).2.2.2.1, (LsR.below hHeld hb).2.2.2.2⟩ (fun hHeld => ?_)
        clear hK K
        refine norm_ (a' := ?_) ?_ ?_
        rotate_left
        · show Act.put _ (some 67) _ = _
          simp only [Act.put, List.setIfInBounds_toArray, List.set_cons_zero, List.set_cons_succ, i64_w, i32_w]
          rfl
        refine zpu 44 (some 68) zY45 ?_ rfl rfl (any_of HT_.out (by kernel_rfl)) (by rfl) ?_ ?_ ?_ ?_
        rotate_left; (intro w'; go_simp; with_reducible rfl); rotate_left; (simp only [Act.put, List.setIfInBounds_toArray, List.set_cons_zero, List.set_cons_succ]; rfl)
        refine zpu 45 (some 69) zY46 ?_ rfl rfl (any_of HT_.out (by kernel_rfl)) (by rfl) ?_ ?_ ?_ ?_
        rotate_left; (intro w'; go_simp; with_reducible rfl); rotate_left; (simp only [Act.put, List.setIfInBounds_toArray, List.set_cons_zero, List.set_cons_succ]; rfl)
        refine zpu 46 (some 70) zY47 ?_ rfl rfl (any_of HT_.out (by kernel_rfl)) (by rfl) ?_ ?_ ?_ ?_
        rotate_left; (intro w'; go_simp; with_reducible rfl); rotate_left; (simp only [Act.put, List.setIfInBounds_toArray, List.set_cons_zero, List.set_cons_succ]; rfl)
        refine zpu 47 (some 71) zY48 ?_ rfl rfl (any_of HT_.out (by kernel_rfl)) (by rfl) ?_ ?_ ?_ ?_
        rotate_left; (intro w'; go_simp; with_reducible rfl); rotate_left; (simp only [Act.put, List.setIfInBounds_toArray, List.set_cons_zero, List.set_cons_succ]; rfl)
        refine take_ (i := 48) (N := some 72) (v := ?_) (a' := ?_) zY49 rfl rfl (take_ofW HT_.out HW_.out (by kernel_rfl)) (fun _ _ _ h => h) (Or.inl ⟨by rfl, ?_⟩) hHeld ?_ ?_
        rotate_left; (rintro w' ⟨s0, s1, s2, s3, s4⟩; go_simp; with_reducible rfl); rotate_left; (simp only [Act.put, List.setIfInBounds_toArray, List.set_cons_zero, List.set_cons_succ]; rfl)
        refine zpu 49 (some 73) zY50 ?_ rfl rfl (any_of HT_.out (by kernel_rfl)) (by rfl) ?_ ?_ ?_ ?_
        rotate_left; (intro w'; go_simp; with_reducible rfl); rotate_left; (simp only [Act.put, List.setIfInBounds_toArray, List.set_cons_zero, List.set_cons_succ]; rfl)
        refine zpu 50 (some 74) zY51 ?_ rfl rfl (any_of HT_.out (by kernel_rfl)) (by rfl) ?_ ?_ ?_ ?_
        rotate_left; (intro w'; go_simp; with_reducible rfl); rotate_left; (simp only [Act.put, List.setIfInBounds_toArray, List.set_cons_zero, List.set_cons_succ]; rfl)
        refine zpu 51 (some 75) zY52 ?_ rfl rfl (any_of HT_.out (by kernel_rfl)) (by rfl) ?_ ?_ ?_ ?_
        rotate_left; (intro w'; go_simp; with_reducible rfl); rotate_left; (simp only [Act.put, List.setIfInBounds_toArray, List.set_cons_zero, List.set_cons_succ]; rfl)
        refine done_ (done_of HT_.out (by kernel_rfl)) ?_
        have hS1 := hHeld
        have HR := Aside0.mk hS1.2.2.2.2
        clear hS0 hS1 hHeld
        go_wp2
        go_roundw
        case rel => exact .inr (.inr (.inr (.inl ⟨rfl, HR.out⟩)))
        case measure => simp [intOf]
      · skip
        go_wp2
        have hS0 : LsR 4 5 2 w.heap.size w2.heap.size w3.heap.size L Sa Ta _ _ _ _ w wr := ⟨q0, q1, q2, q3, HQ.out⟩
        clear q0 q1 q2 q3 HQ
        unfold LsR at hS0
        refine start_ (n := 52) (S := fun w' => w'.cell? ⟨w.heap.size, 4, none⟩ = some (.int .i64 1) ∧ w'.cell? ⟨w.heap.size, 5, none⟩ = some (.int .i64 n2) ∧ w'.cell? ⟨w2.heap.size, 2, none⟩ = some (.int .i64 t) ∧ w'.cell? ⟨w3.heap.size, 2, none⟩ = some (.int .i64 t) ∧ LsS w.heap.size w2.heap.size w3.heap.size L Sa Ta w w') (ds := []) zY0 (by kernel_rfl) rfl rfl ⟨(LsR.below hS0 (below_drew1 (Below.refl _ _))).1, (LsR.below hS0 (below_drew1 (Below.refl _ _))).2.1, (LsR.below hS0 (below_drew1 (Below.refl _ _))).2.2.1, (LsR.below hS0 (below_drew1 (Below.refl _ _))).2.2.2.1, (LsR.below hS0 (below_drew1 (Below.refl _ _))).2.2.2.2⟩ (fun hHeld => ?_)
        refine with_tabW zls.tab9 zls.bits9 (fun HT_ HW_ => ?_)
        refine zpu 0 (some 24) zY1 ?_ rfl rfl (any_of HT_.out (by kernel_rfl)) (by rfl) ?_ ?_ ?_ ?_
        rotate_left; (intro w'; go_simp; with_reducible rfl); rotate_left; (simp only [Act.put, List.setIfInBounds_toArray, List.set_cons_zero, List.set_cons_succ]; rfl)
        refine zpu 1 (some 25) zY2 ?_ rfl rfl (any_of HT_.out (by kernel_rfl)) (by rfl) ?_ ?_ ?_ ?_
        rotate_left; (intro w'; go_simp; with_reducible rfl); rotate_left; (simp only [Act.put, List.setIfInBounds_toArray, List.set_cons_zero, List.set_cons_succ]; rfl)
        refine zpu 3 (some 27) zY3 ?_ rfl rfl (any_of HT_.out (by kernel_rfl)) (by rfl) ?_ ?_ ?_ ?_
        rotate_left; (intro w'; go_simp; with_reducible rfl); rotate_left; (simp only [Act.put, List.setIfInBounds_toArray, List.set_cons_zero, List.set_cons_succ]; rfl)
        refine zpu 4 (some 28) zY4 ?_ rfl rfl (any_of HT_.out (by kernel_rfl)) (by rfl) ?_ ?_ ?_ ?_
        rotate_left; (intro w'; go_simp; with_reducible rfl); rotate_left; (simp only [Act.put, List.setIfInBounds_toArray, List.set_cons_zero, List.set_cons_succ]; rfl)
        refine zpu 6 (some 30) zY5 ?_ rfl rfl (any_of HT_.out (by kernel_rfl)) (by rfl) ?_ ?_ ?_ ?_
        rotate_left; (intro w'; go_simp; with_reducible rfl); rotate_left; (simp only [Act.put, List.setIfInBounds_toArray, List.set_cons_zero, List.set_cons_succ]; rfl)
        refine take_ (i := 2) (N := some 26) (v := ?_) (a' := ?_) zY6 rfl rfl (take_ofW HT_.out HW_.out (by kernel_rfl)) (fun _ _ _ h => h) (Or.inl ⟨by rfl, ?_⟩) hHeld ?_ ?_
        rotate_left; (rintro w' ⟨s0, s1, s2, s3, s4⟩; go_simp; with_reducible rfl); rotate_left; (simp only [Act.put, List.setIfInBounds_toArray, List.set_cons_zero, List.set_cons_succ]; rfl)
        refine take_ (i := 5) (N := some 29) (v := ?_) (a' := ?_) zY7 rfl rfl (take_ofW HT_.out HW_.out (by kernel_rfl)) (fun _ _ _ h => h) (Or.inl ⟨by rfl, ?_⟩) hHeld ?_ ?_
        rotate_left; (rintro w' ⟨s0, s1, s2, s3, s4⟩; go_simp; with_reducible rfl); rotate_left; (simp only [Act.put, List.setIfInBounds_toArray, List.set_cons_zero, List.set_cons_succ]; rfl)
        refine one_ (i := 7) (N := some 31) zY8 rfl rfl (one_of HT_.out (by kernel_rfl)) (by decide) (fun K hK => ?_)
        refine goes_ Try.func13 (by kernel_rfl) rfl #[.agg #[.int .i64 1, .int .i64 n2], .int .i64 b, .int .i64 0] (by rfl) rfl rfl (by simp only [List.map_toArray, List.map_cons, List.map_nil]; rfl) ?_
        with_reducible refine (hof _).mono ?_
        rintro e w5 ⟨rfl, hb⟩
        refine ⟨_, rfl, ?_⟩
        refine hK.out _ _ ⟨(LsR.below hHeld hb).1, (LsR.below hHeld hb).2.1, (LsR.below hHeld hb).2.2.1, (LsR.below hHeld hb).2.2.2.1, (LsR.below hHeld hb).2.2.2.2⟩ (fun hHeld => ?_)
        clear hK K
        refine norm_ (a' := ?_) ?_ ?_
        rotate_left
        · show Act.put _ (some 31) _ = _
          simp only [Act.put, List.setIfInBounds_toArray, List.set_cons_zero, List.set_cons_succ, i64_w, i32_w]
          rfl
        refine zpu 8 (some 32) zY9 ?_ rfl rfl (any_of HT_.out (by kernel_rfl)) (by rfl) ?_ ?_ ?_ ?_
        rotate_left; (intro w'; go_simp; with_reducible rfl); rotate_left; (simp only [Act.put, List.setIfInBounds_toArray, List.set_cons_zero, List.set_cons_succ]; rfl)
        refine zpu 9 (some 33) zY10 ?_ rfl rfl (any_of HT_.out (by kernel_rfl)) (by rfl) ?_ ?_ ?_ ?_
        rotate_left; (intro w'; go_simp; with_reducible rfl); rotate_left; (simp only [Act.put, List.setIfInBounds_toArray, List.set_cons_zero, List.set_cons_succ]; rfl)
        refine zpu 10 (some 34) zY11 ?_ rfl rfl (any_of HT_.out (by kernel_rfl)) (by rfl) ?_ ?_ ?_ ?_
        rotate_left; (intro w'; go_simp; with_reducible rfl); rotate_left; (simp only [Act.put, List.setIfInBounds_toArray, List.set_cons_zero, List.set_cons_succ]; rfl)
        refine zpu 11 (some 35) zY12 ?_ rfl rfl (any_of HT_.out (by kernel_rfl)) (by rfl) ?_ ?_ ?_ ?_
        rotate_left; (intro w'; go_simp; with_reducible rfl); rotate_left; (simp only [Act.put, List.setIfInBounds_toArray, List.set_cons_zero, List.set_cons_succ]; rfl)
        refine zpu 12 (some 36) zY13 ?_ rfl rfl (any_of HT_.out (by kernel_rfl)) (by rfl) ?_ ?_ ?_ ?_
        rotate_left; (intro w'; go_simp; with_reducible rfl); rotate_left; (simp only [Act.put, List.setIfInBounds_toArray, List.set_cons_zero, List.set_cons_succ]; rfl)
        refine take_ (i := 13) (N := some 37) (v := ?_) (a' := ?_) zY14 rfl rfl (take_ofW HT_.out HW_.out (by kernel_rfl)) (fun _ _ _ h => h) (Or.inl ⟨by rfl, ?_⟩) hHeld ?_ ?_
        rotate_left; (rintro w' ⟨s0, s1, s2, s3, s4⟩; go_simp; with_reducible rfl); rotate_left; (simp only [Act.put, List.setIfInBounds_toArray, List.set_cons_zero, List.set_cons_succ]; rfl)
        refine zpu 14 (some 38) zY15 ?_ rfl rfl (any_of HT_.out (by kernel_rfl)) (by rfl) ?_ ?_ ?_ ?_
        rotate_left; (intro w'; go_simp; with_reducible rfl); rotate_left; (simp only [Act.put, List.setIfInBounds_toArray, List.set_cons_zero, List.set_cons_succ]; rfl)
        refine zpu 15 (some 39) zY16 ?_ rfl rfl (any_of HT_.out (by kernel_rfl)) (by rfl) ?_ ?_ ?_ ?_
        rotate_left; (intro w'; go_simp; with_reducible rfl); rotate_left; (simp only [Act.put, List.setIfInBounds_toArray, List.set_cons_zero, List.set_cons_succ]; rfl)
        refine zpo 16 (some 40) zY17 rfl rfl (any_of HT_.out (by kernel_rfl)) (by rfl) ?_ ?_ ?_
        rotate_left; (simp only [Act.put, List.setIfInBounds_toArray, List.set_cons_zero, List.set_cons_succ]; rfl)
        refine zpo 17 (some 41) zY18 rfl rfl (any_of HT_.out (by kernel_rfl)) (by rfl) ?_ ?_ ?_
        rotate_left; (simp only [Act.put, List.setIfInBounds_toArray, List.set_cons_zero, List.set_cons_succ]; rfl)
        refine zpo 18 (some 42) zY19 rfl rfl (any_of HT_.out (by kernel_rfl)) (by rfl) ?_ ?_ ?_
        rotate_left; (simp only [Act.put, List.setIfInBounds_toArray, List.set_cons_zero, List.set_cons_succ]; rfl)
        refine zpo 19 (some 43) zY20 rfl rfl (any_of HT_.out (by kernel_rfl)) (by rfl) ?_ ?_ ?_
        rotate_left; (simp only [Act.put, List.setIfInBounds_toArray, List.set_cons_zero, List.set_cons_succ]; rfl)
        refine zpu 20 (some 44) zY21 ?_ rfl rfl (any_of HT_.out (by kernel_rfl)) (by rfl) ?_ ?_ ?_ ?_
        rotate_left; (intro w'; go_simp; with_reducible rfl); rotate_left; (simp only [Act.put, List.setIfInBounds_toArray, List.set_cons_zero, List.set_cons_succ]; rfl)
        refine zpu 21 (some 45) zY22 ?_ rfl rfl (any_of HT_.out (by kernel_rfl)) (by rfl) ?_ ?_ ?_ ?_
        rotate_left; (intro w'; go_simp; with_reducible rfl); rotate_left; (simp only [Act.put, List.setIfInBounds_toArray, List.set_cons_zero, List.set_cons_succ]; rfl)
        refine zpu 22 (some 46) zY23 ?_ rfl rfl (any_of HT_.out (by kernel_rfl)) (by rfl) ?_ ?_ ?_ ?_
        rotate_left; (intro w'; go_simp; with_reducible rfl); rotate_left; (simp only [Act.put, List.setIfInBounds_toArray, List.set_cons_zero, List.set_cons_succ]; rfl)
        refine zpu 23 (some 47) zY24 ?_ rfl rfl (any_of HT_.out (by kernel_rfl)) (by rfl) ?_ ?_ ?_ ?_
        rotate_left; (intro w'; go_simp; with_reducible rfl); rotate_left; (simp only [Act.put, List.setIfInBounds_toArray, List.set_cons_zero, List.set_cons_succ]; rfl)
        refine zpu 24 (some 48) zY25 ?_ rfl rfl (any_of HT_.out (by kernel_rfl)) (by rfl) ?_ ?_ ?_ ?_
        rotate_left; (intro w'; go_simp; with_reducible rfl); rotate_left; (simp only [Act.put, List.setIfInBounds_toArray, List.set_cons_zero, List.set_cons_succ]; rfl)
        refine zpu 25 (some 49) zY26 ?_ rfl rfl (any_of HT_.out (by kernel_rfl)) (by rfl) ?_ ?_ ?_ ?_
        rotate_left; (intro w'; go_simp; with_reducible rfl); rotate_left; (simp only [Act.put, List.setIfInBounds_toArray, List.set_cons_zero, List.set_cons_succ]; rfl)
        refine take_ (i := 26) (N := some 50) (v := ?_) (a' := ?_) zY27 rfl rfl (take_ofW HT_.out HW_.out (by kernel_rfl)) (fun _ _ _ h => h) (Or.inl ⟨by rfl, ?_⟩) hHeld ?_ ?_
        rotate_left; (rintro w' ⟨s0, s1, s2, s3, s4⟩; go_simp; with_reducible rfl); rotate_left; (simp only [Act.put, List.setIfInBounds_toArray, List.set_cons_zero, List.set_cons_succ]; rfl)
        refine zpu 27 (some 51) zY28 ?_ rfl rfl (any_of HT_.out (by kernel_rfl)) (by rfl) ?_ ?_ ?_ ?_
        rotate_left; (intro w'; go_simp; with_reducible rfl); rotate_left; (simp only [Act.put, List.setIfInBounds_toArray, List.set_cons_zero, List.set_cons_succ]; rfl)
        refine zpu 28 (some 52) zY29 ?_ rfl rfl (any_of HT_.out (by kernel_rfl)) (by rfl) ?_ ?_ ?_ ?_
        rotate_left; (intro w'; go_simp; with_reducible rfl); rotate_left; (simp only [Act.put, List.setIfInBounds_toArray, List.set_cons_zero, List.set_cons_succ]; rfl)
        refine zpu 29 (some 53) zY30 ?_ rfl rfl (any_of HT_.out (by kernel_rfl)) (by rfl) ?_ ?_ ?_ ?_
        rotate_left; (intro w'; go_simp; with_reducible rfl); rotate_left; (simp only [Act.put, List.setIfInBounds_toArray, List.set_cons_zero, List.set_cons_succ]; rfl)
        refine zpu 30 (some 54) zY31 ?_ rfl rfl (any_of HT_.out (by kernel_rfl)) (by rfl) ?_ ?_ ?_ ?_
        rotate_left; (intro w'; go_simp; with_reducible rfl); rotate_left; (simp only [Act.put, List.setIfInBounds_toArray, List.set_cons_zero, List.set_cons_succ]; rfl)
        refine zpu 32 (some 56) zY53 ?_ rfl rfl (any_of HT_.out (by kernel_rfl)) (by rfl) ?_ ?_ ?_ ?_
        rotate_left; (intro w'; go_simp; with_reducible rfl); rotate_left; (simp only [Act.put, List.setIfInBounds_toArray, List.set_cons_zero, List.set_cons_succ]; rfl)
        refine zpu 33 (some 57) zY54 ?_ rfl rfl (any_of HT_.out (by kernel_rfl)) (by rfl) ?_ ?_ ?_ ?_
        rotate_left; (intro w'; go_simp; with_reducible rfl); rotate_left; (simp only [Act.put, List.setIfInBounds_toArray, List.set_cons_zero, List.set_cons_succ]; rfl)
        refine take_ (i := 31) (N := some 55) (v := ?_) (a' := ?_) zY34 rfl rfl (take_ofW HT_.out HW_.out (by kernel_rfl)) (fun _ _ _ h => h) (Or.inl ⟨by rfl, ?_⟩) hHeld ?_ ?_
        rotate_left; (rintro w' ⟨s0, s1, s2, s3, s4⟩; go_simp; with_reducible rfl); rotate_left; (simp only [Act.put, List.setIfInBounds_toArray, List.set_cons_zero, List.set_cons_succ]; rfl)
        refine take_ (i := 34) (N := some 58) (v := ?_) (a' := ?_) zY35 rfl rfl (take_ofW HT_.out HW_.out (by kernel_rfl)) (fun _ _ _ h => h) (Or.inl ⟨by rfl, ?_⟩) hHeld ?_ ?_
        rotate_left; (rintro w' ⟨s0, s1, s2, s3, s4⟩; go_simp; with_reducible rfl); rotate_left; (simp only [Act.put, List.setIfInBounds_toArray, List.set_cons_zero, List.set_cons_succ]; rfl)
        refine zpu 35 (some 59) zY36 ?_ rfl rfl (any_of HT_.out (by kernel_rfl)) (by rfl) ?_ ?_ ?_ ?_
        rotate_left; (intro w'; go_simp; with_reducible rfl); rotate_left; (simp only [Act.put, List.setIfInBounds_toArray, List.set_cons_zero, List.set_cons_succ]; rfl)
        refine zpu 36 (some 60) zY37 ?_ rfl rfl (any_of HT_.out (by kernel_rfl)) (by rfl) ?_ ?_ ?_ ?_
        rotate_left; (intro w'; go_simp; with_reducible rfl); rotate_left; (simp only [Act.put, List.setIfInBounds_toArray, List.set_cons_zero, List.set_cons_succ]; rfl)
        refine zpu 37 (some 61) zY38 ?_ rfl rfl (any_of HT_.out (by kernel_rfl)) (by rfl) ?_ ?_ ?_ ?_
        rotate_left; (intro w'; go_simp; with_reducible rfl); rotate_left; (simp only [Act.put, List.setIfInBounds_toArray, List.set_cons_zero, List.set_cons_succ]; rfl)
        refine zpu 38 (some 62) zY39 ?_ rfl rfl (any_of HT_.out (by kernel_rfl)) (by rfl) ?_ ?_ ?_ ?_
        rotate_left; (intro w'; go_simp; with_reducible rfl); rotate_left; (simp only [Act.put, List.setIfInBounds_toArray, List.set_cons_zero, List.set_cons_succ]; rfl)
        refine zpu 39 (some 63) zY40 ?_ rfl rfl (any_of HT_.out (by kernel_rfl)) (by rfl) ?_ ?_ ?_ ?_
        rotate_left; (intro w'; go_simp; with_reducible rfl); rotate_left; (simp only [Act.put, List.setIfInBounds_toArray, List.set_cons_zero, List.set_cons_succ]; rfl)
        refine zpu 40 (some 64) zY41 ?_ rfl rfl (any_of HT_.out (by kernel_rfl)) (by rfl) ?_ ?_ ?_ ?_
        rotate_left; (intro w'; go_simp; with_reducible rfl); rotate_left; (simp only [Act.put, List.setIfInBounds_toArray, List.set_cons_zero, List.set_cons_succ]; rfl)
        refine zpu 42 (some 66) zY42 ?_ rfl rfl (any_of HT_.out (by kernel_rfl)) (by rfl) ?_ ?_ ?_ ?_
        rotate_left; (intro w'; go_simp; with_reducible rfl); rotate_left; (simp only [Act.put, List.setIfInBounds_toArray, List.set_cons_zero, List.set_cons_succ]; rfl)
        refine take_ (i := 41) (N := some 65) (v := ?_) (a' := ?_) zY43 rfl rfl (take_ofW HT_.out HW_.out (by kernel_rfl)) (fun _ _ _ h => h) (Or.inl ⟨by rfl, ?_⟩) hHeld ?_ ?_
        rotate_left; (rintro w' ⟨s0, s1, s2, s3, s4⟩; go_simp; with_reducible rfl); rotate_left; (simp only [Act.put, List.setIfInBounds_toArray, List.set_cons_zero, List.set_cons_succ]; rfl)
        refine one_ (i := 43) (N := some 67) zY44 rfl rfl (one_of HT_.out (by kernel_rfl)) (by decide) (fun K hK => ?_)
        refine goes_ Try.func15 (by kernel_rfl) rfl #[.agg #[.int .i64 1, .int .i64 n2], .int .i64 b] (by rfl) rfl rfl (by simp only [List.map_toArray, List.map_cons, List.map_nil]; rfl) ?_
        with_reducible refine (hfx _).mono ?_
        rintro e w6 ⟨rfl, hb⟩
        refine ⟨_, rfl, ?_⟩
        refine hK.out _ _ ⟨(LsR.below hHeld hb).1, (LsR.below hHeld hb).2.1, (LsR.below hHeld hb).2.2.1, (LsR.below hHeld hb).2.2.2.1, (LsR.below hHeld hb).2.2.2.2⟩ (fun hHeld => ?_)
        clear hK K
        refine norm_ (a' := ?_) ?_ ?_
        rotate_left
        · show Act.put _ (some 67) _ = _
          simp only [Act.put, List.setIfInBounds_toArray, List.set_cons_zero, List.set_cons_succ, i64_w, i32_w]
          rfl
        refine zpu 44 (some 68) zY45 ?_ rfl rfl (any_of HT_.out (by kernel_rfl)) (by rfl) ?_ ?_ ?_ ?_
        rotate_left; (intro w'; go_simp; with_reducible rfl); rotate_left; (simp only [Act.put, List.setIfInBounds_toArray, List.set_cons_zero, List.set_cons_succ]; rfl)
        refine zpu 45 (some 69) zY46 ?_ rfl rfl (any_of HT_.out (by kernel_rfl)) (by rfl) ?_ ?_ ?_ ?_
        rotate_left; (intro w'; go_simp; with_reducible rfl); rotate_left; (simp only [Act.put, List.setIfInBounds_toArray, List.set_cons_zero, List.set_cons_succ]; rfl)
        refine zpo 46 (some 70) zY47 rfl rfl (any_of HT_.out (by kernel_rfl)) (by rfl) ?_ ?_ ?_
        rotate_left; (simp only [Act.put, List.setIfInBounds_toArray, List.set_cons_zero, List.set_cons_succ]; rfl)
        refine zpo 47 (some 71) zY48 rfl rfl (any_of HT_.out (by kernel_rfl)) (by rfl) ?_ ?_ ?_
        rotate_left; (simp only [Act.put, List.setIfInBounds_toArray, List.set_cons_zero, List.set_cons_succ]; rfl)
        refine zpo 48 (some 72) zY49 rfl rfl (any_of HT_.out (by kernel_rfl)) (by rfl) ?_ ?_ ?_
        rotate_left; (simp only [Act.put, List.setIfInBounds_toArray, List.set_cons_zero, List.set_cons_succ]; rfl)
        refine zpo 49 (some 73) zY50 rfl rfl (any_of HT_.out (by kernel_rfl)) (by rfl) ?_ ?_ ?_
        rotate_left; (simp only [Act.put, List.setIfInBounds_toArray, List.set_cons_zero, List.set_cons_succ]; rfl)
        refine zpu 50 (some 74) zY51 ?_ rfl rfl (any_of HT_.out (by kernel_rfl)) (by rfl) ?_ ?_ ?_ ?_
        rotate_left; (intro w'; go_simp; with_reducible rfl); rotate_left; (simp only [Act.put, List.setIfInBounds_toArray, List.set_cons_zero, List.set_cons_succ]; rfl)
        refine zpu 51 (some 75) zY52 ?_ rfl rfl (any_of HT_.out (by kernel_rfl)) (by rfl) ?_ ?_ ?_ ?_
        rotate_left; (intro w'; go_simp; with_reducible rfl); rotate_left; (simp only [Act.put, List.setIfInBounds_toArray, List.set_cons_zero, List.set_cons_succ]; rfl)
        refine done_ (done_of HT_.out (by kernel_rfl)) ?_
        have hS1 := hHeld
        have HR := Aside0.mk hS1.2.2.2.2
        clear hS0 hS1 hHeld
        go_wp2
        go_roundw
        case rel => exact .inr (.inr (.inr (.inl ⟨rfl, HR.out⟩)))
        case measure => simp [intOf]
      · have g0 : (k2 == 0) = false := by simpa using e0
        have g1 : (k2 == 1) = false := by simpa using e1
        go_wp2
        have hS0 : LsR 4 5 2 w.heap.size w2.heap.size w3.heap.size L Sa Ta _ _ _ _ w wr := ⟨q0, q1, q2, q3, HQ.out⟩
        clear q0 q1 q2 q3 HQ
        unfold LsR at hS0
        refine start_ (n := 52) (S := fun w' => w'.cell? ⟨w.heap.size, 4, none⟩ = some (.int .i64 k2) ∧ w'.cell? ⟨w.heap.size, 5, none⟩ = some (.int .i64 n2) ∧ w'.cell? ⟨w2.heap.size, 2, none⟩ = some (.int .i64 s) ∧ w'.cell? ⟨w3.heap.size, 2, none⟩ = some (.int .i64 t) ∧ LsS w.heap.size w2.heap.size w3.heap.size L Sa Ta w w') (ds := []) zY0 (by kernel_rfl) rfl rfl ⟨(LsR.below hS0 (below_drew1 (Below.refl _ _))).1, (LsR.below hS0 (below_drew1 (Below.refl _ _))).2.1, (LsR.below hS0 (below_drew1 (Below.refl _ _))).2.2.1, (LsR.below hS0 (below_drew1 (Below.refl _ _))).2.2.2.1, (LsR.below hS0 (below_drew1 (Below.refl _ _))).2.2.2.2⟩ (fun hHeld => ?_)
        refine with_tabW zls.tab9 zls.bits9 (fun HT_ HW_ => ?_)
        refine zpu 0 (some 24) zY1 ?_ rfl rfl (any_of HT_.out (by kernel_rfl)) (by rfl) ?_ ?_ ?_ ?_
        rotate_left; (intro w'; go_simp; with_reducible rfl); rotate_left; (simp only [Act.put, List.setIfInBounds_toArray, List.set_cons_zero, List.set_cons_succ]; rfl)
        refine zpu 1 (some 25) zY2 ?_ rfl rfl (any_of HT_.out (by kernel_rfl)) (by rfl) ?_ ?_ ?_ ?_
        rotate_left; (intro w'; go_simp; with_reducible rfl); rotate_left; (simp only [Act.put, List.setIfInBounds_toArray, List.set_cons_zero, List.set_cons_succ]; rfl)
        refine zpu 3 (some 27) zY3 ?_ rfl rfl (any_of HT_.out (by kernel_rfl)) (by rfl) ?_ ?_ ?_ ?_
        rotate_left; (intro w'; go_simp; with_reducible rfl); rotate_left; (simp only [Act.put, List.setIfInBounds_toArray, List.set_cons_zero, List.set_cons_succ]; rfl)
        refine zpu 4 (some 28) zY4 ?_ rfl rfl (any_of HT_.out (by kernel_rfl)) (by rfl) ?_ ?_ ?_ ?_
        rotate_left; (intro w'; go_simp; with_reducible rfl); rotate_left; (simp only [Act.put, List.setIfInBounds_toArray, List.set_cons_zero, List.set_cons_succ]; rfl)
        refine zpu 6 (some 30) zY5 ?_ rfl rfl (any_of HT_.out (by kernel_rfl)) (by rfl) ?_ ?_ ?_ ?_
        rotate_left; (intro w'; go_simp; with_reducible rfl); rotate_left; (simp only [Act.put, List.setIfInBounds_toArray, List.set_cons_zero, List.set_cons_succ]; rfl)
        refine take_ (i := 2) (N := some 26) (v := ?_) (a' := ?_) zY6 rfl rfl (take_ofW HT_.out HW_.out (by kernel_rfl)) (fun _ _ _ h => h) (Or.inl ⟨by rfl, ?_⟩) hHeld ?_ ?_
        rotate_left; (rintro w' ⟨s0, s1, s2, s3, s4⟩; go_simp; with_reducible rfl); rotate_left; (simp only [Act.put, List.setIfInBounds_toArray, List.set_cons_zero, List.set_cons_succ]; rfl)
        refine take_ (i := 5) (N := some 29) (v := ?_) (a' := ?_) zY7 rfl rfl (take_ofW HT_.out HW_.out (by kernel_rfl)) (fun _ _ _ h => h) (Or.inl ⟨by rfl, ?_⟩) hHeld ?_ ?_
        rotate_left; (rintro w' ⟨s0, s1, s2, s3, s4⟩; go_simp; with_reducible rfl); rotate_left; (simp only [Act.put, List.setIfInBounds_toArray, List.set_cons_zero, List.set_cons_succ]; rfl)
        refine one_ (i := 7) (N := some 31) zY8 rfl rfl (one_of HT_.out (by kernel_rfl)) (by decide) (fun K hK => ?_)
        refine goes_ Try.func13 (by kernel_rfl) rfl #[.agg #[.int .i64 k2, .int .i64 n2], .int .i64 b, .int .i64 0] (by rfl) rfl rfl (by simp only [List.map_toArray, List.map_cons, List.map_nil]; rfl) ?_
        with_reducible refine (hof _).mono ?_
        rintro e w5 ⟨rfl, hb⟩
        refine ⟨_, rfl, ?_⟩
        refine hK.out _ _ ⟨(LsR.below hHeld hb).1, (LsR.below hHeld hb).2.1, (LsR.below hHeld hb).2.2.1, (LsR.below hHeld hb).2.2.2.1, (LsR.below hHeld hb).2.2.2.2⟩ (fun hHeld => ?_)
        clear hK K
        refine norm_ (a' := ?_) ?_ ?_
        rotate_left
        · show Act.put _ (some 31) _ = _
          simp only [Act.put, List.setIfInBounds_toArray, List.set_cons_zero, List.set_cons_succ, i64_w, i32_w]
          rfl
        refine zpu 8 (some 32) zY9 ?_ rfl rfl (any_of HT_.out (by kernel_rfl)) (by rfl) ?_ ?_ ?_ ?_
        rotate_left; (intro w'; go_simp; with_reducible rfl); rotate_left; (simp only [Act.put, List.setIfInBounds_toArray, List.set_cons_zero, List.set_cons_succ]; rfl)
        refine zpu 9 (some 33) zY10 ?_ rfl rfl (any_of HT_.out (by kernel_rfl)) (by rfl) ?_ ?_ ?_ ?_
        rotate_left; (intro w'; go_simp; with_reducible rfl); rotate_left; (simp only [Act.put, List.setIfInBounds_toArray, List.set_cons_zero, List.set_cons_succ]; rfl)
        refine zpu 10 (some 34) zY11 ?_ rfl rfl (any_of HT_.out (by kernel_rfl)) (by rfl) ?_ ?_ ?_ ?_
        rotate_left; (intro w'; go_simp; with_reducible rfl); rotate_left; (simp only [Act.put, List.setIfInBounds_toArray, List.set_cons_zero, List.set_cons_succ]; rfl)
        refine zpu 11 (some 35) zY12 ?_ rfl rfl (any_of HT_.out (by kernel_rfl)) (by rfl) ?_ ?_ ?_ ?_
        rotate_left; (intro w'; go_simp; with_reducible rfl); rotate_left; (simp only [Act.put, List.setIfInBounds_toArray, List.set_cons_zero, List.set_cons_succ]; rfl)
        refine zpu 12 (some 36) zY13 ?_ rfl rfl (any_of HT_.out (by kernel_rfl)) (by rfl) ?_ ?_ ?_ ?_
        rotate_left; (intro w'; go_simp; with_reducible rfl); rotate_left; (simp only [Act.put, List.setIfInBounds_toArray, List.set_cons_zero, List.set_cons_succ]; rfl)
        refine take_ (i := 13) (N := some 37) (v := ?_) (a' := ?_) zY14 rfl rfl (take_ofW HT_.out HW_.out (by kernel_rfl)) (fun _ _ _ h => h) (Or.inl ⟨by rfl, ?_⟩) hHeld ?_ ?_
        rotate_left; (rintro w' ⟨s0, s1, s2, s3, s4⟩; go_simp; with_reducible rfl); rotate_left; (simp only [Act.put, List.setIfInBounds_toArray, List.set_cons_zero, List.set_cons_succ]; rfl)
        refine zpu 14 (some 38) zY15 ?_ rfl rfl (any_of HT_.out (by kernel_rfl)) (by rfl) ?_ ?_ ?_ ?_
        rotate_left; (intro w'; go_simp; with_reducible rfl); rotate_left; (simp only [Act.put, List.setIfInBounds_toArray, List.set_cons_zero, List.set_cons_succ]; rfl)
        refine zpu 15 (some 39) zY16 ?_ rfl rfl (any_of HT_.out (by kernel_rfl)) (by rfl) ?_ ?_ ?_ ?_
        rotate_left; (intro w'; go_simp; with_reducible rfl); rotate_left; (simp only [Act.put, List.setIfInBounds_toArray, List.set_cons_zero, List.set_cons_succ]; rfl)
        refine zpo 16 (some 40) zY17 rfl rfl (any_of HT_.out (by kernel_rfl)) (by rfl) ?_ ?_ ?_
        rotate_left; (simp only [Act.put, List.setIfInBounds_toArray, List.set_cons_zero, List.set_cons_succ]; rfl)
        refine zpo 17 (some 41) zY18 rfl rfl (any_of HT_.out (by kernel_rfl)) (by rfl) ?_ ?_ ?_
        rotate_left; (simp only [Act.put, List.setIfInBounds_toArray, List.set_cons_zero, List.set_cons_succ]; rfl)
        refine zpo 18 (some 42) zY19 rfl rfl (any_of HT_.out (by kernel_rfl)) (by rfl) ?_ ?_ ?_
        rotate_left; (simp only [Act.put, List.setIfInBounds_toArray, List.set_cons_zero, List.set_cons_succ]; rfl)
        refine zpo 19 (some 43) zY20 rfl rfl (any_of HT_.out (by kernel_rfl)) (by rfl) ?_ ?_ ?_
        rotate_left; (simp only [Act.put, List.setIfInBounds_toArray, List.set_cons_zero, List.set_cons_succ]; rfl)
        refine zpu 20 (some 44) zY21 ?_ rfl rfl (any_of HT_.out (by kernel_rfl)) (by rfl) ?_ ?_ ?_ ?_
        rotate_left; (intro w'; go_simp; with_reducible rfl); rotate_left; (simp only [Act.put, List.setIfInBounds_toArray, List.set_cons_zero, List.set_cons_succ]; rfl)
        refine zpu 21 (some 45) zY22 ?_ rfl rfl (any_of HT_.out (by kernel_rfl)) (by rfl) ?_ ?_ ?_ ?_
        rotate_left; (intro w'; go_simp; with_reducible rfl); rotate_left; (simp only [Act.put, List.setIfInBounds_toArray, List.set_cons_zero, List.set_cons_succ]; rfl)
        refine zpu 22 (some 46) zY23 ?_ rfl rfl (any_of HT_.out (by kernel_rfl)) (by rfl) ?_ ?_ ?_ ?_
        rotate_left; (intro w'; go_simp; with_reducible rfl); rotate_left; (simp only [Act.put, List.setIfInBounds_toArray, List.set_cons_zero, List.set_cons_succ]; rfl)
        refine zpu 23 (some 47) zY24 ?_ rfl rfl (any_of HT_.out (by kernel_rfl)) (by rfl) ?_ ?_ ?_ ?_
        rotate_left; (intro w'; go_simp; with_reducible rfl); rotate_left; (simp only [Act.put, List.setIfInBounds_toArray, List.set_cons_zero, List.set_cons_succ]; rfl)
        refine zpu 24 (some 48) zY25 ?_ rfl rfl (any_of HT_.out (by kernel_rfl)) (by rfl) ?_ ?_ ?_ ?_
        rotate_left; (intro w'; go_simp; with_reducible rfl); rotate_left; (simp only [Act.put, List.setIfInBounds_toArray, List.set_cons_zero, List.set_cons_succ]; rfl)
        refine zpu 25 (some 49) zY26 ?_ rfl rfl (any_of HT_.out (by kernel_rfl)) (by rfl) ?_ ?_ ?_ ?_
        rotate_left; (intro w'; go_simp; with_reducible rfl); rotate_left; (simp only [Act.put, List.setIfInBounds_toArray, List.set_cons_zero, List.set_cons_succ]; rfl)
        refine take_ (i := 26) (N := some 50) (v := ?_) (a' := ?_) zY27 rfl rfl (take_ofW HT_.out HW_.out (by kernel_rfl)) (fun _ _ _ h => h) (Or.inl ⟨by rfl, ?_⟩) hHeld ?_ ?_
        rotate_left; (rintro w' ⟨s0, s1, s2, s3, s4⟩; go_simp; with_reducible rfl); rotate_left; (simp only [Act.put, List.setIfInBounds_toArray, List.set_cons_zero, List.set_cons_succ]; rfl)
        refine zpu 27 (some 51) zY28 ?_ rfl rfl (any_of HT_.out (by kernel_rfl)) (by rfl) ?_ ?_ ?_ ?_
        rotate_left; (intro w'; go_simp; with_reducible rfl); rotate_left; (simp only [Act.put, List.setIfInBounds_toArray, List.set_cons_zero, List.set_cons_succ]; rfl)
        refine zpu 28 (some 52) zY29 ?_ rfl rfl (any_of HT_.out (by kernel_rfl)) (by rfl) ?_ ?_ ?_ ?_
        rotate_left; (intro w'; go_simp; with_reducible rfl); rotate_left; (simp only [Act.put, List.setIfInBounds_toArray, List.set_cons_zero, List.set_cons_succ]; rfl)
        refine zpo 29 (some 53) zY30 rfl rfl (any_of HT_.out (by kernel_rfl)) (by rfl) ?_ ?_ ?_
        rotate_left; (simp only [Act.put, List.setIfInBounds_toArray, List.set_cons_zero, List.set_cons_succ]; rfl)
        refine zpo 30 (some 54) zY31 rfl rfl (any_of HT_.out (by kernel_rfl)) (by rfl) ?_ ?_ ?_
        rotate_left; (simp only [Act.put, List.setIfInBounds_toArray, List.set_cons_zero, List.set_cons_succ]; rfl)
        refine zpo 31 (some 55) zY32 rfl rfl (any_of HT_.out (by kernel_rfl)) (by rfl) ?_ ?_ ?_
        rotate_left; (simp only [Act.put, List.setIfInBounds_toArray, List.set_cons_zero, List.set_cons_succ]; rfl)
        refine zpo 32 (some 56) zY33 rfl rfl (any_of HT_.out (by kernel_rfl)) (by rfl) ?_ ?_ ?_
        rotate_left; (simp only [Act.put, List.setIfInBounds_toArray, List.set_cons_zero, List.set_cons_succ]; rfl)
        refine zpo 33 (some 57) zY34 rfl rfl (any_of HT_.out (by kernel_rfl)) (by rfl) ?_ ?_ ?_
        rotate_left; (simp only [Act.put, List.setIfInBounds_toArray, List.set_cons_zero, List.set_cons_succ]; rfl)
        refine zpo 34 (some 58) zY35 rfl rfl (any_of HT_.out (by kernel_rfl)) (by rfl) ?_ ?_ ?_
        rotate_left; (simp only [Act.put, List.setIfInBounds_toArray, List.set_cons_zero, List.set_cons_succ]; rfl)
        refine zpo 35 (some 59) zY36 rfl rfl (any_of HT_.out (by kernel_rfl)) (by rfl) ?_ ?_ ?_
        rotate_left; (simp only [Act.put, List.setIfInBounds_toArray, List.set_cons_zero, List.set_cons_succ]; rfl)
        refine zpu 36 (some 60) zY37 ?_ rfl rfl (any_of HT_.out (by kernel_rfl)) (by rfl) ?_ ?_ ?_ ?_
        rotate_left; (intro w'; go_simp; with_reducible rfl); rotate_left; (simp only [Act.put, List.setIfInBounds_toArray, List.set_cons_zero, List.set_cons_succ]; rfl)
        refine zpu 37 (some 61) zY38 ?_ rfl rfl (any_of HT_.out (by kernel_rfl)) (by rfl) ?_ ?_ ?_ ?_
        rotate_left; (intro w'; go_simp; with_reducible rfl); rotate_left; (simp only [Act.put, List.setIfInBounds_toArray, List.set_cons_zero, List.set_cons_succ]; rfl)
        refine zpu 38 (some 62) zY39 ?_ rfl rfl (any_of HT_.out (by kernel_rfl)) (by rfl) ?_ ?_ ?_ ?_
        rotate_left; (intro w'; go_simp; with_reducible rfl); rotate_left; (simp only [Act.put, List.setIfInBounds_toArray, List.set_cons_zero, List.set_cons_succ]; rfl)
        refine zpu 39 (some 63) zY40 ?_ rfl rfl (any_of HT_.out (by kernel_rfl)) (by rfl) ?_ ?_ ?_ ?_
        rotate_left; (intro w'; go_simp; with_reducible rfl); rotate_left; (simp only [Act.put, List.setIfInBounds_toArray, List.set_cons_zero, List.set_cons_succ]; rfl)
        refine zpu 40 (some 64) zY41 ?_ rfl rfl (any_of HT_.out (by kernel_rfl)) (by rfl) ?_ ?_ ?_ ?_
        rotate_left; (intro w'; go_simp; with_reducible rfl); rotate_left; (simp only [Act.put, List.setIfInBounds_toArray, List.set_cons_zero, List.set_cons_succ]; rfl)
        refine zpu 42 (some 66) zY42 ?_ rfl rfl (any_of HT_.out (by kernel_rfl)) (by rfl) ?_ ?_ ?_ ?_
        rotate_left; (intro w'; go_simp; with_reducible rfl); rotate_left; (simp only [Act.put, List.setIfInBounds_toArray, List.set_cons_zero, List.set_cons_succ]; rfl)
        refine take_ (i := 41) (N := some 65) (v := ?_) (a' := ?_) zY43 rfl rfl (take_ofW HT_.out HW_.out (by kernel_rfl)) (fun _ _ _ h => h) (Or.inl ⟨by rfl, ?_⟩) hHeld ?_ ?_
        rotate_left; (rintro w' ⟨s0, s1, s2, s3, s4⟩; go_simp; with_reducible rfl); rotate_left; (simp only [Act.put, List.setIfInBounds_toArray, List.set_cons_zero, List.set_cons_succ]; rfl)
        refine one_ (i := 43) (N := some 67) zY44 rfl rfl (one_of HT_.out (by kernel_rfl)) (by decide) (fun K hK => ?_)
        refine goes_ Try.func15 (by kernel_rfl) rfl #[.agg #[.int .i64 k2, .int .i64 n2], .int .i64 b] (by rfl) rfl rfl (by simp only [List.map_toArray, List.map_cons, List.map_nil]; rfl) ?_
        with_reducible refine (hfx _).mono ?_
        rintro e w6 ⟨rfl, hb⟩
        refine ⟨_, rfl, ?_⟩
        refine hK.out _ _ ⟨(LsR.below hHeld hb).1, (LsR.below hHeld hb).2.1, (LsR.below hHeld hb).2.2.1, (LsR.below hHeld hb).2.2.2.1, (LsR.below hHeld hb).2.2.2.2⟩ (fun hHeld => ?_)
        clear hK K
        refine norm_ (a' := ?_) ?_ ?_
        rotate_left
        · show Act.put _ (some 67) _ = _
          simp only [Act.put, List.setIfInBounds_toArray, List.set_cons_zero, List.set_cons_succ, i64_w, i32_w]
          rfl
        refine zpu 44 (some 68) zY45 ?_ rfl rfl (any_of HT_.out (by kernel_rfl)) (by rfl) ?_ ?_ ?_ ?_
        rotate_left; (intro w'; go_simp; with_reducible rfl); rotate_left; (simp only [Act.put, List.setIfInBounds_toArray, List.set_cons_zero, List.set_cons_succ]; rfl)
        refine zpu 45 (some 69) zY46 ?_ rfl rfl (any_of HT_.out (by kernel_rfl)) (by rfl) ?_ ?_ ?_ ?_
        rotate_left; (intro w'; go_simp; with_reducible rfl); rotate_left; (simp only [Act.put, List.setIfInBounds_toArray, List.set_cons_zero, List.set_cons_succ]; rfl)
        refine zpo 46 (some 70) zY47 rfl rfl (any_of HT_.out (by kernel_rfl)) (by rfl) ?_ ?_ ?_
        rotate_left; (simp only [Act.put, List.setIfInBounds_toArray, List.set_cons_zero, List.set_cons_succ]; rfl)
        refine zpo 47 (some 71) zY48 rfl rfl (any_of HT_.out (by kernel_rfl)) (by rfl) ?_ ?_ ?_
        rotate_left; (simp only [Act.put, List.setIfInBounds_toArray, List.set_cons_zero, List.set_cons_succ]; rfl)
        refine zpo 48 (some 72) zY49 rfl rfl (any_of HT_.out (by kernel_rfl)) (by rfl) ?_ ?_ ?_
        rotate_left; (simp only [Act.put, List.setIfInBounds_toArray, List.set_cons_zero, List.set_cons_succ]; rfl)
        refine zpo 49 (some 73) zY50 rfl rfl (any_of HT_.out (by kernel_rfl)) (by rfl) ?_ ?_ ?_
        rotate_left; (simp only [Act.put, List.setIfInBounds_toArray, List.set_cons_zero, List.set_cons_succ]; rfl)
        refine zpu 50 (some 74) zY51 ?_ rfl rfl (any_of HT_.out (by kernel_rfl)) (by rfl) ?_ ?_ ?_ ?_
        rotate_left; (intro w'; go_simp; with_reducible rfl); rotate_left; (simp only [Act.put, List.setIfInBounds_toArray, List.set_cons_zero, List.set_cons_succ]; rfl)
        refine zpu 51 (some 75) zY52 ?_ rfl rfl (any_of HT_.out (by kernel_rfl)) (by rfl) ?_ ?_ ?_ ?_
        rotate_left; (intro w'; go_simp; with_reducible rfl); rotate_left; (simp only [Act.put, List.setIfInBounds_toArray, List.set_cons_zero, List.set_cons_succ]; rfl)
        refine done_ (done_of HT_.out (by kernel_rfl)) ?_
        have hS1 := hHeld
        have HR := Aside0.mk hS1.2.2.2.2
        clear hS0 hS1 hHeld
        go_wp2
        go_roundw
        case rel => exact .inr (.inr (.inr (.inl ⟨rfl, HR.out⟩)))
        case measure => simp [intOf]
      · have g0 : (k2 == 0) = false := by simpa using e0
        have g1 : (k2 == 1) = false := by simpa using e1
        go_wp2
        have hS0 : LsR 4 5 2 w.heap.size w2.heap.size w3.heap.size L Sa Ta _ _ _ _ w wr := ⟨q0, q1, q2, q3, HQ.out⟩
        clear q0 q1 q2 q3 HQ
        unfold LsR at hS0
        refine start_ (n := 52) (S := fun w' => w'.cell? ⟨w.heap.size, 4, none⟩ = some (.int .i64 k2) ∧ w'.cell? ⟨w.heap.size, 5, none⟩ = some (.int .i64 n2) ∧ w'.cell? ⟨w2.heap.size, 2, none⟩ = some (.int .i64 0) ∧ w'.cell? ⟨w3.heap.size, 2, none⟩ = some (.int .i64 t) ∧ LsS w.heap.size w2.heap.size w3.heap.size L Sa Ta w w') (ds := []) zY0 (by kernel_rfl) rfl rfl ⟨(LsR.below hS0 (below_drew1 (Below.refl _ _))).1, (LsR.below hS0 (below_drew1 (Below.refl _ _))).2.1, (LsR.below hS0 (below_drew1 (Below.refl _ _))).2.2.1, (LsR.below hS0 (below_drew1 (Below.refl _ _))).2.2.2.1, (LsR.below hS0 (below_drew1 (Below.refl _ _))).2.2.2.2⟩ (fun hHeld => ?_)
        refine with_tabW zls.tab9 zls.bits9 (fun HT_ HW_ => ?_)
        refine zpu 0 (some 24) zY1 ?_ rfl rfl (any_of HT_.out (by kernel_rfl)) (by rfl) ?_ ?_ ?_ ?_
        rotate_left; (intro w'; go_simp; with_reducible rfl); rotate_left; (simp only [Act.put, List.setIfInBounds_toArray, List.set_cons_zero, List.set_cons_succ]; rfl)
        refine zpu 1 (some 25) zY2 ?_ rfl rfl (any_of HT_.out (by kernel_rfl)) (by rfl) ?_ ?_ ?_ ?_
        rotate_left; (intro w'; go_simp; with_reducible rfl); rotate_left; (simp only [Act.put, List.setIfInBounds_toArray, List.set_cons_zero, List.set_cons_succ]; rfl)
        refine zpu 3 (some 27) zY3 ?_ rfl rfl (any_of HT_.out (by kernel_rfl)) (by rfl) ?_ ?_ ?_ ?_
        rotate_left; (intro w'; go_simp; with_reducible rfl); rotate_left; (simp only [Act.put, List.setIfInBounds_toArray, List.set_cons_zero, List.set_cons_succ]; rfl)
        refine zpu 4 (some 28) zY4 ?_ rfl rfl (any_of HT_.out (by kernel_rfl)) (by rfl) ?_ ?_ ?_ ?_
        rotate_left; (intro w'; go_simp; with_reducible rfl); rotate_left; (simp only [Act.put, List.setIfInBounds_toArray, List.set_cons_zero, List.set_cons_succ]; rfl)
        refine zpu 6 (some 30) zY5 ?_ rfl rfl (any_of HT_.out (by kernel_rfl)) (by rfl) ?_ ?_ ?_ ?_
        rotate_left; (intro w'; go_simp; with_reducible rfl); rotate_left; (simp only [Act.put, List.setIfInBounds_toArray, List.set_cons_zero, List.set_cons_succ]; rfl)
        refine take_ (i := 2) (N := some 26) (v := ?_) (a' := ?_) zY6 rfl rfl (take_ofW HT_.out HW_.out (by kernel_rfl)) (fun _ _ _ h => h) (Or.inl ⟨by rfl, ?_⟩) hHeld ?_ ?_
        rotate_left; (rintro w' ⟨s0, s1, s2, s3, s4⟩; go_simp; with_reducible rfl); rotate_left; (simp only [Act.put, List.setIfInBounds_toArray, List.set_cons_zero, List.set_cons_succ]; rfl)
        refine take_ (i := 5) (N := some 29) (v := ?_) (a' := ?_) zY7 rfl rfl (take_ofW HT_.out HW_.out (by kernel_rfl)) (fun _ _ _ h => h) (Or.inl ⟨by rfl, ?_⟩) hHeld ?_ ?_
        rotate_left; (rintro w' ⟨s0, s1, s2, s3, s4⟩; go_simp; with_reducible rfl); rotate_left; (simp only [Act.put, List.setIfInBounds_toArray, List.set_cons_zero, List.set_cons_succ]; rfl)
        refine one_ (i := 7) (N := some 31) zY8 rfl rfl (one_of HT_.out (by kernel_rfl)) (by decide) (fun K hK => ?_)
        refine goes_ Try.func13 (by kernel_rfl) rfl #[.agg #[.int .i64 k2, .int .i64 n2], .int .i64 b, .int .i64 0] (by rfl) rfl rfl (by simp only [List.map_toArray, List.map_cons, List.map_nil]; rfl) ?_
        with_reducible refine (hof _).mono ?_
        rintro e w5 ⟨rfl, hb⟩
        refine ⟨_, rfl, ?_⟩
        refine hK.out _ _ ⟨(LsR.below hHeld hb).1, (LsR.below hHeld hb).2.1, (LsR.below hHeld hb).2.2.1, (LsR.below hHeld hb).2.2.2.1, (LsR.below hHeld hb).2.2.2.2⟩ (fun hHeld => ?_)
        clear hK K
        refine norm_ (a' := ?_) ?_ ?_
        rotate_left
        · show Act.put _ (some 31) _ = _
          simp only [Act.put, List.setIfInBounds_toArray, List.set_cons_zero, List.set_cons_succ, i64_w, i32_w]
          rfl
        refine zpu 8 (some 32) zY9 ?_ rfl rfl (any_of HT_.out (by kernel_rfl)) (by rfl) ?_ ?_ ?_ ?_
        rotate_left; (intro w'; go_simp; with_reducible rfl); rotate_left; (simp only [Act.put, List.setIfInBounds_toArray, List.set_cons_zero, List.set_cons_succ]; rfl)
        refine zpu 9 (some 33) zY10 ?_ rfl rfl (any_of HT_.out (by kernel_rfl)) (by rfl) ?_ ?_ ?_ ?_
        rotate_left; (intro w'; go_simp; with_reducible rfl); rotate_left; (simp only [Act.put, List.setIfInBounds_toArray, List.set_cons_zero, List.set_cons_succ]; rfl)
        refine zpu 10 (some 34) zY11 ?_ rfl rfl (any_of HT_.out (by kernel_rfl)) (by rfl) ?_ ?_ ?_ ?_
        rotate_left; (intro w'; go_simp; with_reducible rfl); rotate_left; (simp only [Act.put, List.setIfInBounds_toArray, List.set_cons_zero, List.set_cons_succ]; rfl)
        refine zpu 11 (some 35) zY12 ?_ rfl rfl (any_of HT_.out (by kernel_rfl)) (by rfl) ?_ ?_ ?_ ?_
        rotate_left; (intro w'; go_simp; with_reducible rfl); rotate_left; (simp only [Act.put, List.setIfInBounds_toArray, List.set_cons_zero, List.set_cons_succ]; rfl)
        refine zpu 12 (some 36) zY13 ?_ rfl rfl (any_of HT_.out (by kernel_rfl)) (by rfl) ?_ ?_ ?_ ?_
        rotate_left; (intro w'; go_simp; with_reducible rfl); rotate_left; (simp only [Act.put, List.setIfInBounds_toArray, List.set_cons_zero, List.set_cons_succ]; rfl)
        refine take_ (i := 13) (N := some 37) (v := ?_) (a' := ?_) zY14 rfl rfl (take_ofW HT_.out HW_.out (by kernel_rfl)) (fun _ _ _ h => h) (Or.inl ⟨by rfl, ?_⟩) hHeld ?_ ?_
        rotate_left; (rintro w' ⟨s0, s1, s2, s3, s4⟩; go_simp; with_reducible rfl); rotate_left; (simp only [Act.put, List.setIfInBounds_toArray, List.set_cons_zero, List.set_cons_succ]; rfl)
        refine zpu 14 (some 38) zY15 ?_ rfl rfl (any_of HT_.out (by kernel_rfl)) (by rfl) ?_ ?_ ?_ ?_
        rotate_left; (intro w'; go_simp; with_reducible rfl); rotate_left; (simp only [Act.put, List.setIfInBounds_toArray, List.set_cons_zero, List.set_cons_succ]; rfl)
        refine zpu 15 (some 39) zY16 ?_ rfl rfl (any_of HT_.out (by kernel_rfl)) (by rfl) ?_ ?_ ?_ ?_
        rotate_left; (intro w'; go_simp; with_reducible rfl); rotate_left; (simp only [Act.put, List.setIfInBounds_toArray, List.set_cons_zero, List.set_cons_succ]; rfl)
        refine zpo 16 (some 40) zY17 rfl rfl (any_of HT_.out (by kernel_rfl)) (by rfl) ?_ ?_ ?_
        rotate_left; (simp only [Act.put, List.setIfInBounds_toArray, List.set_cons_zero, List.set_cons_succ]; rfl)
        refine zpo 17 (some 41) zY18 rfl rfl (any_of HT_.out (by kernel_rfl)) (by rfl) ?_ ?_ ?_
        rotate_left; (simp only [Act.put, List.setIfInBounds_toArray, List.set_cons_zero, List.set_cons_succ]; rfl)
        refine zpo 18 (some 42) zY19 rfl rfl (any_of HT_.out (by kernel_rfl)) (by rfl) ?_ ?_ ?_
        rotate_left; (simp only [Act.put, List.setIfInBounds_toArray, List.set_cons_zero, List.set_cons_succ]; rfl)
        refine zpo 19 (some 43) zY20 rfl rfl (any_of HT_.out (by kernel_rfl)) (by rfl) ?_ ?_ ?_
        rotate_left; (simp only [Act.put, List.setIfInBounds_toArray, List.set_cons_zero, List.set_cons_succ]; rfl)
        refine zpu 20 (some 44) zY21 ?_ rfl rfl (any_of HT_.out (by kernel_rfl)) (by rfl) ?_ ?_ ?_ ?_
        rotate_left; (intro w'; go_simp; with_reducible rfl); rotate_left; (simp only [Act.put, List.setIfInBounds_toArray, List.set_cons_zero, List.set_cons_succ]; rfl)
        refine zpu 21 (some 45) zY22 ?_ rfl rfl (any_of HT_.out (by kernel_rfl)) (by rfl) ?_ ?_ ?_ ?_
        rotate_left; (intro w'; go_simp; with_reducible rfl); rotate_left; (simp only [Act.put, List.setIfInBounds_toArray, List.set_cons_zero, List.set_cons_succ]; rfl)
        refine zpu 22 (some 46) zY23 ?_ rfl rfl (any_of HT_.out (by kernel_rfl)) (by rfl) ?_ ?_ ?_ ?_
        rotate_left; (intro w'; go_simp; with_reducible rfl); rotate_left; (simp only [Act.put, List.setIfInBounds_toArray, List.set_cons_zero, List.set_cons_succ]; rfl)
        refine zpu 23 (some 47) zY24 ?_ rfl rfl (any_of HT_.out (by kernel_rfl)) (by rfl) ?_ ?_ ?_ ?_
        rotate_left; (intro w'; go_simp; with_reducible rfl); rotate_left; (simp only [Act.put, List.setIfInBounds_toArray, List.set_cons_zero, List.set_cons_succ]; rfl)
        refine zpu 24 (some 48) zY25 ?_ rfl rfl (any_of HT_.out (by kernel_rfl)) (by rfl) ?_ ?_ ?_ ?_
        rotate_left; (intro w'; go_simp; with_reducible rfl); rotate_left; (simp only [Act.put, List.setIfInBounds_toArray, List.set_cons_zero, List.set_cons_succ]; rfl)
        refine zpu 25 (some 49) zY26 ?_ rfl rfl (any_of HT_.out (by kernel_rfl)) (by rfl) ?_ ?_ ?_ ?_
        rotate_left; (intro w'; go_simp; with_reducible rfl); rotate_left; (simp only [Act.put, List.setIfInBounds_toArray, List.set_cons_zero, List.set_cons_succ]; rfl)
        refine take_ (i := 26) (N := some 50) (v := ?_) (a' := ?_) zY27 rfl rfl (take_ofW HT_.out HW_.out (by kernel_rfl)) (fun _ _ _ h => h) (Or.inl ⟨by rfl, ?_⟩) hHeld ?_ ?_
        rotate_left; (rintro w' ⟨s0, s1, s2, s3, s4⟩; go_simp; with_reducible rfl); rotate_left; (simp only [Act.put, List.setIfInBounds_toArray, List.set_cons_zero, List.set_cons_succ]; rfl)
        refine zpu 27 (some 51) zY28 ?_ rfl rfl (any_of HT_.out (by kernel_rfl)) (by rfl) ?_ ?_ ?_ ?_
        rotate_left; (intro w'; go_simp; with_reducible rfl); rotate_left; (simp only [Act.put, List.setIfInBounds_toArray, List.set_cons_zero, List.set_cons_succ]; rfl)
        refine zpu 28 (some 52) zY29 ?_ rfl rfl (any_of HT_.out (by kernel_rfl)) (by rfl) ?_ ?_ ?_ ?_
        rotate_left; (intro w'; go_simp; with_reducible rfl); rotate_left; (simp only [Act.put, List.setIfInBounds_toArray, List.set_cons_zero, List.set_cons_succ]; rfl)
        refine zpo 29 (some 53) zY30 rfl rfl (any_of HT_.out (by kernel_rfl)) (by rfl) ?_ ?_ ?_
        rotate_left; (simp only [Act.put, List.setIfInBounds_toArray, List.set_cons_zero, List.set_cons_succ]; rfl)
        refine zpo 30 (some 54) zY31 rfl rfl (any_of HT_.out (by kernel_rfl)) (by rfl) ?_ ?_ ?_
        rotate_left; (simp only [Act.put, List.setIfInBounds_toArray, List.set_cons_zero, List.set_cons_succ]; rfl)
        refine zpo 31 (some 55) zY32 rfl rfl (any_of HT_.out (by kernel_rfl)) (by rfl) ?_ ?_ ?_
        rotate_left; (simp only [Act.put, List.setIfInBounds_toArray, List.set_cons_zero, List.set_cons_succ]; rfl)
        refine zpo 32 (some 56) zY33 rfl rfl (any_of HT_.out (by kernel_rfl)) (by rfl) ?_ ?_ ?_
        rotate_left; (simp only [Act.put, List.setIfInBounds_toArray, List.set_cons_zero, List.set_cons_succ]; rfl)
        refine zpo 33 (some 57) zY34 rfl rfl (any_of HT_.out (by kernel_rfl)) (by rfl) ?_ ?_ ?_
        rotate_left; (simp only [Act.put, List.setIfInBounds_toArray, List.set_cons_zero, List.set_cons_succ]; rfl)
        refine zpo 34 (some 58) zY35 rfl rfl (any_of HT_.out (by kernel_rfl)) (by rfl) ?_ ?_ ?_
        rotate_left; (simp only [Act.put, List.setIfInBounds_toArray, List.set_cons_zero, List.set_cons_succ]; rfl)
        refine zpo 35 (some 59) zY36 rfl rfl (any_of HT_.out (by kernel_rfl)) (by rfl) ?_ ?_ ?_
        rotate_left; (simp only [Act.put, List.setIfInBounds_toArray, List.set_cons_zero, List.set_cons_succ]; rfl)
        refine zpu 36 (some 60) zY37 ?_ rfl rfl (any_of HT_.out (by kernel_rfl)) (by rfl) ?_ ?_ ?_ ?_
        rotate_left; (intro w'; go_simp; with_reducible rfl); rotate_left; (simp only [Act.put, List.setIfInBounds_toArray, List.set_cons_zero, List.set_cons_succ]; rfl)
        refine zpu 37 (some 61) zY38 ?_ rfl rfl (any_of HT_.out (by kernel_rfl)) (by rfl) ?_ ?_ ?_ ?_
        rotate_left; (intro w'; go_simp; with_reducible rfl); rotate_left; (simp only [Act.put, List.setIfInBounds_toArray, List.set_cons_zero, List.set_cons_succ]; rfl)
        refine zpu 38 (some 62) zY39 ?_ rfl rfl (any_of HT_.out (by kernel_rfl)) (by rfl) ?_ ?_ ?_ ?_
        rotate_left; (intro w'; go_simp; with_reducible rfl); rotate_left; (simp only [Act.put, List.setIfInBounds_toArray, List.set_cons_zero, List.set_cons_succ]; rfl)
        refine zpu 39 (some 63) zY40 ?_ rfl rfl (any_of HT_.out (by kernel_rfl)) (by rfl) ?_ ?_ ?_ ?_
        rotate_left; (intro w'; go_simp; with_reducible rfl); rotate_left; (simp only [Act.put, List.setIfInBounds_toArray, List.set_cons_zero, List.set_cons_succ]; rfl)
        refine zpu 40 (some 64) zY41 ?_ rfl rfl (any_of HT_.out (by kernel_rfl)) (by rfl) ?_ ?_ ?_ ?_
        rotate_left; (intro w'; go_simp; with_reducible rfl); rotate_left; (simp only [Act.put, List.setIfInBounds_toArray, List.set_cons_zero, List.set_cons_succ]; rfl)
        refine zpu 42 (some 66) zY42 ?_ rfl rfl (any_of HT_.out (by kernel_rfl)) (by rfl) ?_ ?_ ?_ ?_
        rotate_left; (intro w'; go_simp; with_reducible rfl); rotate_left; (simp only [Act.put, List.setIfInBounds_toArray, List.set_cons_zero, List.set_cons_succ]; rfl)
        refine take_ (i := 41) (N := some 65) (v := ?_) (a' := ?_) zY43 rfl rfl (take_ofW HT_.out HW_.out (by kernel_rfl)) (fun _ _ _ h => h) (Or.inl ⟨by rfl, ?_⟩) hHeld ?_ ?_
        rotate_left; (rintro w' ⟨s0, s1, s2, s3, s4⟩; go_simp; with_reducible rfl); rotate_left; (simp only [Act.put, List.setIfInBounds_toArray, List.set_cons_zero, List.set_cons_succ]; rfl)
        refine one_ (i := 43) (N := some 67) zY44 rfl rfl (one_of HT_.out (by kernel_rfl)) (by decide) (fun K hK => ?_)
        refine goes_ Try.func15 (by kernel_rfl) rfl #[.agg #[.int .i64 k2, .int .i64 n2], .int .i64 b] (by rfl) rfl rfl (by simp only [List.map_toArray, List.map_cons, List.map_nil]; rfl) ?_
        with_reducible refine (hfx _).mono ?_
        rintro e w6 ⟨rfl, hb⟩
        refine ⟨_, rfl, ?_⟩
        refine hK.out _ _ ⟨(LsR.below hHeld hb).1, (LsR.below hHeld hb).2.1, (LsR.below hHeld hb).2.2.1, (LsR.below hHeld hb).2.2.2.1, (LsR.below hHeld hb).2.2.2.2⟩ (fun hHeld => ?_)
        clear hK K
        refine norm_ (a' := ?_) ?_ ?_
        rotate_left
        · show Act.put _ (some 67) _ = _
          simp only [Act.put, List.setIfInBounds_toArray, List.set_cons_zero, List.set_cons_succ, i64_w, i32_w]
          rfl
        refine zpu 44 (some 68) zY45 ?_ rfl rfl (any_of HT_.out (by kernel_rfl)) (by rfl) ?_ ?_ ?_ ?_
        rotate_left; (intro w'; go_simp; with_reducible rfl); rotate_left; (simp only [Act.put, List.setIfInBounds_toArray, List.set_cons_zero, List.set_cons_succ]; rfl)
        refine zpu 45 (some 69) zY46 ?_ rfl rfl (any_of HT_.out (by kernel_rfl)) (by rfl) ?_ ?_ ?_ ?_
        rotate_left; (intro w'; go_simp; with_reducible rfl); rotate_left; (simp only [Act.put, List.setIfInBounds_toArray, List.set_cons_zero, List.set_cons_succ]; rfl)
        refine zpu 46 (some 70) zY47 ?_ rfl rfl (any_of HT_.out (by kernel_rfl)) (by rfl) ?_ ?_ ?_ ?_
        rotate_left; (intro w'; go_simp; with_reducible rfl); rotate_left; (simp only [Act.put, List.setIfInBounds_toArray, List.set_cons_zero, List.set_cons_succ]; rfl)
        refine zpu 47 (some 71) zY48 ?_ rfl rfl (any_of HT_.out (by kernel_rfl)) (by rfl) ?_ ?_ ?_ ?_
        rotate_left; (intro w'; go_simp; with_reducible rfl); rotate_left; (simp only [Act.put, List.setIfInBounds_toArray, List.set_cons_zero, List.set_cons_succ]; rfl)
        refine take_ (i := 48) (N := some 72) (v := ?_) (a' := ?_) zY49 rfl rfl (take_ofW HT_.out HW_.out (by kernel_rfl)) (fun _ _ _ h => h) (Or.inl ⟨by rfl, ?_⟩) hHeld ?_ ?_
        rotate_left; (rintro w' ⟨s0, s1, s2, s3, s4⟩; go_simp; with_reducible rfl); rotate_left; (simp only [Act.put, List.setIfInBounds_toArray, List.set_cons_zero, List.set_cons_succ]; rfl)
        refine zpu 49 (some 73) zY50 ?_ rfl rfl (any_of HT_.out (by kernel_rfl)) (by rfl) ?_ ?_ ?_ ?_
        rotate_left; (intro w'; go_simp; with_reducible rfl); rotate_left; (simp only [Act.put, List.setIfInBounds_toArray, List.set_cons_zero, List.set_cons_succ]; rfl)
        refine zpu 50 (some 74) zY51 ?_ rfl rfl (any_of HT_.out (by kernel_rfl)) (by rfl) ?_ ?_ ?_ ?_
        rotate_left; (intro w'; go_simp; with_reducible rfl); rotate_left; (simp only [Act.put, List.setIfInBounds_toArray, List.set_cons_zero, List.set_cons_succ]; rfl)
        refine zpu 51 (some 75) zY52 ?_ rfl rfl (any_of HT_.out (by kernel_rfl)) (by rfl) ?_ ?_ ?_ ?_
        rotate_left; (intro w'; go_simp; with_reducible rfl); rotate_left; (simp only [Act.put, List.setIfInBounds_toArray, List.set_cons_zero, List.set_cons_succ]; rfl)
        refine done_ (done_of HT_.out (by kernel_rfl)) ?_
        have hS1 := hHeld
        have HR := Aside0.mk hS1.2.2.2.2
        clear hS0 hS1 hHeld
        go_wp2
        go_roundw
        case rel => exact .inr (.inr (.inr (.inl ⟨rfl, HR.out⟩)))
        case measure => simp [intOf]
    · have hof := zy_of k3 n3 b 0
      have hfx := zy_fixed k3 n3 b
      have q0 : wr.cell? ⟨w.heap.size, 6, none⟩ = some (.int .i64 k3) := (blk_cell hR.1 6).trans rfl
      have q1 : wr.cell? ⟨w.heap.size, 7, none⟩ = some (.int .i64 n3) := (blk_cell hR.1 7).trans rfl
      have q2 : wr.cell? ⟨w2.heap.size, 3, none⟩ = some (.int .i64 (vof k3 n3 b 0)) := (blk_cell hR.2.1 3).trans rfl
      have q3 : wr.cell? ⟨w3.heap.size, 3, none⟩ = some (.int .i64 (vof k3 n3 c 0)) := (blk_cell hR.2.2.1 3).trans rfl
      have HQ := Aside0.mk hR
      clear hR
      have hcase := zy_cases k3 n3 b c
      generalize hL : (#[.int .i64 k0, .int .i64 n0, .int .i64 k1, .int .i64 n1, .int .i64 k2, .int .i64 n2, .int .i64 k3, .int .i64 n3] : Array Value) = L at *
      generalize hSb : (#[.int .i64 (vof k0 n0 b 0), .int .i64 (vof k1 n1 b 0), .int .i64 (vof k2 n2 b 0), .int .i64 (vof k3 n3 b 0)] : Array Value) = Sa at *
      generalize hTb : (#[.int .i64 (vof k0 n0 c 0), .int .i64 (vof k1 n1 c 0), .int .i64 (vof k2 n2 c 0), .int .i64 (vof k3 n3 c 0)] : Array Value) = Ta at *
      clear hL hSb hTb
      generalize vof k3 n3 b 0 = s at *
      generalize vof k3 n3 c 0 = t at *
      generalize vfixed k3 b = f at *
      rcases hcase with ⟨rfl, rfl, rfl⟩ | ⟨rfl, rfl, rfl⟩ | ⟨e0, e1, rfl⟩ | ⟨e0, e1, rfl, rfl⟩
      · skip
        go_wp2
        have hS0 : LsR 6 7 3 w.heap.size w2.heap.size w3.heap.size L Sa Ta _ _ _ _ w wr := ⟨q0, q1, q2, q3, HQ.out⟩
        clear q0 q1 q2 q3 HQ
        unfold LsR at hS0
        refine start_ (n := 52) (S := fun w' => w'.cell? ⟨w.heap.size, 6, none⟩ = some (.int .i64 0) ∧ w'.cell? ⟨w.heap.size, 7, none⟩ = some (.int .i64 n3) ∧ w'.cell? ⟨w2.heap.size, 3, none⟩ = some (.int .i64 0) ∧ w'.cell? ⟨w3.heap.size, 3, none⟩ = some (.int .i64 t) ∧ LsS w.heap.size w2.heap.size w3.heap.size L Sa Ta w w') (ds := []) zY0 (by kernel_rfl) rfl rfl ⟨(LsR.below hS0 (below_drew1 (Below.refl _ _))).1, (LsR.below hS0 (below_drew1 (Below.refl _ _))).2.1, (LsR.below hS0 (below_drew1 (Below.refl _ _))).2.2.1, (LsR.below hS0 (below_drew1 (Below.refl _ _))).2.2.2.1, (LsR.below hS0 (below_drew1 (Below.refl _ _))).2.2.2.2⟩ (fun hHeld => ?_)
        refine with_tabW zls.tab9 zls.bits9 (fun HT_ HW_ => ?_)
        refine zpu 0 (some 24) zY1 ?_ rfl rfl (any_of HT_.out (by kernel_rfl)) (by rfl) ?_ ?_ ?_ ?_
        rotate_left; (intro w'; go_simp; with_reducible rfl); rotate_left; (simp only [Act.put, List.setIfInBounds_toArray, List.set_cons_zero, List.set_cons_succ]; rfl)
        refine zpu 1 (some 25) zY2 ?_ rfl rfl (any_of HT_.out (by kernel_rfl)) (by rfl) ?_ ?_ ?_ ?_
        rotate_left; (intro w'; go_simp; with_reducible rfl); rotate_left; (simp only [Act.put, List.setIfInBounds_toArray, List.set_cons_zero, List.set_cons_succ]; rfl)
        refine zpu 3 (some 27) zY3 ?_ rfl rfl (any_of HT_.out (by kernel_rfl)) (by rfl) ?_ ?_ ?_ ?_
        rotate_left; (intro w'; go_simp; with_reducible rfl); rotate_left; (simp only [Act.put, List.setIfInBounds_toArray, List.set_cons_zero, List.set_cons_succ]; rfl)
        refine zpu 4 (some 28) zY4 ?_ rfl rfl (any_of HT_.out (by kernel_rfl)) (by rfl) ?_ ?_ ?_ ?_
        rotate_left; (intro w'; go_simp; with_reducible rfl); rotate_left; (simp only [Act.put, List.setIfInBounds_toArray, List.set_cons_zero, List.set_cons_succ]; rfl)
        refine zpu 6 (some 30) zY5 ?_ rfl rfl (any_of HT_.out (by kernel_rfl)) (by rfl) ?_ ?_ ?_ ?_
        rotate_left; (intro w'; go_simp; with_reducible rfl); rotate_left; (simp only [Act.put, List.setIfInBounds_toArray, List.set_cons_zero, List.set_cons_succ]; rfl)
        refine take_ (i := 2) (N := some 26) (v := ?_) (a' := ?_) zY6 rfl rfl (take_ofW HT_.out HW_.out (by kernel_rfl)) (fun _ _ _ h => h) (Or.inl ⟨by rfl, ?_⟩) hHeld ?_ ?_
        rotate_left; (rintro w' ⟨s0, s1, s2, s3, s4⟩; go_simp; with_reducible rfl); rotate_left; (simp only [Act.put, List.setIfInBounds_toArray, List.set_cons_zero, List.set_cons_succ]; rfl)
        refine take_ (i := 5) (N := some 29) (v := ?_) (a' := ?_) zY7 rfl rfl (take_ofW HT_.out HW_.out (by kernel_rfl)) (fun _ _ _ h => h) (Or.inl ⟨by rfl, ?_⟩) hHeld ?_ ?_
        rotate_left; (rintro w' ⟨s0, s1, s2, s3, s4⟩; go_simp; with_reducible rfl); rotate_left; (simp only [Act.put, List.setIfInBounds_toArray, List.set_cons_zero, List.set_cons_succ]; rfl)
        refine one_ (i := 7) (N := some 31) zY8 rfl rfl (one_of HT_.out (by kernel_rfl)) (by decide) (fun K hK => ?_)
        refine goes_ Try.func13 (by kernel_rfl) rfl #[.agg #[.int .i64 0, .int .i64 n3], .int .i64 b, .int .i64 0] (by rfl) rfl rfl (by simp only [List.map_toArray, List.map_cons, List.map_nil]; rfl) ?_
        with_reducible refine (hof _).mono ?_
        rintro e w5 ⟨rfl, hb⟩
        refine ⟨_, rfl, ?_⟩
        refine hK.out _ _ ⟨(LsR.below hHeld hb).1, (LsR.below hHeld hb).2.1, (LsR.below hHeld hb).2.2.1, (LsR.below hHeld hb).2.2.2.1, (LsR.below hHeld hb).2.2.2.2⟩ (fun hHeld => ?_)
        clear hK K
        refine norm_ (a' := ?_) ?_ ?_
        rotate_left
        · show Act.put _ (some 31) _ = _
          simp only [Act.put, List.setIfInBounds_toArray, List.set_cons_zero, List.set_cons_succ, i64_w, i32_w]
          rfl
        refine zpu 8 (some 32) zY9 ?_ rfl rfl (any_of HT_.out (by kernel_rfl)) (by rfl) ?_ ?_ ?_ ?_
        rotate_left; (intro w'; go_simp; with_reducible rfl); rotate_left; (simp only [Act.put, List.setIfInBounds_toArray, List.set_cons_zero, List.set_cons_succ]; rfl)
        refine zpu 9 (some 33) zY10 ?_ rfl rfl (any_of HT_.out (by kernel_rfl)) (by rfl) ?_ ?_ ?_ ?_
        rotate_left; (intro w'; go_simp; with_reducible rfl); rotate_left; (simp only [Act.put, List.setIfInBounds_toArray, List.set_cons_zero, List.set_cons_succ]; rfl)
        refine zpu 10 (some 34) zY11 ?_ rfl rfl (any_of HT_.out (by kernel_rfl)) (by rfl) ?_ ?_ ?_ ?_
        rotate_left; (intro w'; go_simp; with_reducible rfl); rotate_left; (simp only [Act.put, List.setIfInBounds_toArray, List.set_cons_zero, List.set_cons_succ]; rfl)
        refine zpu 11 (some 35) zY12 ?_ rfl rfl (any_of HT_.out (by kernel_rfl)) (by rfl) ?_ ?_ ?_ ?_
        rotate_left; (intro w'; go_simp; with_reducible rfl); rotate_left; (simp only [Act.put, List.setIfInBounds_toArray, List.set_cons_zero, List.set_cons_succ]; rfl)
        refine zpu 12 (some 36) zY13 ?_ rfl rfl (any_of HT_.out (by kernel_rfl)) (by rfl) ?_ ?_ ?_ ?_
        rotate_left; (intro w'; go_simp; with_reducible rfl); rotate_left; (simp only [Act.put, List.setIfInBounds_toArray, List.set_cons_zero, List.set_cons_succ]; rfl)
        refine take_ (i := 13) (N := some 37) (v := ?_) (a' := ?_) zY14 rfl rfl (take_ofW HT_.out HW_.out (by kernel_rfl)) (fun _ _ _ h => h) (Or.inl ⟨by rfl, ?_⟩) hHeld ?_ ?_
        rotate_left; (rintro w' ⟨s0, s1, s2, s3, s4⟩; go_simp; with_reducible rfl); rotate_left; (simp only [Act.put, List.setIfInBounds_toArray, List.set_cons_zero, List.set_cons_succ]; rfl)
        refine zpu 14 (some 38) zY15 ?_ rfl rfl (any_of HT_.out (by kernel_rfl)) (by rfl) ?_ ?_ ?_ ?_
        rotate_left; (intro w'; go_simp; with_reducible rfl); rotate_left; (simp only [Act.put, List.setIfInBounds_toArray, List.set_cons_zero, List.set_cons_succ]; rfl)
        refine zpu 15 (some 39) zY16 ?_ rfl rfl (any_of HT_.out (by kernel_rfl)) (by rfl) ?_ ?_ ?_ ?_
        rotate_left; (intro w'; go_simp; with_reducible rfl); rotate_left; (simp only [Act.put, List.setIfInBounds_toArray, List.set_cons_zero, List.set_cons_succ]; rfl)
        refine zpu 16 (some 40) zY17 ?_ rfl rfl (any_of HT_.out (by kernel_rfl)) (by rfl) ?_ ?_ ?_ ?_
        rotate_left; (intro w'; go_simp; with_reducible rfl); rotate_left; (simp only [Act.put, List.setIfInBounds_toArray, List.set_cons_zero, List.set_cons_succ]; rfl)
        refine zpu 17 (some 41) zY18 ?_ rfl rfl (any_of HT_.out (by kernel_rfl)) (by rfl) ?_ ?_ ?_ ?_
        rotate_left; (intro w'; go_simp; with_reducible rfl); rotate_left; (simp only [Act.put, List.setIfInBounds_toArray, List.set_cons_zero, List.set_cons_succ]; rfl)
        refine take_ (i := 18) (N := some 42) (v := ?_) (a' := ?_) zY19 rfl rfl (take_ofW HT_.out HW_.out (by kernel_rfl)) (fun _ _ _ h => h) (Or.inl ⟨by rfl, ?_⟩) hHeld ?_ ?_
        rotate_left; (rintro w' ⟨s0, s1, s2, s3, s4⟩; go_simp; with_reducible rfl); rotate_left; (simp only [Act.put, List.setIfInBounds_toArray, List.set_cons_zero, List.set_cons_succ]; rfl)
        refine zpu 19 (some 43) zY20 ?_ rfl rfl (any_of HT_.out (by kernel_rfl)) (by rfl) ?_ ?_ ?_ ?_
        rotate_left; (intro w'; go_simp; with_reducible rfl); rotate_left; (simp only [Act.put, List.setIfInBounds_toArray, List.set_cons_zero, List.set_cons_succ]; rfl)
        refine zpu 20 (some 44) zY21 ?_ rfl rfl (any_of HT_.out (by kernel_rfl)) (by rfl) ?_ ?_ ?_ ?_
        rotate_left; (intro w'; go_simp; with_reducible rfl); rotate_left; (simp only [Act.put, List.setIfInBounds_toArray, List.set_cons_zero, List.set_cons_succ]; rfl)
        refine zpu 21 (some 45) zY22 ?_ rfl rfl (any_of HT_.out (by kernel_rfl)) (by rfl) ?_ ?_ ?_ ?_
        rotate_left; (intro w'; go_simp; with_reducible rfl); rotate_left; (simp only [Act.put, List.setIfInBounds_toArray, List.set_cons_zero, List.set_cons_succ]; rfl)
        refine zpu 22 (some 46) zY23 ?_ rfl rfl (any_of HT_.out (by kernel_rfl)) (by rfl) ?_ ?_ ?_ ?_
        rotate_left; (intro w'; go_simp; with_reducible rfl); rotate_left; (simp only [Act.put, List.setIfInBounds_toArray, List.set_cons_zero, List.set_cons_succ]; rfl)
        refine zpu 23 (some 47) zY24 ?_ rfl rfl (any_of HT_.out (by kernel_rfl)) (by rfl) ?_ ?_ ?_ ?_
        rotate_left; (intro w'; go_simp; with_reducible rfl); rotate_left; (simp only [Act.put, List.setIfInBounds_toArray, List.set_cons_zero, List.set_cons_succ]; rfl)
        refine zpu 24 (some 48) zY25 ?_ rfl rfl (any_of HT_.out (by kernel_rfl)) (by rfl) ?_ ?_ ?_ ?_
        rotate_left; (intro w'; go_simp; with_reducible rfl); rotate_left; (simp only [Act.put, List.setIfInBounds_toArray, List.set_cons_zero, List.set_cons_succ]; rfl)
        refine zpu 25 (some 49) zY26 ?_ rfl rfl (any_of HT_.out (by kernel_rfl)) (by rfl) ?_ ?_ ?_ ?_
        rotate_left; (intro w'; go_simp; with_reducible rfl); rotate_left; (simp only [Act.put, List.setIfInBounds_toArray, List.set_cons_zero, List.set_cons_succ]; rfl)
        refine take_ (i := 26) (N := some 50) (v := ?_) (a' := ?_) zY27 rfl rfl (take_ofW HT_.out HW_.out (by kernel_rfl)) (fun _ _ _ h => h) (Or.inl ⟨by rfl, ?_⟩) hHeld ?_ ?_
        rotate_left; (rintro w' ⟨s0, s1, s2, s3, s4⟩; go_simp; with_reducible rfl); rotate_left; (simp only [Act.put, List.setIfInBounds_toArray, List.set_cons_zero, List.set_cons_succ]; rfl)
        refine zpu 27 (some 51) zY28 ?_ rfl rfl (any_of HT_.out (by kernel_rfl)) (by rfl) ?_ ?_ ?_ ?_
        rotate_left; (intro w'; go_simp; with_reducible rfl); rotate_left; (simp only [Act.put, List.setIfInBounds_toArray, List.set_cons_zero, List.set_cons_succ]; rfl)
        refine zpu 28 (some 52) zY29 ?_ rfl rfl (any_of HT_.out (by kernel_rfl)) (by rfl) ?_ ?_ ?_ ?_
        rotate_left; (intro w'; go_simp; with_reducible rfl); rotate_left; (simp only [Act.put, List.setIfInBounds_toArray, List.set_cons_zero, List.set_cons_succ]; rfl)
        refine zpo 29 (some 53) zY30 rfl rfl (any_of HT_.out (by kernel_rfl)) (by rfl) ?_ ?_ ?_
        rotate_left; (simp only [Act.put, List.setIfInBounds_toArray, List.set_cons_zero, List.set_cons_succ]; rfl)
        refine zpo 30 (some 54) zY31 rfl rfl (any_of HT_.out (by kernel_rfl)) (by rfl) ?_ ?_ ?_
        rotate_left; (simp only [Act.put, List.setIfInBounds_toArray, List.set_cons_zero, List.set_cons_succ]; rfl)
        refine zpo 31 (some 55) zY32 rfl rfl (any_of HT_.out (by kernel_rfl)) (by rfl) ?_ ?_ ?_
        rotate_left; (simp only [Act.put, List.setIfInBounds_toArray, List.set_cons_zero, List.set_cons_succ]; rfl)
        refine zpo 32 (some 56) zY33 rfl rfl (any_of HT_.out (by kernel_rfl)) (by rfl) ?_ ?_ ?_
        rotate_left; (simp only [Act.put, List.setIfInBounds_toArray, List.set_cons_zero, List.set_cons_succ]; rfl)
        refine zpo 33 (some 57) zY34 rfl rfl (any_of HT_.out (by kernel_rfl)) (by rfl) ?_ ?_ ?_
        rotate_left; (simp only [Act.put, List.setIfInBounds_toArray, List.set_cons_zero, List.set_cons_succ]; rfl)
        refine zpo 34 (some 58) zY35 rfl rfl (any_of HT_.out (by kernel_rfl)) (by rfl) ?_ ?_ ?_
        rotate_left; (simp only [Act.put, List.setIfInBounds_toArray, List.set_cons_zero, List.set_cons_succ]; rfl)
        refine zpo 35 (some 59) zY36 rfl rfl (any_of HT_.out (by kernel_rfl)) (by rfl) ?_ ?_ ?_
        rotate_left; (simp only [Act.put, List.setIfInBounds_toArray, List.set_cons_zero, List.set_cons_succ]; rfl)
        refine zpu 36 (some 60) zY37 ?_ rfl rfl (any_of HT_.out (by kernel_rfl)) (by rfl) ?_ ?_ ?_ ?_
        rotate_left; (intro w'; go_simp; with_reducible rfl); rotate_left; (simp only [Act.put, List.setIfInBounds_toArray, List.set_cons_zero, List.set_cons_succ]; rfl)
        refine zpu 37 (some 61) zY38 ?_ rfl rfl (any_of HT_.out (by kernel_rfl)) (by rfl) ?_ ?_ ?_ ?_
        rotate_left; (intro w'; go_simp; with_reducible rfl); rotate_left; (simp only [Act.put, List.setIfInBounds_toArray, List.set_cons_zero, List.set_cons_succ]; rfl)
        refine zpu 38 (some 62) zY39 ?_ rfl rfl (any_of HT_.out (by kernel_rfl)) (by rfl) ?_ ?_ ?_ ?_
        rotate_left; (intro w'; go_simp; with_reducible rfl); rotate_left; (simp only [Act.put, List.setIfInBounds_toArray, List.set_cons_zero, List.set_cons_succ]; rfl)
        refine zpu 39 (some 63) zY40 ?_ rfl rfl (any_of HT_.out (by kernel_rfl)) (by rfl) ?_ ?_ ?_ ?_
        rotate_left; (intro w'; go_simp; with_reducible rfl); rotate_left; (simp only [Act.put, List.setIfInBounds_toArray, List.set_cons_zero, List.set_cons_succ]; rfl)
        refine zpu 40 (some 64) zY41 ?_ rfl rfl (any_of HT_.out (by kernel_rfl)) (by rfl) ?_ ?_ ?_ ?_
        rotate_left; (intro w'; go_simp; with_reducible rfl); rotate_left; (simp only [Act.put, List.setIfInBounds_toArray, List.set_cons_zero, List.set_cons_succ]; rfl)
        refine zpu 42 (some 66) zY42 ?_ rfl rfl (any_of HT_.out (by kernel_rfl)) (by rfl) ?_ ?_ ?_ ?_
        rotate_left; (intro w'; go_simp; with_reducible rfl); rotate_left; (simp only [Act.put, List.setIfInBounds_toArray, List.set_cons_zero, List.set_cons_succ]; rfl)
        refine take_ (i := 41) (N := some 65) (v := ?_) (a' := ?_) zY43 rfl rfl (take_ofW HT_.out HW_.out (by kernel_rfl)) (fun _ _ _ h => h) (Or.inl ⟨by rfl, ?_⟩) hHeld ?_ ?_
        rotate_left; (rintro w' ⟨s0, s1, s2, s3, s4⟩; go_simp; with_reducible rfl); rotate_left; (simp only [Act.put, List.setIfInBounds_toArray, List.set_cons_zero, List.set_cons_succ]; rfl)
        refine one_ (i := 43) (N := some 67) zY44 rfl rfl (one_of HT_.out (by kernel_rfl)) (by decide) (fun K hK => ?_)
        refine goes_ Try.func15 (by kernel_rfl) rfl #[.agg #[.int .i64 0, .int .i64 n3], .int .i64 b] (by rfl) rfl rfl (by simp only [List.map_toArray, List.map_cons, List.map_nil]; rfl) ?_
        with_reducible refine (hfx _).mono ?_
        rintro e w6 ⟨rfl, hb⟩
        refine ⟨_, rfl, ?_⟩
        refine hK.out _ _ ⟨(LsR.below hHeld hb).1, (LsR.below hHeld hb).2.1, (LsR.below hHeld hb).2.2.1, (LsR.below hHeld hb).2.2.2.1, (LsR.below hHeld hb).2.2.2.2⟩ (fun hHeld => ?_)
        clear hK K
        refine norm_ (a' := ?_) ?_ ?_
        rotate_left
        · show Act.put _ (some 67) _ = _
          simp only [Act.put, List.setIfInBounds_toArray, List.set_cons_zero, List.set_cons_succ, i64_w, i32_w]
          rfl
        refine zpu 44 (some 68) zY45 ?_ rfl rfl (any_of HT_.out (by kernel_rfl)) (by rfl) ?_ ?_ ?_ ?_
        rotate_left; (intro w'; go_simp; with_reducible rfl); rotate_left; (simp only [Act.put, List.setIfInBounds_toArray, List.set_cons_zero, List.set_cons_succ]; rfl)
        refine zpu 45 (some 69) zY46 ?_ rfl rfl (any_of HT_.out (by kernel_rfl)) (by rfl) ?_ ?_ ?_ ?_
        rotate_left; (intro w'; go_simp; with_reducible rfl); rotate_left; (simp only [Act.put, List.setIfInBounds_toArray, List.set_cons_zero, List.set_cons_succ]; rfl)
        refine zpu 46 (some 70) zY47 ?_ rfl rfl (any_of HT_.out (by kernel_rfl)) (by rfl) ?_ ?_ ?_ ?_
        rotate_left; (intro w'; go_simp; with_reducible rfl); rotate_left; (simp only [Act.put, List.setIfInBounds_toArray, List.set_cons_zero, List.set_cons_succ]; rfl)
        refine zpu 47 (some 71) zY48 ?_ rfl rfl (any_of HT_.out (by kernel_rfl)) (by rfl) ?_ ?_ ?_ ?_
        rotate_left; (intro w'; go_simp; with_reducible rfl); rotate_left; (simp only [Act.put, List.setIfInBounds_toArray, List.set_cons_zero, List.set_cons_succ]; rfl)
        refine take_ (i := 48) (N := some 72) (v := ?_) (a' := ?_) zY49 rfl rfl (take_ofW HT_.out HW_.out (by kernel_rfl)) (fun _ _ _ h => h) (Or.inl ⟨by rfl, ?_⟩) hHeld ?_ ?_
        rotate_left; (rintro w' ⟨s0, s1, s2, s3, s4⟩; go_simp; with_reducible rfl); rotate_left; (simp only [Act.put, List.setIfInBounds_toArray, List.set_cons_zero, List.set_cons_succ]; rfl)
        refine zpu 49 (some 73) zY50 ?_ rfl rfl (any_of HT_.out (by kernel_rfl)) (by rfl) ?_ ?_ ?_ ?_
        rotate_left; (intro w'; go_simp; with_reducible rfl); rotate_left; (simp only [Act.put, List.setIfInBounds_toArray, List.set_cons_zero, List.set_cons_succ]; rfl)
        refine zpu 50 (some 74) zY51 ?_ rfl rfl (any_of HT_.out (by kernel_rfl)) (by rfl) ?_ ?_ ?_ ?_
        rotate_left; (intro w'; go_simp; with_reducible rfl); rotate_left; (simp only [Act.put, List.setIfInBounds_toArray, List.set_cons_zero, List.set_cons_succ]; rfl)
        refine zpu 51 (some 75) zY52 ?_ rfl rfl (any_of HT_.out (by kernel_rfl)) (by rfl) ?_ ?_ ?_ ?_
        rotate_left; (intro w'; go_simp; with_reducible rfl); rotate_left; (simp only [Act.put, List.setIfInBounds_toArray, List.set_cons_zero, List.set_cons_succ]; rfl)
        refine done_ (done_of HT_.out (by kernel_rfl)) ?_
        have hS1 := hHeld
        have HR := Aside0.mk hS1.2.2.2.2
        clear hS0 hS1 hHeld
        go_wp2
        go_roundw
        case rel => exact .inr (.inr (.inr (.inr (⟨rfl, HR.out⟩))))
        case measure => simp [intOf]
      · skip
        go_wp2
        have hS0 : LsR 6 7 3 w.heap.size w2.heap.size w3.heap.size L Sa Ta _ _ _ _ w wr := ⟨q0, q1, q2, q3, HQ.out⟩
        clear q0 q1 q2 q3 HQ
        unfold LsR at hS0
        refine start_ (n := 52) (S := fun w' => w'.cell? ⟨w.heap.size, 6, none⟩ = some (.int .i64 1) ∧ w'.cell? ⟨w.heap.size, 7, none⟩ = some (.int .i64 n3) ∧ w'.cell? ⟨w2.heap.size, 3, none⟩ = some (.int .i64 t) ∧ w'.cell? ⟨w3.heap.size, 3, none⟩ = some (.int .i64 t) ∧ LsS w.heap.size w2.heap.size w3.heap.size L Sa Ta w w') (ds := []) zY0 (by kernel_rfl) rfl rfl ⟨(LsR.below hS0 (below_drew1 (Below.refl _ _))).1, (LsR.below hS0 (below_drew1 (Below.refl _ _))).2.1, (LsR.below hS0 (below_drew1 (Below.refl _ _))).2.2.1, (LsR.below hS0 (below_drew1 (Below.refl _ _))).2.2.2.1, (LsR.below hS0 (below_drew1 (Below.refl _ _))).2.2.2.2⟩ (fun hHeld => ?_)
        refine with_tabW zls.tab9 zls.bits9 (fun HT_ HW_ => ?_)
        refine zpu 0 (some 24) zY1 ?_ rfl rfl (any_of HT_.out (by kernel_rfl)) (by rfl) ?_ ?_ ?_ ?_
        rotate_left; (intro w'; go_simp; with_reducible rfl); rotate_left; (simp only [Act.put, List.setIfInBounds_toArray, List.set_cons_zero, List.set_cons_succ]; rfl)
        refine zpu 1 (some 25) zY2 ?_ rfl rfl (any_of HT_.out (by kernel_rfl)) (by rfl) ?_ ?_ ?_ ?_
        rotate_left; (intro w'; go_simp; with_reducible rfl); rotate_left; (simp only [Act.put, List.setIfInBounds_toArray, List.set_cons_zero, List.set_cons_succ]; rfl)
        refine zpu 3 (some 27) zY3 ?_ rfl rfl (any_of HT_.out (by kernel_rfl)) (by rfl) ?_ ?_ ?_ ?_
        rotate_left; (intro w'; go_simp; with_reducible rfl); rotate_left; (simp only [Act.put, List.setIfInBounds_toArray, List.set_cons_zero, List.set_cons_succ]; rfl)
        refine zpu 4 (some 28) zY4 ?_ rfl rfl (any_of HT_.out (by kernel_rfl)) (by rfl) ?_ ?_ ?_ ?_
        rotate_left; (intro w'; go_simp; with_reducible rfl); rotate_left; (simp only [Act.put, List.setIfInBounds_toArray, List.set_cons_zero, List.set_cons_succ]; rfl)
        refine zpu 6 (some 30) zY5 ?_ rfl rfl (any_of HT_.out (by kernel_rfl)) (by rfl) ?_ ?_ ?_ ?_
        rotate_left; (intro w'; go_simp; with_reducible rfl); rotate_left; (simp only [Act.put, List.setIfInBounds_toArray, List.set_cons_zero, List.set_cons_succ]; rfl)
        refine take_ (i := 2) (N := some 26) (v := ?_) (a' := ?_) zY6 rfl rfl (take_ofW HT_.out HW_.out (by kernel_rfl)) (fun _ _ _ h => h) (Or.inl ⟨by rfl, ?_⟩) hHeld ?_ ?_
        rotate_left; (rintro w' ⟨s0, s1, s2, s3, s4⟩; go_simp; with_reducible rfl); rotate_left; (simp only [Act.put, List.setIfInBounds_toArray, List.set_cons_zero, List.set_cons_succ]; rfl)
        refine take_ (i := 5) (N := some 29) (v := ?_) (a' := ?_) zY7 rfl rfl (take_ofW HT_.out HW_.out (by kernel_rfl)) (fun _ _ _ h => h) (Or.inl ⟨by rfl, ?_⟩) hHeld ?_ ?_
        rotate_left; (rintro w' ⟨s0, s1, s2, s3, s4⟩; go_simp; with_reducible rfl); rotate_left; (simp only [Act.put, List.setIfInBounds_toArray, List.set_cons_zero, List.set_cons_succ]; rfl)
        refine one_ (i := 7) (N := some 31) zY8 rfl rfl (one_of HT_.out (by kernel_rfl)) (by decide) (fun K hK => ?_)
        refine goes_ Try.func13 (by kernel_rfl) rfl #[.agg #[.int .i64 1, .int .i64 n3], .int .i64 b, .int .i64 0] (by rfl) rfl rfl (by simp only [List.map_toArray, List.map_cons, List.map_nil]; rfl) ?_
        with_reducible refine (hof _).mono ?_
        rintro e w5 ⟨rfl, hb⟩
        refine ⟨_, rfl, ?_⟩
        refine hK.out _ _ ⟨(LsR.below hHeld hb).1, (LsR.below hHeld hb).2.1, (LsR.below hHeld hb).2.2.1, (LsR.below hHeld hb).2.2.2.1, (LsR.below hHeld hb).2.2.2.2⟩ (fun hHeld => ?_)
        clear hK K
        refine norm_ (a' := ?_) ?_ ?_
        rotate_left
        · show Act.put _ (some 31) _ = _
          simp only [Act.put, List.setIfInBounds_toArray, List.set_cons_zero, List.set_cons_succ, i64_w, i32_w]
          rfl
        refine zpu 8 (some 32) zY9 ?_ rfl rfl (any_of HT_.out (by kernel_rfl)) (by rfl) ?_ ?_ ?_ ?_
        rotate_left; (intro w'; go_simp; with_reducible rfl); rotate_left; (simp only [Act.put, List.setIfInBounds_toArray, List.set_cons_zero, List.set_cons_succ]; rfl)
        refine zpu 9 (some 33) zY10 ?_ rfl rfl (any_of HT_.out (by kernel_rfl)) (by rfl) ?_ ?_ ?_ ?_
        rotate_left; (intro w'; go_simp; with_reducible rfl); rotate_left; (simp only [Act.put, List.setIfInBounds_toArray, List.set_cons_zero, List.set_cons_succ]; rfl)
        refine zpu 10 (some 34) zY11 ?_ rfl rfl (any_of HT_.out (by kernel_rfl)) (by rfl) ?_ ?_ ?_ ?_
        rotate_left; (intro w'; go_simp; with_reducible rfl); rotate_left; (simp only [Act.put, List.setIfInBounds_toArray, List.set_cons_zero, List.set_cons_succ]; rfl)
        refine zpu 11 (some 35) zY12 ?_ rfl rfl (any_of HT_.out (by kernel_rfl)) (by rfl) ?_ ?_ ?_ ?_
        rotate_left; (intro w'; go_simp; with_reducible rfl); rotate_left; (simp only [Act.put, List.setIfInBounds_toArray, List.set_cons_zero, List.set_cons_succ]; rfl)
        refine zpu 12 (some 36) zY13 ?_ rfl rfl (any_of HT_.out (by kernel_rfl)) (by rfl) ?_ ?_ ?_ ?_
        rotate_left; (intro w'; go_simp; with_reducible rfl); rotate_left; (simp only [Act.put, List.setIfInBounds_toArray, List.set_cons_zero, List.set_cons_succ]; rfl)
        refine take_ (i := 13) (N := some 37) (v := ?_) (a' := ?_) zY14 rfl rfl (take_ofW HT_.out HW_.out (by kernel_rfl)) (fun _ _ _ h => h) (Or.inl ⟨by rfl, ?_⟩) hHeld ?_ ?_
        rotate_left; (rintro w' ⟨s0, s1, s2, s3, s4⟩; go_simp; with_reducible rfl); rotate_left; (simp only [Act.put, List.setIfInBounds_toArray, List.set_cons_zero, List.set_cons_succ]; rfl)
        refine zpu 14 (some 38) zY15 ?_ rfl rfl (any_of HT_.out (by kernel_rfl)) (by rfl) ?_ ?_ ?_ ?_
        rotate_left; (intro w'; go_simp; with_reducible rfl); rotate_left; (simp only [Act.put, List.setIfInBounds_toArray, List.set_cons_zero, List.set_cons_succ]; rfl)
        refine zpu 15 (some 39) zY16 ?_ rfl rfl (any_of HT_.out (by kernel_rfl)) (by rfl) ?_ ?_ ?_ ?_
        rotate_left; (intro w'; go_simp; with_reducible rfl); rotate_left; (simp only [Act.put, List.setIfInBounds_toArray, List.set_cons_zero, List.set_cons_succ]; rfl)
        refine zpo 16 (some 40) zY17 rfl rfl (any_of HT_.out (by kernel_rfl)) (by rfl) ?_ ?_ ?_
        rotate_left; (simp only [Act.put, List.setIfInBounds_toArray, List.set_cons_zero, List.set_cons_succ]; rfl)
        refine zpo 17 (some 41) zY18 rfl rfl (any_of HT_.out (by kernel_rfl)) (by rfl) ?_ ?_ ?_
        rotate_left; (simp only [Act.put, List.setIfInBounds_toArray, List.set_cons_zero, List.set_cons_succ]; rfl)
        refine zpo 18 (some 42) zY19 rfl rfl (any_of HT_.out (by kernel_rfl)) (by rfl) ?_ ?_ ?_
        rotate_left; (simp only [Act.put, List.setIfInBounds_toArray, List.set_cons_zero, List.set_cons_succ]; rfl)
        refine zpo 19 (some 43) zY20 rfl rfl (any_of HT_.out (by kernel_rfl)) (by rfl) ?_ ?_ ?_
        rotate_left; (simp only [Act.put, List.setIfInBounds_toArray, List.set_cons_zero, List.set_cons_succ]; rfl)
        refine zpu 20 (some 44) zY21 ?_ rfl rfl (any_of HT_.out (by kernel_rfl)) (by rfl) ?_ ?_ ?_ ?_
        rotate_left; (intro w'; go_simp; with_reducible rfl); rotate_left; (simp only [Act.put, List.setIfInBounds_toArray, List.set_cons_zero, List.set_cons_succ]; rfl)
        refine zpu 21 (some 45) zY22 ?_ rfl rfl (any_of HT_.out (by kernel_rfl)) (by rfl) ?_ ?_ ?_ ?_
        rotate_left; (intro w'; go_simp; with_reducible rfl); rotate_left; (simp only [Act.put, List.setIfInBounds_toArray, List.set_cons_zero, List.set_cons_succ]; rfl)
        refine zpu 22 (some 46) zY23 ?_ rfl rfl (any_of HT_.out (by kernel_rfl)) (by rfl) ?_ ?_ ?_ ?_
        rotate_left; (intro w'; go_simp; with_reducible rfl); rotate_left; (simp only [Act.put, List.setIfInBounds_toArray, List.set_cons_zero, List.set_cons_succ]; rfl)
        refine zpu 23 (some 47) zY24 ?_ rfl rfl (any_of HT_.out (by kernel_rfl)) (by rfl) ?_ ?_ ?_ ?_
        rotate_left; (intro w'; go_simp; with_reducible rfl); rotate_left; (simp only [Act.put, List.setIfInBounds_toArray, List.set_cons_zero, List.set_cons_succ]; rfl)
        refine zpu 24 (some 48) zY25 ?_ rfl rfl (any_of HT_.out (by kernel_rfl)) (by rfl) ?_ ?_ ?_ ?_
        rotate_left; (intro w'; go_simp; with_reducible rfl); rotate_left; (simp only [Act.put, List.setIfInBounds_toArray, List.set_cons_zero, List.set_cons_succ]; rfl)
        refine zpu 25 (some 49) zY26 ?_ rfl rfl (any_of HT_.out (by kernel_rfl)) (by rfl) ?_ ?_ ?_ ?_
        rotate_left; (intro w'; go_simp; with_reducible rfl); rotate_left; (simp only [Act.put, List.setIfInBounds_toArray, List.set_cons_zero, List.set_cons_succ]; rfl)
        refine take_ (i := 26) (N := some 50) (v := ?_) (a' := ?_) zY27 rfl rfl (take_ofW HT_.out HW_.out (by kernel_rfl)) (fun _ _ _ h => h) (Or.inl ⟨by rfl, ?_⟩) hHeld ?_ ?_
        rotate_left; (rintro w' ⟨s0, s1, s2, s3, s4⟩; go_simp; with_reducible rfl); rotate_left; (simp only [Act.put, List.setIfInBounds_toArray, List.set_cons_zero, List.set_cons_succ]; rfl)
        refine zpu 27 (some 51) zY28 ?_ rfl rfl (any_of HT_.out (by kernel_rfl)) (by rfl) ?_ ?_ ?_ ?_
        rotate_left; (intro w'; go_simp; with_reducible rfl); rotate_left; (simp only [Act.put, List.setIfInBounds_toArray, List.set_cons_zero, List.set_cons_succ]; rfl)
        refine zpu 28 (some 52) zY29 ?_ rfl rfl (any_of HT_.out (by kernel_rfl)) (by rfl) ?_ ?_ ?_ ?_
        rotate_left; (intro w'; go_simp; with_reducible rfl); rotate_left; (simp only [Act.put, List.setIfInBounds_toArray, List.set_cons_zero, List.set_cons_succ]; rfl)
        refine zpu 29 (some 53) zY30 ?_ rfl rfl (any_of HT_.out (by kernel_rfl)) (by rfl) ?_ ?_ ?_ ?_
        rotate_left; (intro w'; go_simp; with_reducible rfl); rotate_left; (simp only [Act.put, List.setIfInBounds_toArray, List.set_cons_zero, List.set_cons_succ]; rfl)
        refine zpu 30 (some 54) zY31 ?_ rfl rfl (any_of HT_.out (by kernel_rfl)) (by rfl) ?_ ?_ ?_ ?_
        rotate_left; (intro w'; go_simp; with_reducible rfl); rotate_left; (simp only [Act.put, List.setIfInBounds_toArray, List.set_cons_zero, List.set_cons_succ]; rfl)
        refine zpu 32 (some 56) zY53 ?_ rfl rfl (any_of HT_.out (by kernel_rfl)) (by rfl) ?_ ?_ ?_ ?_
        rotate_left; (intro w'; go_simp; with_reducible rfl); rotate_left; (simp only [Act.put, List.setIfInBounds_toArray, List.set_cons_zero, List.set_cons_succ]; rfl)
        refine zpu 33 (some 57) zY54 ?_ rfl rfl (any_of HT_.out (by kernel_rfl)) (by rfl) ?_ ?_ ?_ ?_
        rotate_left; (intro w'; go_simp; with_reducible rfl); rotate_left; (simp only [Act.put, List.setIfInBounds_toArray, List.set_cons_zero, List.set_cons_succ]; rfl)
        refine take_ (i := 31) (N := some 55) (v := ?_) (a' := ?_) zY34 rfl rfl (take_ofW HT_.out HW_.out (by kernel_rfl)) (fun _ _ _ h => h) (Or.inl ⟨by rfl, ?_⟩) hHeld ?_ ?_
        rotate_left; (rintro w' ⟨s0, s1, s2, s3, s4⟩; go_simp; with_reducible rfl); rotate_left; (simp only [Act.put, List.setIfInBounds_toArray, List.set_cons_zero, List.set_cons_succ]; rfl)
        refine take_ (i := 34) (N := some 58) (v := ?_) (a' := ?_) zY35 rfl rfl (take_ofW HT_.out HW_.out (by kernel_rfl)) (fun _ _ _ h => h) (Or.inl ⟨by rfl, ?_⟩) hHeld ?_ ?_
        rotate_left; (rintro w' ⟨s0, s1, s2, s3, s4⟩; go_simp; with_reducible rfl); rotate_left; (simp only [Act.put, List.setIfInBounds_toArray, List.set_cons_zero, List.set_cons_succ]; rfl)
        refine zpu 35 (some 59) zY36 ?_ rfl rfl (any_of HT_.out (by kernel_rfl)) (by rfl) ?_ ?_ ?_ ?_
        rotate_left; (intro w'; go_simp; with_reducible rfl); rotate_left; (simp only [Act.put, List.setIfInBounds_toArray, List.set_cons_zero, List.set_cons_succ]; rfl)
        refine zpu 36 (some 60) zY37 ?_ rfl rfl (any_of HT_.out (by kernel_rfl)) (by rfl) ?_ ?_ ?_ ?_
        rotate_left; (intro w'; go_simp; with_reducible rfl); rotate_left; (simp only [Act.put, List.setIfInBounds_toArray, List.set_cons_zero, List.set_cons_succ]; rfl)
        refine zpu 37 (some 61) zY38 ?_ rfl rfl (any_of HT_.out (by kernel_rfl)) (by rfl) ?_ ?_ ?_ ?_
        rotate_left; (intro w'; go_simp; with_reducible rfl); rotate_left; (simp only [Act.put, List.setIfInBounds_toArray, List.set_cons_zero, List.set_cons_succ]; rfl)
        refine zpu 38 (some 62) zY39 ?_ rfl rfl (any_of HT_.out (by kernel_rfl)) (by rfl) ?_ ?_ ?_ ?_
        rotate_left; (intro w'; go_simp; with_reducible rfl); rotate_left; (simp only [Act.put, List.setIfInBounds_toArray, List.set_cons_zero, List.set_cons_succ]; rfl)
        refine zpu 39 (some 63) zY40 ?_ rfl rfl (any_of HT_.out (by kernel_rfl)) (by rfl) ?_ ?_ ?_ ?_
        rotate_left; (intro w'; go_simp; with_reducible rfl); rotate_left; (simp only [Act.put, List.setIfInBounds_toArray, List.set_cons_zero, List.set_cons_succ]; rfl)
        refine zpu 40 (some 64) zY41 ?_ rfl rfl (any_of HT_.out (by kernel_rfl)) (by rfl) ?_ ?_ ?_ ?_
        rotate_left; (intro w'; go_simp; with_reducible rfl); rotate_left; (simp only [Act.put, List.setIfInBounds_toArray, List.set_cons_zero, List.set_cons_succ]; rfl)
        refine zpu 42 (some 66) zY42 ?_ rfl rfl (any_of HT_.out (by kernel_rfl)) (by rfl) ?_ ?_ ?_ ?_
        rotate_left; (intro w'; go_simp; with_reducible rfl); rotate_left; (simp only [Act.put, List.setIfInBounds_toArray, List.set_cons_zero, List.set_cons_succ]; rfl)
        refine take_ (i := 41) (N := some 65) (v := ?_) (a' := ?_) zY43 rfl rfl (take_ofW HT_.out HW_.out (by kernel_rfl)) (fun _ _ _ h => h) (Or.inl ⟨by rfl, ?_⟩) hHeld ?_ ?_
        rotate_left; (rintro w' ⟨s0, s1, s2, s3, s4⟩; go_simp; with_reducible rfl); rotate_left; (simp only [Act.put, List.setIfInBounds_toArray, List.set_cons_zero, List.set_cons_succ]; rfl)
        refine one_ (i := 43) (N := some 67) zY44 rfl rfl (one_of HT_.out (by kernel_rfl)) (by decide) (fun K hK => ?_)
        refine goes_ Try.func15 (by kernel_rfl) rfl #[.agg #[.int .i64 1, .int .i64 n3], .int .i64 b] (by rfl) rfl rfl (by simp only [List.map_toArray, List.map_cons, List.map_nil]; rfl) ?_
        with_reducible refine (hfx _).mono ?_
        rintro e w6 ⟨rfl, hb⟩
        refine ⟨_, rfl, ?_⟩
        refine hK.out _ _ ⟨(LsR.below hHeld hb).1, (LsR.below hHeld hb).2.1, (LsR.below hHeld hb).2.2.1, (LsR.below hHeld hb).2.2.2.1, (LsR.below hHeld hb).2.2.2.2⟩ (fun hHeld => ?_)
        clear hK K
        refine norm_ (a' := ?_) ?_ ?_
        rotate_left
        · show Act.put _ (some 67) _ = _
          simp only [Act.put, List.setIfInBounds_toArray, List.set_cons_zero, List.set_cons_succ, i64_w, i32_w]
          rfl
        refine zpu 44 (some 68) zY45 ?_ rfl rfl (any_of HT_.out (by kernel_rfl)) (by rfl) ?_ ?_ ?_ ?_
        rotate_left; (intro w'; go_simp; with_reducible rfl); rotate_left; (simp only [Act.put, List.setIfInBounds_toArray, List.set_cons_zero, List.set_cons_succ]; rfl)
        refine zpu 45 (some 69) zY46 ?_ rfl rfl (any_of HT_.out (by kernel_rfl)) (by rfl) ?_ ?_ ?_ ?_
        rotate_left; (intro w'; go_simp; with_reducible rfl); rotate_left; (simp only [Act.put, List.setIfInBounds_toArray, List.set_cons_zero, List.set_cons_succ]; rfl)
        refine zpo 46 (some 70) zY47 rfl rfl (any_of HT_.out (by kernel_rfl)) (by rfl) ?_ ?_ ?_
        rotate_left; (simp only [Act.put, List.setIfInBounds_toArray, List.set_cons_zero, List.set_cons_succ]; rfl)
        refine zpo 47 (some 71) zY48 rfl rfl (any_of HT_.out (by kernel_rfl)) (by rfl) ?_ ?_ ?_
        rotate_left; (simp only [Act.put, List.setIfInBounds_toArray, List.set_cons_zero, List.set_cons_succ]; rfl)
        refine zpo 48 (some 72) zY49 rfl rfl (any_of HT_.out (by kernel_rfl)) (by rfl) ?_ ?_ ?_
        rotate_left; (simp only [Act.put, List.setIfInBounds_toArray, List.set_cons_zero, List.set_cons_succ]; rfl)
        refine zpo 49 (some 73) zY50 rfl rfl (any_of HT_.out (by kernel_rfl)) (by rfl) ?_ ?_ ?_
        rotate_left; (simp only [Act.put, List.setIfInBounds_toArray, List.set_cons_zero, List.set_cons_succ]; rfl)
        refine zpu 50 (some 74) zY51 ?_ rfl rfl (any_of HT_.out (by kernel_rfl)) (by rfl) ?_ ?_ ?_ ?_
        rotate_left; (intro w'; go_simp; with_reducible rfl); rotate_left; (simp only [Act.put, List.setIfInBounds_toArray, List.set_cons_zero, List.set_cons_succ]; rfl)
        refine zpu 51 (some 75) zY52 ?_ rfl rfl (any_of HT_.out (by kernel_rfl)) (by rfl) ?_ ?_ ?_ ?_
        rotate_left; (intro w'; go_simp; with_reducible rfl); rotate_left; (simp only [Act.put, List.setIfInBounds_toArray, List.set_cons_zero, List.set_cons_succ]; rfl)
        refine done_ (done_of HT_.out (by kernel_rfl)) ?_
        have hS1 := hHeld
        have HR := Aside0.mk hS1.2.2.2.2
        clear hS0 hS1 hHeld
        go_wp2
        go_roundw
        case rel => exact .inr (.inr (.inr (.inr (⟨rfl, HR.out⟩))))
        case measure => simp [intOf]
      · have g0 : (k3 == 0) = false := by simpa using e0
        have g1 : (k3 == 1) = false := by simpa using e1
        go_wp2
        have hS0 : LsR 6 7 3 w.heap.size w2.heap.size w3.heap.size L Sa Ta _ _ _ _ w wr := ⟨q0, q1, q2, q3, HQ.out⟩
        clear q0 q1 q2 q3 HQ
        unfold LsR at hS0
        refine start_ (n := 52) (S := fun w' => w'.cell? ⟨w.heap.size, 6, none⟩ = some (.int .i64 k3) ∧ w'.cell? ⟨w.heap.size, 7, none⟩ = some (.int .i64 n3) ∧ w'.cell? ⟨w2.heap.size, 3, none⟩ = some (.int .i64 s) ∧ w'.cell? ⟨w3.heap.size, 3, none⟩ = some (.int .i64 t) ∧ LsS w.heap.size w2.heap.size w3.heap.size L Sa Ta w w') (ds := []) zY0 (by kernel_rfl) rfl rfl ⟨(LsR.below hS0 (below_drew1 (Below.refl _ _))).1, (LsR.below hS0 (below_drew1 (Below.refl _ _))).2.1, (LsR.below hS0 (below_drew1 (Below.refl _ _))).2.2.1, (LsR.below hS0 (below_drew1 (Below.refl _ _))).2.2.2.1, (LsR.below hS0 (below_drew1 (Below.refl _ _))).2.2.2.2⟩ (fun hHeld => ?_)
        refine with_tabW zls.tab9 zls.bits9 (fun HT_ HW_ => ?_)
        refine zpu 0 (some 24) zY1 ?_ rfl rfl (any_of HT_.out (by kernel_rfl)) (by rfl) ?_ ?_ ?_ ?_
        rotate_left; (intro w'; go_simp; with_reducible rfl); rotate_left; (simp only [Act.put, List.setIfInBounds_toArray, List.set_cons_zero, List.set_cons_succ]; rfl)
        refine zpu 1 (some 25) zY2 ?_ rfl rfl (any_of HT_.out (by kernel_rfl)) (by rfl) ?_ ?_ ?_ ?_
        rotate_left; (intro w'; go_simp; with_reducible rfl); rotate_left; (simp only [Act.put, List.setIfInBounds_toArray, List.set_cons_zero, List.set_cons_succ]; rfl)
        refine zpu 3 (some 27) zY3 ?_ rfl rfl (any_of HT_.out (by kernel_rfl)) (by rfl) ?_ ?_ ?_ ?_
        rotate_left; (intro w'; go_simp; with_reducible rfl); rotate_left; (simp only [Act.put, List.setIfInBounds_toArray, List.set_cons_zero, List.set_cons_succ]; rfl)
        refine zpu 4 (some 28) zY4 ?_ rfl rfl (any_of HT_.out (by kernel_rfl)) (by rfl) ?_ ?_ ?_ ?_
        rotate_left; (intro w'; go_simp; with_reducible rfl); rotate_left; (simp only [Act.put, List.setIfInBounds_toArray, List.set_cons_zero, List.set_cons_succ]; rfl)
        refine zpu 6 (some 30) zY5 ?_ rfl rfl (any_of HT_.out (by kernel_rfl)) (by rfl) ?_ ?_ ?_ ?_
        rotate_left; (intro w'; go_simp; with_reducible rfl); rotate_left; (simp only [Act.put, List.setIfInBounds_toArray, List.set_cons_zero, List.set_cons_succ]; rfl)
        refine take_ (i := 2) (N := some 26) (v := ?_) (a' := ?_) zY6 rfl rfl (take_ofW HT_.out HW_.out (by kernel_rfl)) (fun _ _ _ h => h) (Or.inl ⟨by rfl, ?_⟩) hHeld ?_ ?_
        rotate_left; (rintro w' ⟨s0, s1, s2, s3, s4⟩; go_simp; with_reducible rfl); rotate_left; (simp only [Act.put, List.setIfInBounds_toArray, List.set_cons_zero, List.set_cons_succ]; rfl)
        refine take_ (i := 5) (N := some 29) (v := ?_) (a' := ?_) zY7 rfl rfl (take_ofW HT_.out HW_.out (by kernel_rfl)) (fun _ _ _ h => h) (Or.inl ⟨by rfl, ?_⟩) hHeld ?_ ?_
        rotate_left; (rintro w' ⟨s0, s1, s2, s3, s4⟩; go_simp; with_reducible rfl); rotate_left; (simp only [Act.put, List.setIfInBounds_toArray, List.set_cons_zero, List.set_cons_succ]; rfl)
        refine one_ (i := 7) (N := some 31) zY8 rfl rfl (one_of HT_.out (by kernel_rfl)) (by decide) (fun K hK => ?_)
        refine goes_ Try.func13 (by kernel_rfl) rfl #[.agg #[.int .i64 k3, .int .i64 n3], .int .i64 b, .int .i64 0] (by rfl) rfl rfl (by simp only [List.map_toArray, List.map_cons, List.map_nil]; rfl) ?_
        with_reducible refine (hof _).mono ?_
        rintro e w5 ⟨rfl, hb⟩
        refine ⟨_, rfl, ?_⟩
        refine hK.out _ _ ⟨(LsR.below hHeld hb).1, (LsR.below hHeld hb).2.1, (LsR.below hHeld hb).2.2.1, (LsR.below hHeld hb).2.2.2.1, (LsR.below hHeld hb).2.2.2.2⟩ (fun hHeld => ?_)
        clear hK K
        refine norm_ (a' := ?_) ?_ ?_
        rotate_left
        · show Act.put _ (some 31) _ = _
          simp only [Act.put, List.setIfInBounds_toArray, List.set_cons_zero, List.set_cons_succ, i64_w, i32_w]
          rfl
        refine zpu 8 (some 32) zY9 ?_ rfl rfl (any_of HT_.out (by kernel_rfl)) (by rfl) ?_ ?_ ?_ ?_
        rotate_left; (intro w'; go_simp; with_reducible rfl); rotate_left; (simp only [Act.put, List.setIfInBounds_toArray, List.set_cons_zero, List.set_cons_succ]; rfl)
        refine zpu 9 (some 33) zY10 ?_ rfl rfl (any_of HT_.out (by kernel_rfl)) (by rfl) ?_ ?_ ?_ ?_
        rotate_left; (intro w'; go_simp; with_reducible rfl); rotate_left; (simp only [Act.put, List.setIfInBounds_toArray, List.set_cons_zero, List.set_cons_succ]; rfl)
        refine zpu 10 (some 34) zY11 ?_ rfl rfl (any_of HT_.out (by kernel_rfl)) (by rfl) ?_ ?_ ?_ ?_
        rotate_left; (intro w'; go_simp; with_reducible rfl); rotate_left; (simp only [Act.put, List.setIfInBounds_toArray, List.set_cons_zero, List.set_cons_succ]; rfl)
        refine zpu 11 (some 35) zY12 ?_ rfl rfl (any_of HT_.out (by kernel_rfl)) (by rfl) ?_ ?_ ?_ ?_
        rotate_left; (intro w'; go_simp; with_reducible rfl); rotate_left; (simp only [Act.put, List.setIfInBounds_toArray, List.set_cons_zero, List.set_cons_succ]; rfl)
        refine zpu 12 (some 36) zY13 ?_ rfl rfl (any_of HT_.out (by kernel_rfl)) (by rfl) ?_ ?_ ?_ ?_
        rotate_left; (intro w'; go_simp; with_reducible rfl); rotate_left; (simp only [Act.put, List.setIfInBounds_toArray, List.set_cons_zero, List.set_cons_succ]; rfl)
        refine take_ (i := 13) (N := some 37) (v := ?_) (a' := ?_) zY14 rfl rfl (take_ofW HT_.out HW_.out (by kernel_rfl)) (fun _ _ _ h => h) (Or.inl ⟨by rfl, ?_⟩) hHeld ?_ ?_
        rotate_left; (rintro w' ⟨s0, s1, s2, s3, s4⟩; go_simp; with_reducible rfl); rotate_left; (simp only [Act.put, List.setIfInBounds_toArray, List.set_cons_zero, List.set_cons_succ]; rfl)
        refine zpu 14 (some 38) zY15 ?_ rfl rfl (any_of HT_.out (by kernel_rfl)) (by rfl) ?_ ?_ ?_ ?_
        rotate_left; (intro w'; go_simp; with_reducible rfl); rotate_left; (simp only [Act.put, List.setIfInBounds_toArray, List.set_cons_zero, List.set_cons_succ]; rfl)
        refine zpu 15 (some 39) zY16 ?_ rfl rfl (any_of HT_.out (by kernel_rfl)) (by rfl) ?_ ?_ ?_ ?_
        rotate_left; (intro w'; go_simp; with_reducible rfl); rotate_left; (simp only [Act.put, List.setIfInBounds_toArray, List.set_cons_zero, List.set_cons_succ]; rfl)
        refine zpo 16 (some 40) zY17 rfl rfl (any_of HT_.out (by kernel_rfl)) (by rfl) ?_ ?_ ?_
        rotate_left; (simp only [Act.put, List.setIfInBounds_toArray, List.set_cons_zero, List.set_cons_succ]; rfl)
        refine zpo 17 (some 41) zY18 rfl rfl (any_of HT_.out (by kernel_rfl)) (by rfl) ?_ ?_ ?_
        rotate_left; (simp only [Act.put, List.setIfInBounds_toArray, List.set_cons_zero, List.set_cons_succ]; rfl)
        refine zpo 18 (some 42) zY19 rfl rfl (any_of HT_.out (by kernel_rfl)) (by rfl) ?_ ?_ ?_
        rotate_left; (simp only [Act.put, List.setIfInBounds_toArray, List.set_cons_zero, List.set_cons_succ]; rfl)
        refine zpo 19 (some 43) zY20 rfl rfl (any_of HT_.out (by kernel_rfl)) (by rfl) ?_ ?_ ?_
        rotate_left; (simp only [Act.put, List.setIfInBounds_toArray, List.set_cons_zero, List.set_cons_succ]; rfl)
        refine zpu 20 (some 44) zY21 ?_ rfl rfl (any_of HT_.out (by kernel_rfl)) (by rfl) ?_ ?_ ?_ ?_
        rotate_left; (intro w'; go_simp; with_reducible rfl); rotate_left; (simp only [Act.put, List.setIfInBounds_toArray, List.set_cons_zero, List.set_cons_succ]; rfl)
        refine zpu 21 (some 45) zY22 ?_ rfl rfl (any_of HT_.out (by kernel_rfl)) (by rfl) ?_ ?_ ?_ ?_
        rotate_left; (intro w'; go_simp; with_reducible rfl); rotate_left; (simp only [Act.put, List.setIfInBounds_toArray, List.set_cons_zero, List.set_cons_succ]; rfl)
        refine zpu 22 (some 46) zY23 ?_ rfl rfl (any_of HT_.out (by kernel_rfl)) (by rfl) ?_ ?_ ?_ ?_
        rotate_left; (intro w'; go_simp; with_reducible rfl); rotate_left; (simp only [Act.put, List.setIfInBounds_toArray, List.set_cons_zero, List.set_cons_succ]; rfl)
        refine zpu 23 (some 47) zY24 ?_ rfl rfl (any_of HT_.out (by kernel_rfl)) (by rfl) ?_ ?_ ?_ ?_
        rotate_left; (intro w'; go_simp; with_reducible rfl); rotate_left; (simp only [Act.put, List.setIfInBounds_toArray, List.set_cons_zero, List.set_cons_succ]; rfl)
        refine zpu 24 (some 48) zY25 ?_ rfl rfl (any_of HT_.out (by kernel_rfl)) (by rfl) ?_ ?_ ?_ ?_
        rotate_left; (intro w'; go_simp; with_reducible rfl); rotate_left; (simp only [Act.put, List.setIfInBounds_toArray, List.set_cons_zero, List.set_cons_succ]; rfl)
        refine zpu 25 (some 49) zY26 ?_ rfl rfl (any_of HT_.out (by kernel_rfl)) (by rfl) ?_ ?_ ?_ ?_
        rotate_left; (intro w'; go_simp; with_reducible rfl); rotate_left; (simp only [Act.put, List.setIfInBounds_toArray, List.set_cons_zero, List.set_cons_succ]; rfl)
        refine take_ (i := 26) (N := some 50) (v := ?_) (a' := ?_) zY27 rfl rfl (take_ofW HT_.out HW_.out (by kernel_rfl)) (fun _ _ _ h => h) (Or.inl ⟨by rfl, ?_⟩) hHeld ?_ ?_
        rotate_left; (rintro w' ⟨s0, s1, s2, s3, s4⟩; go_simp; with_reducible rfl); rotate_left; (simp only [Act.put, List.setIfInBounds_toArray, List.set_cons_zero, List.set_cons_succ]; rfl)
        refine zpu 27 (some 51) zY28 ?_ rfl rfl (any_of HT_.out (by kernel_rfl)) (by rfl) ?_ ?_ ?_ ?_
        rotate_left; (intro w'; go_simp; with_reducible rfl); rotate_left; (simp only [Act.put, List.setIfInBounds_toArray, List.set_cons_zero, List.set_cons_succ]; rfl)
        refine zpu 28 (some 52) zY29 ?_ rfl rfl (any_of HT_.out (by kernel_rfl)) (by rfl) ?_ ?_ ?_ ?_
        rotate_left; (intro w'; go_simp; with_reducible rfl); rotate_left; (simp only [Act.put, List.setIfInBounds_toArray, List.set_cons_zero, List.set_cons_succ]; rfl)
        refine zpo 29 (some 53) zY30 rfl rfl (any_of HT_.out (by kernel_rfl)) (by rfl) ?_ ?_ ?_
        rotate_left; (simp only [Act.put, List.setIfInBounds_toArray, List.set_cons_zero, List.set_cons_succ]; rfl)
        refine zpo 30 (some 54) zY31 rfl rfl (any_of HT_.out (by kernel_rfl)) (by rfl) ?_ ?_ ?_
        rotate_left; (simp only [Act.put, List.setIfInBounds_toArray, List.set_cons_zero, List.set_cons_succ]; rfl)
        refine zpo 31 (some 55) zY32 rfl rfl (any_of HT_.out (by kernel_rfl)) (by rfl) ?_ ?_ ?_
        rotate_left; (simp only [Act.put, List.setIfInBounds_toArray, List.set_cons_zero, List.set_cons_succ]; rfl)
        refine zpo 32 (some 56) zY33 rfl rfl (any_of HT_.out (by kernel_rfl)) (by rfl) ?_ ?_ ?_
        rotate_left; (simp only [Act.put, List.setIfInBounds_toArray, List.set_cons_zero, List.set_cons_succ]; rfl)
        refine zpo 33 (some 57) zY34 rfl rfl (any_of HT_.out (by kernel_rfl)) (by rfl) ?_ ?_ ?_
        rotate_left; (simp only [Act.put, List.setIfInBounds_toArray, List.set_cons_zero, List.set_cons_succ]; rfl)
        refine zpo 34 (some 58) zY35 rfl rfl (any_of HT_.out (by kernel_rfl)) (by rfl) ?_ ?_ ?_
        rotate_left; (simp only [Act.put, List.setIfInBounds_toArray, List.set_cons_zero, List.set_cons_succ]; rfl)
        refine zpo 35 (some 59) zY36 rfl rfl (any_of HT_.out (by kernel_rfl)) (by rfl) ?_ ?_ ?_
        rotate_left; (simp only [Act.put, List.setIfInBounds_toArray, List.set_cons_zero, List.set_cons_succ]; rfl)
        refine zpu 36 (some 60) zY37 ?_ rfl rfl (any_of HT_.out (by kernel_rfl)) (by rfl) ?_ ?_ ?_ ?_
        rotate_left; (intro w'; go_simp; with_reducible rfl); rotate_left; (simp only [Act.put, List.setIfInBounds_toArray, List.set_cons_zero, List.set_cons_succ]; rfl)
        refine zpu 37 (some 61) zY38 ?_ rfl rfl (any_of HT_.out (by kernel_rfl)) (by rfl) ?_ ?_ ?_ ?_
        rotate_left; (intro w'; go_simp; with_reducible rfl); rotate_left; (simp only [Act.put, List.setIfInBounds_toArray, List.set_cons_zero, List.set_cons_succ]; rfl)
        refine zpu 38 (some 62) zY39 ?_ rfl rfl (any_of HT_.out (by kernel_rfl)) (by rfl) ?_ ?_ ?_ ?_
        rotate_left; (intro w'; go_simp; with_reducible rfl); rotate_left; (simp only [Act.put, List.setIfInBounds_toArray, List.set_cons_zero, List.set_cons_succ]; rfl)
        refine zpu 39 (some 63) zY40 ?_ rfl rfl (any_of HT_.out (by kernel_rfl)) (by rfl) ?_ ?_ ?_ ?_
        rotate_left; (intro w'; go_simp; with_reducible rfl); rotate_left; (simp only [Act.put, List.setIfInBounds_toArray, List.set_cons_zero, List.set_cons_succ]; rfl)
        refine zpu 40 (some 64) zY41 ?_ rfl rfl (any_of HT_.out (by kernel_rfl)) (by rfl) ?_ ?_ ?_ ?_
        rotate_left; (intro w'; go_simp; with_reducible rfl); rotate_left; (simp only [Act.put, List.setIfInBounds_toArray, List.set_cons_zero, List.set_cons_succ]; rfl)
        refine zpu 42 (some 66) zY42 ?_ rfl rfl (any_of HT_.out (by kernel_rfl)) (by rfl) ?_ ?_ ?_ ?_
        rotate_left; (intro w'; go_simp; with_reducible rfl); rotate_left; (simp only [Act.put, List.setIfInBounds_toArray, List.set_cons_zero, List.set_cons_succ]; rfl)
        refine take_ (i := 41) (N := some 65) (v := ?_) (a' := ?_) zY43 rfl rfl (take_ofW HT_.out HW_.out (by kernel_rfl)) (fun _ _ _ h => h) (Or.inl ⟨by rfl, ?_⟩) hHeld ?_ ?_
        rotate_left; (rintro w' ⟨s0, s1, s2, s3, s4⟩; go_simp; with_reducible rfl); rotate_left; (simp only [Act.put, List.setIfInBounds_toArray, List.set_cons_zero, List.set_cons_succ]; rfl)
        refine one_ (i := 43) (N := some 67) zY44 rfl rfl (one_of HT_.out (by kernel_rfl)) (by decide) (fun K hK => ?_)
        refine goes_ Try.func15 (by kernel_rfl) rfl #[.agg #[.int .i64 k3, .int .i64 n3], .int .i64 b] (by rfl) rfl rfl (by simp only [List.map_toArray, List.map_cons, List.map_nil]; rfl) ?_
        with_reducible refine (hfx _).mono ?_
        rintro e w6 ⟨rfl, hb⟩
        refine ⟨_, rfl, ?_⟩
        refine hK.out _ _ ⟨(LsR.below hHeld hb).1, (LsR.below hHeld hb).2.1, (LsR.below hHeld hb).2.2.1, (LsR.below hHeld hb).2.2.2.1, (LsR.below hHeld hb).2.2.2.2⟩ (fun hHeld => ?_)
        clear hK K
        refine norm_ (a' := ?_) ?_ ?_
        rotate_left
        · show Act.put _ (some 67) _ = _
          simp only [Act.put, List.setIfInBounds_toArray, List.set_cons_zero, List.set_cons_succ, i64_w, i32_w]
          rfl
        refine zpu 44 (some 68) zY45 ?_ rfl rfl (any_of HT_.out (by kernel_rfl)) (by rfl) ?_ ?_ ?_ ?_
        rotate_left; (intro w'; go_simp; with_reducible rfl); rotate_left; (simp only [Act.put, List.setIfInBounds_toArray, List.set_cons_zero, List.set_cons_succ]; rfl)
        refine zpu 45 (some 69) zY46 ?_ rfl rfl (any_of HT_.out (by kernel_rfl)) (by rfl) ?_ ?_ ?_ ?_
        rotate_left; (intro w'; go_simp; with_reducible rfl); rotate_left; (simp only [Act.put, List.setIfInBounds_toArray, List.set_cons_zero, List.set_cons_succ]; rfl)
        refine zpo 46 (some 70) zY47 rfl rfl (any_of HT_.out (by kernel_rfl)) (by rfl) ?_ ?_ ?_
        rotate_left; (simp only [Act.put, List.setIfInBounds_toArray, List.set_cons_zero, List.set_cons_succ]; rfl)
        refine zpo 47 (some 71) zY48 rfl rfl (any_of HT_.out (by kernel_rfl)) (by rfl) ?_ ?_ ?_
        rotate_left; (simp only [Act.put, List.setIfInBounds_toArray, List.set_cons_zero, List.set_cons_succ]; rfl)
        refine zpo 48 (some 72) zY49 rfl rfl (any_of HT_.out (by kernel_rfl)) (by rfl) ?_ ?_ ?_
        rotate_left; (simp only [Act.put, List.setIfInBounds_toArray, List.set_cons_zero, List.set_cons_succ]; rfl)
        refine zpo 49 (some 73) zY50 rfl rfl (any_of HT_.out (by kernel_rfl)) (by rfl) ?_ ?_ ?_
        rotate_left; (simp only [Act.put, List.setIfInBounds_toArray, List.set_cons_zero, List.set_cons_succ]; rfl)
        refine zpu 50 (some 74) zY51 ?_ rfl rfl (any_of HT_.out (by kernel_rfl)) (by rfl) ?_ ?_ ?_ ?_
        rotate_left; (intro w'; go_simp; with_reducible rfl); rotate_left; (simp only [Act.put, List.setIfInBounds_toArray, List.set_cons_zero, List.set_cons_succ]; rfl)
        refine zpu 51 (some 75) zY52 ?_ rfl rfl (any_of HT_.out (by kernel_rfl)) (by rfl) ?_ ?_ ?_ ?_
        rotate_left; (intro w'; go_simp; with_reducible rfl); rotate_left; (simp only [Act.put, List.setIfInBounds_toArray, List.set_cons_zero, List.set_cons_succ]; rfl)
        refine done_ (done_of HT_.out (by kernel_rfl)) ?_
        have hS1 := hHeld
        have HR := Aside0.mk hS1.2.2.2.2
        clear hS0 hS1 hHeld
        go_wp2
        go_roundw
        case rel => exact .inr (.inr (.inr (.inr (⟨rfl, HR.out⟩))))
        case measure => simp [intOf]
      · have g0 : (k3 == 0) = false := by simpa using e0
        have g1 : (k3 == 1) = false := by simpa using e1
        go_wp2
        have hS0 : LsR 6 7 3 w.heap.size w2.heap.size w3.heap.size L Sa Ta _ _ _ _ w wr := ⟨q0, q1, q2, q3, HQ.out⟩
        clear q0 q1 q2 q3 HQ
        unfold LsR at hS0
        refine start_ (n := 52) (S := fun w' => w'.cell? ⟨w.heap.size, 6, none⟩ = some (.int .i64 k3) ∧ w'.cell? ⟨w.heap.size, 7, none⟩ = some (.int .i64 n3) ∧ w'.cell? ⟨w2.heap.size, 3, none⟩ = some (.int .i64 0) ∧ w'.cell? ⟨w3.heap.size, 3, none⟩ = some (.int .i64 t) ∧ LsS w.heap.size w2.heap.size w3.heap.size L Sa Ta w w') (ds := []) zY0 (by kernel_rfl) rfl rfl ⟨(LsR.below hS0 (below_drew1 (Below.refl _ _))).1, (LsR.below hS0 (below_drew1 (Below.refl _ _))).2.1, (LsR.below hS0 (below_drew1 (Below.refl _ _))).2.2.1, (LsR.below hS0 (below_drew1 (Below.refl _ _))).2.2.2.1, (LsR.below hS0 (below_drew1 (Below.refl _ _))).2.2.2.2⟩ (fun hHeld => ?_)
        refine with_tabW zls.tab9 zls.bits9 (fun HT_ HW_ => ?_)
        refine zpu 0 (some 24) zY1 ?_ rfl rfl (any_of HT_.out (by kernel_rfl)) (by rfl) ?_ ?_ ?_ ?_
        rotate_left; (intro w'; go_simp; with_reducible rfl); rotate_left; (simp only [Act.put, List.setIfInBounds_toArray, List.set_cons_zero, List.set_cons_succ]; rfl)
        refine zpu 1 (some 25) zY2 ?_ rfl rfl (any_of HT_.out (by kernel_rfl)) (by rfl) ?_ ?_ ?_ ?_
        rotate_left; (intro w'; go_simp; with_reducible rfl); rotate_left; (simp only [Act.put, List.setIfInBounds_toArray, List.set_cons_zero, List.set_cons_succ]; rfl)
        refine zpu 3 (some 27) zY3 ?_ rfl rfl (any_of HT_.out (by kernel_rfl)) (by rfl) ?_ ?_ ?_ ?_
        rotate_left; (intro w'; go_simp; with_reducible rfl); rotate_left; (simp only [Act.put, List.setIfInBounds_toArray, List.set_cons_zero, List.set_cons_succ]; rfl)
        refine zpu 4 (some 28) zY4 ?_ rfl rfl (any_of HT_.out (by kernel_rfl)) (by rfl) ?_ ?_ ?_ ?_
        rotate_left; (intro w'; go_simp; with_reducible rfl); rotate_left; (simp only [Act.put, List.setIfInBounds_toArray, List.set_cons_zero, List.set_cons_succ]; rfl)
        refine zpu 6 (some 30) zY5 ?_ rfl rfl (any_of HT_.out (by kernel_rfl)) (by rfl) ?_ ?_ ?_ ?_
        rotate_left; (intro w'; go_simp; with_reducible rfl); rotate_left; (simp only [Act.put, List.setIfInBounds_toArray, List.set_cons_zero, List.set_cons_succ]; rfl)
        refine take_ (i := 2) (N := some 26) (v := ?_) (a' := ?_) zY6 rfl rfl (take_ofW HT_.out HW_.out (by kernel_rfl)) (fun _ _ _ h => h) (Or.inl ⟨by rfl, ?_⟩) hHeld ?_ ?_
        rotate_left; (rintro w' ⟨s0, s1, s2, s3, s4⟩; go_simp; with_reducible rfl); rotate_left; (simp only [Act.put, List.setIfInBounds_toArray, List.set_cons_zero, List.set_cons_succ]; rfl)
        refine take_ (i := 5) (N := some 29) (v := ?_) (a' := ?_) zY7 rfl rfl (take_ofW HT_.out HW_.out (by kernel_rfl)) (fun _ _ _ h => h) (Or.inl ⟨by rfl, ?_⟩) hHeld ?_ ?_
        rotate_left; (rintro w' ⟨s0, s1, s2, s3, s4⟩; go_simp; with_reducible rfl); rotate_left; (simp only [Act.put, List.setIfInBounds_toArray, List.set_cons_zero, List.set_cons_succ]; rfl)
        refine one_ (i := 7) (N := some 31) zY8 rfl rfl (one_of HT_.out (by kernel_rfl)) (by decide) (fun K hK => ?_)
        refine goes_ Try.func13 (by kernel_rfl) rfl #[.agg #[.int .i64 k3, .int .i64 n3], .int .i64 b, .int .i64 0] (by rfl) rfl rfl (by simp only [List.map_toArray, List.map_cons, List.map_nil]; rfl) ?_
        with_reducible refine (hof _).mono ?_
        rintro e w5 ⟨rfl, hb⟩
        refine ⟨_, rfl, ?_⟩
        refine hK.out _ _ ⟨(LsR.below hHeld hb).1, (LsR.below hHeld hb).2.1, (LsR.below hHeld hb).2.2.1, (LsR.below hHeld hb).2.2.2.1, (LsR.below hHeld hb).2.2.2.2⟩ (fun hHeld => ?_)
        clear hK K
        refine norm_ (a' := ?_) ?_ ?_
        rotate_left
        · show Act.put _ (some 31) _ = _
          simp only [Act.put, List.setIfInBounds_toArray, List.set_cons_zero, List.set_cons_succ, i64_w, i32_w]
          rfl
        refine zpu 8 (some 32) zY9 ?_ rfl rfl (any_of HT_.out (by kernel_rfl)) (by rfl) ?_ ?_ ?_ ?_
        rotate_left; (intro w'; go_simp; with_reducible rfl); rotate_left; (simp only [Act.put, List.setIfInBounds_toArray, List.set_cons_zero, List.set_cons_succ]; rfl)
        refine zpu 9 (some 33) zY10 ?_ rfl rfl (any_of HT_.out (by kernel_rfl)) (by rfl) ?_ ?_ ?_ ?_
        rotate_left; (intro w'; go_simp; with_reducible rfl); rotate_left; (simp only [Act.put, List.setIfInBounds_toArray, List.set_cons_zero, List.set_cons_succ]; rfl)
        refine zpu 10 (some 34) zY11 ?_ rfl rfl (any_of HT_.out (by kernel_rfl)) (by rfl) ?_ ?_ ?_ ?_
        rotate_left; (intro w'; go_simp; with_reducible rfl); rotate_left; (simp only [Act.put, List.setIfInBounds_toArray, List.set_cons_zero, List.set_cons_succ]; rfl)
        refine zpu 11 (some 35) zY12 ?_ rfl rfl (any_of HT_.out (by kernel_rfl)) (by rfl) ?_ ?_ ?_ ?_
        rotate_left; (intro w'; go_simp; with_reducible rfl); rotate_left; (simp only [Act.put, List.setIfInBounds_toArray, List.set_cons_zero, List.set_cons_succ]; rfl)
        refine zpu 12 (some 36) zY13 ?_ rfl rfl (any_of HT_.out (by kernel_rfl)) (by rfl) ?_ ?_ ?_ ?_
        rotate_left; (intro w'; go_simp; with_reducible rfl); rotate_left; (simp only [Act.put, List.setIfInBounds_toArray, List.set_cons_zero, List.set_cons_succ]; rfl)
        refine take_ (i := 13) (N := some 37) (v := ?_) (a' := ?_) zY14 rfl rfl (take_ofW HT_.out HW_.out (by kernel_rfl)) (fun _ _ _ h => h) (Or.inl ⟨by rfl, ?_⟩) hHeld ?_ ?_
        rotate_left; (rintro w' ⟨s0, s1, s2, s3, s4⟩; go_simp; with_reducible rfl); rotate_left; (simp only [Act.put, List.setIfInBounds_toArray, List.set_cons_zero, List.set_cons_succ]; rfl)
        refine zpu 14 (some 38) zY15 ?_ rfl rfl (any_of HT_.out (by kernel_rfl)) (by rfl) ?_ ?_ ?_ ?_
        rotate_left; (intro w'; go_simp; with_reducible rfl); rotate_left; (simp only [Act.put, List.setIfInBounds_toArray, List.set_cons_zero, List.set_cons_succ]; rfl)
        refine zpu 15 (some 39) zY16 ?_ rfl rfl (any_of HT_.out (by kernel_rfl)) (by rfl) ?_ ?_ ?_ ?_
        rotate_left; (intro w'; go_simp; with_reducible rfl); rotate_left; (simp only [Act.put, List.setIfInBounds_toArray, List.set_cons_zero, List.set_cons_succ]; rfl)
        refine zpo 16 (some 40) zY17 rfl rfl (any_of HT_.out (by kernel_rfl)) (by rfl) ?_ ?_ ?_
        rotate_left; (simp only [Act.put, List.setIfInBounds_toArray, List.set_cons_zero, List.set_cons_succ]; rfl)
        refine zpo 17 (some 41) zY18 rfl rfl (any_of HT_.out (by kernel_rfl)) (by rfl) ?_ ?_ ?_
        rotate_left; (simp only [Act.put, List.setIfInBounds_toArray, List.set_cons_zero, List.set_cons_succ]; rfl)
        refine zpo 18 (some 42) zY19 rfl rfl (any_of HT_.out (by kernel_rfl)) (by rfl) ?_ ?_ ?_
        rotate_left; (simp only [Act.put, List.setIfInBounds_toArray, List.set_cons_zero, List.set_cons_succ]; rfl)
        refine zpo 19 (some 43) zY20 rfl rfl (any_of HT_.out (by kernel_rfl)) (by rfl) ?_ ?_ ?_
        rotate_left; (simp only [Act.put, List.setIfInBounds_toArray, List.set_cons_zero, List.set_cons_succ]; rfl)
        refine zpu 20 (some 44) zY21 ?_ rfl rfl (any_of HT_.out (by kernel_rfl)) (by rfl) ?_ ?_ ?_ ?_
        rotate_left; (intro w'; go_simp; with_reducible rfl); rotate_left; (simp only [Act.put, List.setIfInBounds_toArray, List.set_cons_zero, List.set_cons_succ]; rfl)
        refine zpu 21 (some 45) zY22 ?_ rfl rfl (any_of HT_.out (by kernel_rfl)) (by rfl) ?_ ?_ ?_ ?_
        rotate_left; (intro w'; go_simp; with_reducible rfl); rotate_left; (simp only [Act.put, List.setIfInBounds_toArray, List.set_cons_zero, List.set_cons_succ]; rfl)
        refine zpu 22 (some 46) zY23 ?_ rfl rfl (any_of HT_.out (by kernel_rfl)) (by rfl) ?_ ?_ ?_ ?_
        rotate_left; (intro w'; go_simp; with_reducible rfl); rotate_left; (simp only [Act.put, List.setIfInBounds_toArray, List.set_cons_zero, List.set_cons_succ]; rfl)
        refine zpu 23 (some 47) zY24 ?_ rfl rfl (any_of HT_.out (by kernel_rfl)) (by rfl) ?_ ?_ ?_ ?_
        rotate_left; (intro w'; go_simp; with_reducible rfl); rotate_left; (simp only [Act.put, List.setIfInBounds_toArray, List.set_cons_zero, List.set_cons_succ]; rfl)
        refine zpu 24 (some 48) zY25 ?_ rfl rfl (any_of HT_.out (by kernel_rfl)) (by rfl) ?_ ?_ ?_ ?_
        rotate_left; (intro w'; go_simp; with_reducible rfl); rotate_left; (simp only [Act.put, List.setIfInBounds_toArray, List.set_cons_zero, List.set_cons_succ]; rfl)
        refine zpu 25 (some 49) zY26 ?_ rfl rfl (any_of HT_.out (by kernel_rfl)) (by rfl) ?_ ?_ ?_ ?_
        rotate_left; (intro w'; go_simp; with_reducible rfl); rotate_left; (simp only [Act.put, List.setIfInBounds_toArray, List.set_cons_zero, List.set_cons_succ]; rfl)
        refine take_ (i := 26) (N := some 50) (v := ?_) (a' := ?_) zY27 rfl rfl (take_ofW HT_.out HW_.out (by kernel_rfl)) (fun _ _ _ h => h) (Or.inl ⟨by rfl, ?_⟩) hHeld ?_ ?_
        rotate_left; (rintro w' ⟨s0, s1, s2, s3, s4⟩; go_simp; with_reducible rfl); rotate_left; (simp only [Act.put, List.setIfInBounds_toArray, List.set_cons_zero, List.set_cons_succ]; rfl)
        refine zpu 27 (some 51) zY28 ?_ rfl rfl (any_of HT_.out (by kernel_rfl)) (by rfl) ?_ ?_ ?_ ?_
        rotate_left; (intro w'; go_simp; with_reducible rfl); rotate_left; (simp only [Act.put, List.setIfInBounds_toArray, List.set_cons_zero, List.set_cons_succ]; rfl)
        refine zpu 28 (some 52) zY29 ?_ rfl rfl (any_of HT_.out (by kernel_rfl)) (by rfl) ?_ ?_ ?_ ?_
        rotate_left; (intro w'; go_simp; with_reducible rfl); rotate_left; (simp only [Act.put, List.setIfInBounds_toArray, List.set_cons_zero, List.set_cons_succ]; rfl)
        refine zpo 29 (some 53) zY30 rfl rfl (any_of HT_.out (by kernel_rfl)) (by rfl) ?_ ?_ ?_
        rotate_left; (simp only [Act.put, List.setIfInBounds_toArray, List.set_cons_zero, List.set_cons_succ]; rfl)
        refine zpo 30 (some 54) zY31 rfl rfl (any_of HT_.out (by kernel_rfl)) (by rfl) ?_ ?_ ?_
        rotate_left; (simp only [Act.put, List.setIfInBounds_toArray, List.set_cons_zero, List.set_cons_succ]; rfl)
        refine zpo 31 (some 55) zY32 rfl rfl (any_of HT_.out (by kernel_rfl)) (by rfl) ?_ ?_ ?_
        rotate_left; (simp only [Act.put, List.setIfInBounds_toArray, List.set_cons_zero, List.set_cons_succ]; rfl)
        refine zpo 32 (some 56) zY33 rfl rfl (any_of HT_.out (by kernel_rfl)) (by rfl) ?_ ?_ ?_
        rotate_left; (simp only [Act.put, List.setIfInBounds_toArray, List.set_cons_zero, List.set_cons_succ]; rfl)
        refine zpo 33 (some 57) zY34 rfl rfl (any_of HT_.out (by kernel_rfl)) (by rfl) ?_ ?_ ?_
        rotate_left; (simp only [Act.put, List.setIfInBounds_toArray, List.set_cons_zero, List.set_cons_succ]; rfl)
        refine zpo 34 (some 58) zY35 rfl rfl (any_of HT_.out (by kernel_rfl)) (by rfl) ?_ ?_ ?_
        rotate_left; (simp only [Act.put, List.setIfInBounds_toArray, List.set_cons_zero, List.set_cons_succ]; rfl)
        refine zpo 35 (some 59) zY36 rfl rfl (any_of HT_.out (by kernel_rfl)) (by rfl) ?_ ?_ ?_
        rotate_left; (simp only [Act.put, List.setIfInBounds_toArray, List.set_cons_zero, List.set_cons_succ]; rfl)
        refine zpu 36 (some 60) zY37 ?_ rfl rfl (any_of HT_.out (by kernel_rfl)) (by rfl) ?_ ?_ ?_ ?_
        rotate_left; (intro w'; go_simp; with_reducible rfl); rotate_left; (simp only [Act.put, List.setIfInBounds_toArray, List.set_cons_zero, List.set_cons_succ]; rfl)
        refine zpu 37 (some 61) zY38 ?_ rfl rfl (any_of HT_.out (by kernel_rfl)) (by rfl) ?_ ?_ ?_ ?_
        rotate_left; (intro w'; go_simp; with_reducible rfl); rotate_left; (simp only [Act.put, List.setIfInBounds_toArray, List.set_cons_zero, List.set_cons_succ]; rfl)
        refine zpu 38 (some 62) zY39 ?_ rfl rfl (any_of HT_.out (by kernel_rfl)) (by rfl) ?_ ?_ ?_ ?_
        rotate_left; (intro w'; go_simp; with_reducible rfl); rotate_left; (simp only [Act.put, List.setIfInBounds_toArray, List.set_cons_zero, List.set_cons_succ]; rfl)
        refine zpu 39 (some 63) zY40 ?_ rfl rfl (any_of HT_.out (by kernel_rfl)) (by rfl) ?_ ?_ ?_ ?_
        rotate_left; (intro w'; go_simp; with_reducible rfl); rotate_left; (simp only [Act.put, List.setIfInBounds_toArray, List.set_cons_zero, List.set_cons_succ]; rfl)
        refine zpu 40 (some 64) zY41 ?_ rfl rfl (any_of HT_.out (by kernel_rfl)) (by rfl) ?_ ?_ ?_ ?_
        rotate_left; (intro w'; go_simp; with_reducible rfl); rotate_left; (simp only [Act.put, List.setIfInBounds_toArray, List.set_cons_zero, List.set_cons_succ]; rfl)
        refine zpu 42 (some 66) zY42 ?_ rfl rfl (any_of HT_.out (by kernel_rfl)) (by rfl) ?_ ?_ ?_ ?_
        rotate_left; (intro w'; go_simp; with_reducible rfl); rotate_left; (simp only [Act.put, List.setIfInBounds_toArray, List.set_cons_zero, List.set_cons_succ]; rfl)
        refine take_ (i := 41) (N := some 65) (v := ?_) (a' := ?_) zY43 rfl rfl (take_ofW HT_.out HW_.out (by kernel_rfl)) (fun _ _ _ h => h) (Or.inl ⟨by rfl, ?_⟩) hHeld ?_ ?_
        rotate_left; (rintro w' ⟨s0, s1, s2, s3, s4⟩; go_simp; with_reducible rfl); rotate_left; (simp only [Act.put, List.setIfInBounds_toArray, List.set_cons_zero, List.set_cons_succ]; rfl)
        refine one_ (i := 43) (N := some 67) zY44 rfl rfl (one_of HT_.out (by kernel_rfl)) (by decide) (fun K hK => ?_)
        refine goes_ Try.func15 (by kernel_rfl) rfl #[.agg #[.int .i64 k3, .int .i64 n3], .int .i64 b] (by rfl) rfl rfl (by simp only [List.map_toArray, List.map_cons, List.map_nil]; rfl) ?_
        with_reducible refine (hfx _).mono ?_
        rintro e w6 ⟨rfl, hb⟩
        refine ⟨_, rfl, ?_⟩
        refine hK.out _ _ ⟨(LsR.below hHeld hb).1, (LsR.below hHeld hb).2.1, (LsR.below hHeld hb).2.2.1, (LsR.below hHeld hb).2.2.2.1, (LsR.below hHeld hb).2.2.2.2⟩ (fun hHeld => ?_)
        clear hK K
        refine norm_ (a' := ?_) ?_ ?_
        rotate_left
        · show Act.put _ (some 67) _ = _
          simp only [Act.put, List.setIfInBounds_toArray, List.set_cons_zero, List.set_cons_succ, i64_w, i32_w]
          rfl
        refine zpu 44 (some 68) zY45 ?_ rfl rfl (any_of HT_.out (by kernel_rfl)) (by rfl) ?_ ?_ ?_ ?_
        rotate_left; (intro w'; go_simp; with_reducible rfl); rotate_left; (simp only [Act.put, List.setIfInBounds_toArray, List.set_cons_zero, List.set_cons_succ]; rfl)
        refine zpu 45 (some 69) zY46 ?_ rfl rfl (any_of HT_.out (by kernel_rfl)) (by rfl) ?_ ?_ ?_ ?_
        rotate_left; (intro w'; go_simp; with_reducible rfl); rotate_left; (simp only [Act.put, List.setIfInBounds_toArray, List.set_cons_zero, List.set_cons_succ]; rfl)
        refine zpu 46 (some 70) zY47 ?_ rfl rfl (any_of HT_.out (by kernel_rfl)) (by rfl) ?_ ?_ ?_ ?_
        rotate_left; (intro w'; go_simp; with_reducible rfl); rotate_left; (simp only [Act.put, List.setIfInBounds_toArray, List.set_cons_zero, List.set_cons_succ]; rfl)
        refine zpu 47 (some 71) zY48 ?_ rfl rfl (any_of HT_.out (by kernel_rfl)) (by rfl) ?_ ?_ ?_ ?_
        rotate_left; (intro w'; go_simp; with_reducible rfl); rotate_left; (simp only [Act.put, List.setIfInBounds_toArray, List.set_cons_zero, List.set_cons_succ]; rfl)
        refine take_ (i := 48) (N := some 72) (v := ?_) (a' := ?_) zY49 rfl rfl (take_ofW HT_.out HW_.out (by kernel_rfl)) (fun _ _ _ h => h) (Or.inl ⟨by rfl, ?_⟩) hHeld ?_ ?_
        rotate_left; (rintro w' ⟨s0, s1, s2, s3, s4⟩; go_simp; with_reducible rfl); rotate_left; (simp only [Act.put, List.setIfInBounds_toArray, List.set_cons_zero, List.set_cons_succ]; rfl)
        refine zpu 49 (some 73) zY50 ?_ rfl rfl (any_of HT_.out (by kernel_rfl)) (by rfl) ?_ ?_ ?_ ?_
        rotate_left; (intro w'; go_simp; with_reducible rfl); rotate_left; (simp only [Act.put, List.setIfInBounds_toArray, List.set_cons_zero, List.set_cons_succ]; rfl)
        refine zpu 50 (some 74) zY51 ?_ rfl rfl (any_of HT_.out (by kernel_rfl)) (by rfl) ?_ ?_ ?_ ?_
        rotate_left; (intro w'; go_simp; with_reducible rfl); rotate_left; (simp only [Act.put, List.setIfInBounds_toArray, List.set_cons_zero, List.set_cons_succ]; rfl)
        refine zpu 51 (some 75) zY52 ?_ rfl rfl (any_of HT_.out (by kernel_rfl)) (by rfl) ?_ ?_ ?_ ?_
        rotate_left; (intro w'; go_simp; with_reducible rfl); rotate_left; (simp only [Act.put, List.setIfInBounds_toArray, List.set_cons_zero, List.set_cons_succ]; rfl)
        refine done_ (done_of HT_.out (by kernel_rfl)) ?_
        have hS1 := hHeld
        have HR := Aside0.mk hS1.2.2.2.2
        clear hS0 hS1 hHeld
        go_wp2
        go_roundw
        case rel => exact .inr (.inr (.inr (.inr (⟨rfl, HR.out⟩))))
        case measure => simp [intOf]
    · have HR := Aside0.mk hR
      clear hR
      go_wp2
      go_ret
      exact ⟨rfl, HR.out.2.2.2⟩
def valancelaw05_LengthSides.Pure : Prop := True
theorem valancelaw05_LengthSides.walk (P : valancelaw05_LengthSides.Pure) (k0 n0 k1 n1 k2 n2 k3 n3 b c : Int) (w : World) (w0 : (Lit.int .i64 k0).wf = true) (w1 : (Lit.int .i64 n0).wf = true) (w2 : (Lit.int .i64 k1).wf = true) (w3 : (Lit.int .i64 n1).wf = true) (w4 : (Lit.int .i64 k2).wf = true) (w5 : (Lit.int .i64 n2).wf = true) (w6 : (Lit.int .i64 k3).wf = true) (w7 : (Lit.int .i64 n3).wf = true) (w8 : (Lit.int .i64 b).wf = true) (w9 : (Lit.int .i64 c).wf = true) : Calls Try.prog 7 #[.agg #[.int .i64 k0, .int .i64 n0, .int .i64 k1, .int .i64 n1, .int .i64 k2, .int .i64 n2, .int .i64 k3, .int .i64 n3], .int .i64 b, .int .i64 c] w fun e w' => e = .returned (.bool true) ∧ Below w.heap.size w w' := zy_law k0 n0 k1 n1 k2 n2 k3 n3 b c w

end Go.Proofs.Ytnmcefpnpfaklaa.V
