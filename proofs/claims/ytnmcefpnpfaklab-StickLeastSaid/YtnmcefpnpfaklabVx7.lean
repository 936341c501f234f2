/- What the functions of this seat answer, as plain Lean functions, and that the calls come to just that (written by a program of this repo, over the kit's printer; Lean checks it). -/
import Derived.Test.YtnmcefpnpfaklabVx0
import Derived.Test.YtnmcefpnpfaklabVx1
import Derived.Test.YtnmcefpnpfaklabVx2
import Derived.Test.YtnmcefpnpfaklabVx3
import Derived.Test.YtnmcefpnpfaklabVx4
import Derived.Test.YtnmcefpnpfaklabVx5
import Derived.Test.YtnmcefpnpfaklabVx6
namespace Go.Proofs.Ytnmcefpnpfaklab.V
open Go.RowKit Go.Proofs.YtnmcefpnpfaklabW.PrintWords Go.Proofs.YtnmcefpnpfaklabW.PrintLast Go.Proofs.YtnmcefpnpfaklabW.PrintMore
attribute [local go_sem] max2_int min2_int max_two min_two max_three min_three max_four min_four   -- for this text's walks alone
set_option linter.unusedVariables false
set_option linter.unusedSimpArgs false

/-! ### valancelaw10_works: function 15 -/
/-- A point. -/
def vpt (x y : Int) : Value := .complex .f64 (floatOfInt .f64 (vcut x)) (floatOfInt .f64 (vcut y))
theorem zk_cut (a : Int) (w : World) : Calls Try.prog 61 #[.int .i64 a] w fun e w' => e = .returned (.int .i64 (vcut a)) ∧ Below w.heap.size w w' := fix_Cut.calls a _ w (fix_Cut_eq a)
theorem zk_of (x y : Int) (w : World) : Calls Try.prog 34 #[.int .i64 x, .int .i64 y] w fun e w' => e = .returned (vpt x y) ∧ Below w.heap.size w w' := by
  have HB := Aside0.mk (Below.refl w.heap.size w)
  go_enter Try.func34, Try.ntmps34
  go_wp2_with (go_at_call 61; refine (zk_cut _ _).mono ?_; rintro e w1 ⟨rfl, hb⟩; replace HB := Aside0.mk (below_step HB.out hb); clear hb)
  go_ret
  exact ⟨rfl, HB.out⟩
theorem goesH_ {P : Program} {Q : Exit → Act → World → Prop} {oi : Oper} {a : Act} {w : World} {Y : Nat → Option Bool} {K : Act → World → Prop} (N : Option Tmp) (hd : oi.dst = N) (hg : Region.wanted oi Y = true) {t : Tmp} {f : FuncId} {fn : Func} {as_ : Array Operand} {ts : Array TypeId} {caps : Array Value} (hf : P.funcs[f]? = some fn) (hname : (fn.name == "runtime.NumGoroutine") = false) (hb : fn.body.isSome = true) (args : Array Value)
    (hop : oi.op = .call { callee := .value (.tmp t), args := as_, argTypes := ts }) (hv : a.eval (.tmp t) = .func (.func f) #[] caps) (hargs : as_.map a.eval = args)
    (h : Calls P f (args ++ caps) w fun e w' => ∃ v, e = .returned v ∧ K (a.put N v) w') : if Region.wanted oi Y = true then Oper.wp P oi a w K Q else K (a.put oi.dst undef) w := by
  rw [if_pos hg]
  have he := enters_ hf hname hb (args ++ caps) w
  have hrun : (execOp a.eval oi).run P w = .ok (.enter f (args ++ caps)) w := by
    unfold execOp
    simp [hop, resolve, Deferred.ofValue, invoke, hv, hargs, he]
  unfold Oper.wp
  rw [hrun, Oper.upon_enter]
  refine h.mono fun e w'' hh => ?_
  obtain ⟨v, rfl, hk⟩ := hh
  subst hd
  exact hk
/-- What the closure has captured, its own boxes, and that all else is as it was. -/
def B1S (g4 g5 g6 : Nat) (x0 x1 x2 x3 y0 y1 y2 y3 z0 z1 z2 z3 : Int) (bo : Bool) (bn : Int) (eo : Bool) (en : Int) (w W : World) : Prop := W.cell? ⟨g4, 0, none⟩ = some (.int .i64 x0) ∧ W.cell? ⟨g4, 1, none⟩ = some (.int .i64 x1) ∧ W.cell? ⟨g4, 2, none⟩ = some (.int .i64 x2) ∧ W.cell? ⟨g4, 3, none⟩ = some (.int .i64 x3) ∧ W.cell? ⟨g5, 0, none⟩ = some (.int .i64 y0) ∧ W.cell? ⟨g5, 1, none⟩ = some (.int .i64 y1) ∧ W.cell? ⟨g5, 2, none⟩ = some (.int .i64 y2) ∧ W.cell? ⟨g5, 3, none⟩ = some (.int .i64 y3) ∧ W.cell? ⟨g6, 0, none⟩ = some (.int .i64 z0) ∧ W.cell? ⟨g6, 1, none⟩ = some (.int .i64 z1) ∧ W.cell? ⟨g6, 2, none⟩ = some (.int .i64 z2) ∧ W.cell? ⟨g6, 3, none⟩ = some (.int .i64 z3) ∧ W.cell? ⟨w.heap.size, 0, none⟩ = some (.bool bo) ∧ W.cell? ⟨w.heap.size, 1, none⟩ = some (.int .i64 bn) ∧ W.cell? ⟨w.heap.size + 1, 0, none⟩ = some (.bool eo) ∧ W.cell? ⟨w.heap.size + 1, 1, none⟩ = some (.int .i64 en) ∧ Below w.heap.size w W
theorem B1S.below {g4 g5 g6 : Nat} {x0 x1 x2 x3 y0 y1 y2 y3 z0 z1 z2 z3 : Int} {bo : Bool} {bn : Int} {eo : Bool} {en : Int} {w W W1 : World} (h : B1S g4 g5 g6 x0 x1 x2 x3 y0 y1 y2 y3 z0 z1 z2 z3 bo bn eo en w W) (hb : Below W.heap.size W W1) : B1S g4 g5 g6 x0 x1 x2 x3 y0 y1 y2 y3 z0 z1 z2 z3 bo bn eo en w W1 := ⟨pw_cell_below hb h.1, pw_cell_below hb h.2.1, pw_cell_below hb h.2.2.1, pw_cell_below hb h.2.2.2.1, pw_cell_below hb h.2.2.2.2.1, pw_cell_below hb h.2.2.2.2.2.1, pw_cell_below hb h.2.2.2.2.2.2.1, pw_cell_below hb h.2.2.2.2.2.2.2.1, pw_cell_below hb h.2.2.2.2.2.2.2.2.1, pw_cell_below hb h.2.2.2.2.2.2.2.2.2.1, pw_cell_below hb h.2.2.2.2.2.2.2.2.2.2.1, pw_cell_below hb h.2.2.2.2.2.2.2.2.2.2.2.1, pw_cell_below hb h.2.2.2.2.2.2.2.2.2.2.2.2.1, pw_cell_below hb h.2.2.2.2.2.2.2.2.2.2.2.2.2.1, pw_cell_below hb h.2.2.2.2.2.2.2.2.2.2.2.2.2.2.1, pw_cell_below hb h.2.2.2.2.2.2.2.2.2.2.2.2.2.2.2.1, below_step h.2.2.2.2.2.2.2.2.2.2.2.2.2.2.2.2 hb⟩
def RcC (g : Nat) (a b c d : Int) (W : World) : Prop := W.cell? ⟨g, 0, none⟩ = some (.int .i64 a) ∧ W.cell? ⟨g, 1, none⟩ = some (.int .i64 b) ∧ W.cell? ⟨g, 2, none⟩ = some (.int .i64 c) ∧ W.cell? ⟨g, 3, none⟩ = some (.int .i64 d)
theorem B1S.start {g4 g5 g6 : Nat} {x0 x1 x2 x3 y0 y1 y2 y3 z0 z1 z2 z3 : Int} {w : World} (bo : Bool) (bn : Int) (eo : Bool) (en : Int) (h4 : RcC g4 x0 x1 x2 x3 w) (h5 : RcC g5 y0 y1 y2 y3 w) (h6 : RcC g6 z0 z1 z2 z3 w) : B1S g4 g5 g6 x0 x1 x2 x3 y0 y1 y2 y3 z0 z1 z2 z3 bo bn eo en w ((w.alloc (.cells #[.bool bo, .int .i64 bn] 25)).alloc (.cells #[.bool eo, .int .i64 en] 25)) := by
  have hb : Below w.heap.size w ((w.alloc (.cells #[.bool bo, .int .i64 bn] 25)).alloc (.cells #[.bool eo, .int .i64 en] 25)) := below_alloc (below_alloc (Below.refl _ _) _) _
  have T := TwoS.start (.bool bo) (.int .i64 bn) (.bool eo) (.int .i64 en) 25 w
  exact ⟨pw_cell_below hb h4.1, pw_cell_below hb h4.2.1, pw_cell_below hb h4.2.2.1, pw_cell_below hb h4.2.2.2, pw_cell_below hb h5.1, pw_cell_below hb h5.2.1, pw_cell_below hb h5.2.2.1, pw_cell_below hb h5.2.2.2, pw_cell_below hb h6.1, pw_cell_below hb h6.2.1, pw_cell_below hb h6.2.2.1, pw_cell_below hb h6.2.2.2, T.1, T.2.1, T.2.2.1, T.2.2.2.1, hb⟩
set_option maxHeartbeats 8000000 in
theorem zk_b1 (f : FuncId) (fn : Func) (hf : Try.prog.funcs[f]? = some fn) (hname : (fn.name == "runtime.NumGoroutine") = false) (hbd : fn.body.isSome = true) (L H : Int → Int → Int → Int → Int)
    (hcall : ∀ (x y z u : Int) (W : World), Calls Try.prog f #[.agg #[.int .i64 x, .int .i64 y, .int .i64 z, .int .i64 u]] W fun e w' => e = .returned (.agg #[.int .i64 (L x y z u), .int .i64 (H x y z u)]) ∧ Below W.heap.size W w')
    (g4 g5 g6 : Nat) (x0 x1 x2 x3 y0 y1 y2 y3 z0 z1 z2 z3 : Int) (bo : Bool) (bn : Int) (eo : Bool) (en r : Int) (w : World) (h4 : RcC g4 x0 x1 x2 x3 w) (h5 : RcC g5 y0 y1 y2 y3 w) (h6 : RcC g6 z0 z1 z2 z3 w)
    (hs : stick_Shift.f 2 (L x0 x1 x2 x3) (H x0 x1 x2 x3) (L y0 y1 y2 y3) (H y0 y1 y2 y3) (L z0 z1 z2 z3) (H z0 z1 z2 z3) bo bn eo en = some r) :
    Calls Try.prog 45 #[.func (.func f) #[] #[], .agg #[.bool bo, .int .i64 bn], .agg #[.bool eo, .int .i64 en], .pointer (some ⟨g4, 0, none⟩), .pointer (some ⟨g5, 0, none⟩), .pointer (some ⟨g6, 0, none⟩)] w fun e w' => e = .returned (.int .i64 r) ∧ Below w.heap.size w w' := by
  have hu25 := Try.underlying25
  have hu33 := Try.underlying33
  have HS := Aside0.mk (B1S.start bo bn eo en h4 h5 h6)
  have HC := Aside0.mk hcall
  have HH := Aside0.mk hs
  have HF := Aside0.mk hf
  have HN := Aside0.mk hname
  have HD := Aside0.mk hbd
  clear h4 h5 h6 hcall hs hf hname hbd
  go_enter Try.func45, Try.ntmps45
  go_wp2
  have hS0 := HS.out
  unfold B1S at hS0
  go_region_held3 (fun w' => w'.cell? ⟨g4, 0, none⟩ = some (.int .i64 x0) ∧ w'.cell? ⟨g4, 1, none⟩ = some (.int .i64 x1) ∧ w'.cell? ⟨g4, 2, none⟩ = some (.int .i64 x2) ∧ w'.cell? ⟨g4, 3, none⟩ = some (.int .i64 x3) ∧ w'.cell? ⟨g5, 0, none⟩ = some (.int .i64 y0) ∧ w'.cell? ⟨g5, 1, none⟩ = some (.int .i64 y1) ∧ w'.cell? ⟨g5, 2, none⟩ = some (.int .i64 y2) ∧ w'.cell? ⟨g5, 3, none⟩ = some (.int .i64 y3) ∧ w'.cell? ⟨g6, 0, none⟩ = some (.int .i64 z0) ∧ w'.cell? ⟨g6, 1, none⟩ = some (.int .i64 z1) ∧ w'.cell? ⟨g6, 2, none⟩ = some (.int .i64 z2) ∧ w'.cell? ⟨g6, 3, none⟩ = some (.int .i64 z3) ∧ w'.cell? ⟨w.heap.size, 0, none⟩ = some (.bool bo) ∧ w'.cell? ⟨w.heap.size, 1, none⟩ = some (.int .i64 bn) ∧ w'.cell? ⟨w.heap.size + 1, 0, none⟩ = some (.bool eo) ∧ w'.cell? ⟨w.heap.size + 1, 1, none⟩ = some (.int .i64 en) ∧ Below w.heap.size w w') ((first | exact B1S.below hS0 (below_drew (Below.refl _ _)) | assumption | (refine B1S.below ?_ hb; assumption))) ((first | (go_at_call 16; refine (stick_Shift.calls 2 _ _ _ _ _ _ _ _ _ _ _ _ HH.out).mono ?_; rintro e w1 ⟨rfl, hb⟩) | (refine goesH_ _ rfl (by rfl) HF.out HN.out HD.out #[.agg #[.int .i64 x0, .int .i64 x1, .int .i64 x2, .int .i64 x3]] rfl rfl (by (try simp only [List.map_toArray, List.map_cons, List.map_nil]); first | done | rfl) ?_; refine (HC.out _ _ _ _ _).mono ?_; rintro e w1 ⟨rfl, hb⟩; refine ⟨_, rfl, ?_⟩) | (refine goesH_ _ rfl (by rfl) HF.out HN.out HD.out #[.agg #[.int .i64 y0, .int .i64 y1, .int .i64 y2, .int .i64 y3]] rfl rfl (by (try simp only [List.map_toArray, List.map_cons, List.map_nil]); first | done | rfl) ?_; refine (HC.out _ _ _ _ _).mono ?_; rintro e w1 ⟨rfl, hb⟩; refine ⟨_, rfl, ?_⟩) | (refine goesH_ _ rfl (by rfl) HF.out HN.out HD.out #[.agg #[.int .i64 z0, .int .i64 z1, .int .i64 z2, .int .i64 z3]] rfl rfl (by (try simp only [List.map_toArray, List.map_cons, List.map_nil]); first | done | rfl) ?_; refine (HC.out _ _ _ _ _).mono ?_; rintro e w1 ⟨rfl, hb⟩; refine ⟨_, rfl, ?_⟩)))
  have hS1 : B1S g4 g5 g6 x0 x1 x2 x3 y0 y1 y2 y3 z0 z1 z2 z3 bo bn eo en w w1 := by assumption
  have HB := Aside0.mk hS1.2.2.2.2.2.2.2.2.2.2.2.2.2.2.2.2
  clear hS0 hS1 HS
  go_wp2
  go_ret
  exact ⟨rfl, HB.out⟩

theorem zk_across (x y z u : Int) (w : World) : Calls Try.prog 46 #[.agg #[.int .i64 x, .int .i64 y, .int .i64 z, .int .i64 u]] w fun e w' => e = .returned (.agg #[.int .i64 (vcut x), .int .i64 (vadd x (mx z 0))]) ∧ Below w.heap.size w w' := rect_Across.calls x y z u _ _ w (by unfold rect_Across.f span_Of.f; simp [fix_Cut_eq, fix_Add_eq])
theorem zk_down (x y z u : Int) (w : World) : Calls Try.prog 47 #[.agg #[.int .i64 x, .int .i64 y, .int .i64 z, .int .i64 u]] w fun e w' => e = .returned (.agg #[.int .i64 (vcut y), .int .i64 (vadd y (mx u 0))]) ∧ Below w.heap.size w w' := rect_Down.calls x y z u _ _ w (by unfold rect_Down.f span_Of.f; simp [fix_Cut_eq, fix_Add_eq])
/-- The boxes of Both: three rectangles, four sides. -/
def BoS (w W : World) : Prop := W.cell? ⟨w.heap.size, 0, none⟩ = some (.int .i64 0) ∧ W.cell? ⟨w.heap.size, 1, none⟩ = some (.int .i64 10) ∧ W.cell? ⟨w.heap.size, 2, none⟩ = some (.int .i64 4) ∧ W.cell? ⟨w.heap.size, 3, none⟩ = some (.int .i64 4) ∧ W.cell? ⟨w.heap.size + 1, 0, none⟩ = some (.int .i64 0) ∧ W.cell? ⟨w.heap.size + 1, 1, none⟩ = some (.int .i64 0) ∧ W.cell? ⟨w.heap.size + 1, 2, none⟩ = some (.int .i64 9) ∧ W.cell? ⟨w.heap.size + 1, 3, none⟩ = some (.int .i64 100) ∧ W.cell? ⟨w.heap.size + 1 + 1, 0, none⟩ = some (.int .i64 0) ∧ W.cell? ⟨w.heap.size + 1 + 1, 1, none⟩ = some (.int .i64 30) ∧ W.cell? ⟨w.heap.size + 1 + 1, 2, none⟩ = some (.int .i64 9) ∧ W.cell? ⟨w.heap.size + 1 + 1, 3, none⟩ = some (.int .i64 50) ∧ W.cell? ⟨w.heap.size + 1 + 1 + 1, 0, none⟩ = some (.bool true) ∧ W.cell? ⟨w.heap.size + 1 + 1 + 1, 1, none⟩ = some (.int .i64 5) ∧ W.cell? ⟨w.heap.size + 1 + 1 + 1, 2, none⟩ = some (.bool false) ∧ W.cell? ⟨w.heap.size + 1 + 1 + 1, 3, none⟩ = some (.int .i64 0) ∧ W.cell? ⟨w.heap.size + 1 + 1 + 1, 4, none⟩ = some (.bool false) ∧ W.cell? ⟨w.heap.size + 1 + 1 + 1, 5, none⟩ = some (.int .i64 0) ∧ W.cell? ⟨w.heap.size + 1 + 1 + 1, 6, none⟩ = some (.bool false) ∧ W.cell? ⟨w.heap.size + 1 + 1 + 1, 7, none⟩ = some (.int .i64 0) ∧ Below w.heap.size w W
theorem BoS.below {w W W1 : World} (h : BoS w W) (hb : Below W.heap.size W W1) : BoS w W1 := ⟨pw_cell_below hb h.1, pw_cell_below hb h.2.1, pw_cell_below hb h.2.2.1, pw_cell_below hb h.2.2.2.1, pw_cell_below hb h.2.2.2.2.1, pw_cell_below hb h.2.2.2.2.2.1, pw_cell_below hb h.2.2.2.2.2.2.1, pw_cell_below hb h.2.2.2.2.2.2.2.1, pw_cell_below hb h.2.2.2.2.2.2.2.2.1, pw_cell_below hb h.2.2.2.2.2.2.2.2.2.1, pw_cell_below hb h.2.2.2.2.2.2.2.2.2.2.1, pw_cell_below hb h.2.2.2.2.2.2.2.2.2.2.2.1, pw_cell_below hb h.2.2.2.2.2.2.2.2.2.2.2.2.1, pw_cell_below hb h.2.2.2.2.2.2.2.2.2.2.2.2.2.1, pw_cell_below hb h.2.2.2.2.2.2.2.2.2.2.2.2.2.2.1, pw_cell_below hb h.2.2.2.2.2.2.2.2.2.2.2.2.2.2.2.1, pw_cell_below hb h.2.2.2.2.2.2.2.2.2.2.2.2.2.2.2.2.1, pw_cell_below hb h.2.2.2.2.2.2.2.2.2.2.2.2.2.2.2.2.2.1, pw_cell_below hb h.2.2.2.2.2.2.2.2.2.2.2.2.2.2.2.2.2.2.1, pw_cell_below hb h.2.2.2.2.2.2.2.2.2.2.2.2.2.2.2.2.2.2.2.1, below_step h.2.2.2.2.2.2.2.2.2.2.2.2.2.2.2.2.2.2.2.2 hb⟩
theorem BoS.r4 {w W : World} (h : BoS w W) : RcC w.heap.size 0 10 4 4 W := ⟨h.1, h.2.1, h.2.2.1, h.2.2.2.1⟩
theorem BoS.r5 {w W : World} (h : BoS w W) : RcC (w.heap.size + 1) 0 0 9 100 W := by
  have g := h.2.2.2.2
  exact ⟨g.1, g.2.1, g.2.2.1, g.2.2.2.1⟩
theorem BoS.r6 {w W : World} (h : BoS w W) : RcC (w.heap.size + 1 + 1) 0 30 9 50 W := by
  have g := h.2.2.2.2.2.2.2.2
  exact ⟨g.1, g.2.1, g.2.2.1, g.2.2.2.1⟩
theorem BoS.start (w : World) : BoS w ((((w.alloc (.cells #[.int .i64 0, .int .i64 10, .int .i64 4, .int .i64 4] 33)).alloc (.cells #[.int .i64 0, .int .i64 0, .int .i64 9, .int .i64 100] 33)).alloc (.cells #[.int .i64 0, .int .i64 30, .int .i64 9, .int .i64 50] 33)).alloc (.cells #[.bool true, .int .i64 5, .bool false, .int .i64 0, .bool false, .int .i64 0, .bool false, .int .i64 0] 38)) := by
  have B4 := blk_alloc (blk_alloc (blk_alloc (blk_new w (.cells #[.int .i64 0, .int .i64 10, .int .i64 4, .int .i64 4] 33)) (.cells #[.int .i64 0, .int .i64 0, .int .i64 9, .int .i64 100] 33)) (.cells #[.int .i64 0, .int .i64 30, .int .i64 9, .int .i64 50] 33)) (.cells #[.bool true, .int .i64 5, .bool false, .int .i64 0, .bool false, .int .i64 0, .bool false, .int .i64 0] 38)
  have B5 := blk_alloc (blk_alloc (blk_new (w.alloc (.cells #[.int .i64 0, .int .i64 10, .int .i64 4, .int .i64 4] 33)) (.cells #[.int .i64 0, .int .i64 0, .int .i64 9, .int .i64 100] 33)) (.cells #[.int .i64 0, .int .i64 30, .int .i64 9, .int .i64 50] 33)) (.cells #[.bool true, .int .i64 5, .bool false, .int .i64 0, .bool false, .int .i64 0, .bool false, .int .i64 0] 38)
  have B6 := blk_alloc (blk_new ((w.alloc (.cells #[.int .i64 0, .int .i64 10, .int .i64 4, .int .i64 4] 33)).alloc (.cells #[.int .i64 0, .int .i64 0, .int .i64 9, .int .i64 100] 33)) (.cells #[.int .i64 0, .int .i64 30, .int .i64 9, .int .i64 50] 33)) (.cells #[.bool true, .int .i64 5, .bool false, .int .i64 0, .bool false, .int .i64 0, .bool false, .int .i64 0] 38)
  have B7 := blk_new (((w.alloc (.cells #[.int .i64 0, .int .i64 10, .int .i64 4, .int .i64 4] 33)).alloc (.cells #[.int .i64 0, .int .i64 0, .int .i64 9, .int .i64 100] 33)).alloc (.cells #[.int .i64 0, .int .i64 30, .int .i64 9, .int .i64 50] 33)) (.cells #[.bool true, .int .i64 5, .bool false, .int .i64 0, .bool false, .int .i64 0, .bool false, .int .i64 0] 38)
  simp only [World.size_alloc] at B5 B6 B7
  exact ⟨(blk_cell B4 0).trans rfl, (blk_cell B4 1).trans rfl, (blk_cell B4 2).trans rfl, (blk_cell B4 3).trans rfl, (blk_cell B5 0).trans rfl, (blk_cell B5 1).trans rfl, (blk_cell B5 2).trans rfl, (blk_cell B5 3).trans rfl, (blk_cell B6 0).trans rfl, (blk_cell B6 1).trans rfl, (blk_cell B6 2).trans rfl, (blk_cell B6 3).trans rfl, (blk_cell B7 0).trans rfl, (blk_cell B7 1).trans rfl, (blk_cell B7 2).trans rfl, (blk_cell B7 3).trans rfl, (blk_cell B7 4).trans rfl, (blk_cell B7 5).trans rfl, (blk_cell B7 6).trans rfl, (blk_cell B7 7).trans rfl, below_alloc (below_alloc (below_alloc (below_alloc (Below.refl _ _) _) _) _) _⟩
set_option maxHeartbeats 8000000 in
theorem zk_both (w : World) : Calls Try.prog 21 #[.agg #[.int .i64 0, .int .i64 10, .int .i64 4, .int .i64 4], .agg #[.int .i64 0, .int .i64 0, .int .i64 9, .int .i64 100], .agg #[.int .i64 0, .int .i64 30, .int .i64 9, .int .i64 50], .agg #[.bool true, .int .i64 5, .bool false, .int .i64 0, .bool false, .int .i64 0, .bool false, .int .i64 0]] w fun e w' => e = .returned (vpt 0 25) ∧ Below w.heap.size w w' := by
  have hu25 := Try.underlying25
  have hu33 := Try.underlying33
  have hu38 := Try.underlying38
  have HS := Aside0.mk (BoS.start w)
  go_enter Try.func21, Try.ntmps21
  go_wp2
  have hS0 := HS.out
  unfold BoS at hS0
  go_region_held3 (fun w' => w'.cell? ⟨w.heap.size, 0, none⟩ = some (.int .i64 0) ∧ w'.cell? ⟨w.heap.size, 1, none⟩ = some (.int .i64 10) ∧ w'.cell? ⟨w.heap.size, 2, none⟩ = some (.int .i64 4) ∧ w'.cell? ⟨w.heap.size, 3, none⟩ = some (.int .i64 4) ∧ w'.cell? ⟨w.heap.size + 1, 0, none⟩ = some (.int .i64 0) ∧ w'.cell? ⟨w.heap.size + 1, 1, none⟩ = some (.int .i64 0) ∧ w'.cell? ⟨w.heap.size + 1, 2, none⟩ = some (.int .i64 9) ∧ w'.cell? ⟨w.heap.size + 1, 3, none⟩ = some (.int .i64 100) ∧ w'.cell? ⟨w.heap.size + 1 + 1, 0, none⟩ = some (.int .i64 0) ∧ w'.cell? ⟨w.heap.size + 1 + 1, 1, none⟩ = some (.int .i64 30) ∧ w'.cell? ⟨w.heap.size + 1 + 1, 2, none⟩ = some (.int .i64 9) ∧ w'.cell? ⟨w.heap.size + 1 + 1, 3, none⟩ = some (.int .i64 50) ∧ w'.cell? ⟨w.heap.size + 1 + 1 + 1, 0, none⟩ = some (.bool true) ∧ w'.cell? ⟨w.heap.size + 1 + 1 + 1, 1, none⟩ = some (.int .i64 5) ∧ w'.cell? ⟨w.heap.size + 1 + 1 + 1, 2, none⟩ = some (.bool false) ∧ w'.cell? ⟨w.heap.size + 1 + 1 + 1, 3, none⟩ = some (.int .i64 0) ∧ w'.cell? ⟨w.heap.size + 1 + 1 + 1, 4, none⟩ = some (.bool false) ∧ w'.cell? ⟨w.heap.size + 1 + 1 + 1, 5, none⟩ = some (.int .i64 0) ∧ w'.cell? ⟨w.heap.size + 1 + 1 + 1, 6, none⟩ = some (.bool false) ∧ w'.cell? ⟨w.heap.size + 1 + 1 + 1, 7, none⟩ = some (.int .i64 0) ∧ Below w.heap.size w w') ((first | exact BoS.below hS0 (below_drew (Below.refl _ _)) | assumption | (refine BoS.below ?_ hb; assumption))) ((first | (go_at_call 34; refine (zk_of _ _ _).mono ?_; rintro e w1 ⟨rfl, hb⟩) | (refine goesH_ _ rfl (by rfl) Try.func45 (by kernel_rfl) rfl #[.func (.func 46) #[] #[], .agg #[.bool false, .int .i64 0], .agg #[.bool false, .int .i64 0]] rfl rfl (by (try simp only [List.map_toArray, List.map_cons, List.map_nil]); first | done | rfl) ?_; refine (zk_b1 46 _ Try.func46 (by kernel_rfl) rfl _ _ zk_across _ _ _ 0 10 4 4 0 0 9 100 0 30 9 50 false 0 false 0 0 _ (BoS.r4 (by assumption)) (BoS.r5 (by assumption)) (BoS.r6 (by assumption)) (by decide +kernel)).mono ?_; rintro e w1 ⟨rfl, hb⟩; refine ⟨_, rfl, ?_⟩) | (refine goesH_ _ rfl (by rfl) Try.func45 (by kernel_rfl) rfl #[.func (.func 47) #[] #[], .agg #[.bool true, .int .i64 5], .agg #[.bool false, .int .i64 0]] rfl rfl (by (try simp only [List.map_toArray, List.map_cons, List.map_nil]); first | done | rfl) ?_; refine (zk_b1 47 _ Try.func47 (by kernel_rfl) rfl _ _ zk_down _ _ _ 0 10 4 4 0 0 9 100 0 30 9 50 true 5 false 0 25 _ (BoS.r4 (by assumption)) (BoS.r5 (by assumption)) (BoS.r6 (by assumption)) (by decide +kernel)).mono ?_; rintro e w1 ⟨rfl, hb⟩; refine ⟨_, rfl, ?_⟩)))
  have hS1 : BoS w w1 := by assumption
  have HB := Aside0.mk hS1.2.2.2.2.2.2.2.2.2.2.2.2.2.2.2.2.2.2.2.2
  clear hS0 hS1 HS
  go_wp2
  go_ret
  exact ⟨rfl, HB.out⟩

/-- The boxes of Sides: the bases, and what is set. -/
def StkR (o : Bool) (n : Int) (w W : World) : Prop := W.heap[w.heap.size + 1 + 1 + 1]? = some (.cells #[.bool o, .int .i64 n, .bool false, .int .i64 0, .bool false, .int .i64 0, .bool false, .int .i64 0] 38 (0, 0)) ∧ W.heap[w.heap.size + 1 + 1]? = some (.cells #[.int .i64 10, .int .i64 10, .int .i64 10, .int .i64 10] 67 (0, 0)) ∧ W.heap[w.heap.size + 1]? = some (.cells #[.bool false, .int .i64 0, .bool false, .int .i64 0, .bool false, .int .i64 0, .bool false, .int .i64 0] 38 (0, 0)) ∧ Below w.heap.size w W
theorem StkR.below {o : Bool} {n : Int} {w W W1 : World} (h : StkR o n w W) (hb : Below W.heap.size W W1) : StkR o n w W1 := ⟨blk_below h.1 hb, blk_below h.2.1 hb, blk_below h.2.2.1 hb, below_step h.2.2.2 hb⟩
def StkL (w : World) (i : Value) (W : World) : Prop := (i = .int .i64 0 ∧ StkR false 0 w W) ∨ (i = .int .i64 1 ∧ StkR true 5 w W) ∨ (i = .int .i64 2 ∧ StkR true 5 w W) ∨ (i = .int .i64 3 ∧ StkR true 5 w W) ∨ (i = .int .i64 4 ∧ StkR true 5 w W)
theorem zk_fix (k n b : Int) (w : World) : Calls Try.prog 41 #[.agg #[.int .i64 k, .int .i64 n], .int .i64 b] w fun e w' => e = .returned (.bool (vfixed k b)) ∧ Below w.heap.size w w' := length_Fixed.calls k n b _ w (length_Fixed_eq k n b)
theorem zk_lof (w : World) : Calls Try.prog 42 #[.agg #[.int .i64 1, .int .i64 5], .int .i64 10, .int .i64 0] w fun e w' => e = .returned (.int .i64 5) ∧ Below w.heap.size w w' := length_Of.calls 1 5 10 0 _ w (by decide +kernel)
theorem zk_fix1 (w : World) : Calls Try.prog 41 #[.agg #[.int .i64 1, .int .i64 5], .int .i64 10] w fun e w' => e = .returned (.bool true) ∧ Below w.heap.size w w' := length_Fixed.calls 1 5 10 _ w (by decide +kernel)
theorem zk_fix0 (w : World) : Calls Try.prog 41 #[.agg #[.int .i64 0, .int .i64 0], .int .i64 10] w fun e w' => e = .returned (.bool false) ∧ Below w.heap.size w w' := length_Fixed.calls 0 0 10 _ w (by decide +kernel)
theorem StkR.start (w : World) : StkR false 0 w ((((w.alloc (.cells #[.int .i64 1, .int .i64 5, .int .i64 0, .int .i64 0, .int .i64 0, .int .i64 0, .int .i64 0, .int .i64 0] 37)).alloc (.cells #[.bool false, .int .i64 0, .bool false, .int .i64 0, .bool false, .int .i64 0, .bool false, .int .i64 0] 38)).alloc (.cells #[.int .i64 10, .int .i64 10, .int .i64 10, .int .i64 10] 67)).alloc (.cells #[.bool false, .int .i64 0, .bool false, .int .i64 0, .bool false, .int .i64 0, .bool false, .int .i64 0] 38)) := by
  have B5 := blk_alloc (blk_alloc (blk_new (w.alloc (.cells #[.int .i64 1, .int .i64 5, .int .i64 0, .int .i64 0, .int .i64 0, .int .i64 0, .int .i64 0, .int .i64 0] 37)) (.cells #[.bool false, .int .i64 0, .bool false, .int .i64 0, .bool false, .int .i64 0, .bool false, .int .i64 0] 38)) (.cells #[.int .i64 10, .int .i64 10, .int .i64 10, .int .i64 10] 67)) (.cells #[.bool false, .int .i64 0, .bool false, .int .i64 0, .bool false, .int .i64 0, .bool false, .int .i64 0] 38)
  have B6 := blk_alloc (blk_new ((w.alloc (.cells #[.int .i64 1, .int .i64 5, .int .i64 0, .int .i64 0, .int .i64 0, .int .i64 0, .int .i64 0, .int .i64 0] 37)).alloc (.cells #[.bool false, .int .i64 0, .bool false, .int .i64 0, .bool false, .int .i64 0, .bool false, .int .i64 0] 38)) (.cells #[.int .i64 10, .int .i64 10, .int .i64 10, .int .i64 10] 67)) (.cells #[.bool false, .int .i64 0, .bool false, .int .i64 0, .bool false, .int .i64 0, .bool false, .int .i64 0] 38)
  have B7 := blk_new (((w.alloc (.cells #[.int .i64 1, .int .i64 5, .int .i64 0, .int .i64 0, .int .i64 0, .int .i64 0, .int .i64 0, .int .i64 0] 37)).alloc (.cells #[.bool false, .int .i64 0, .bool false, .int .i64 0, .bool false, .int .i64 0, .bool false, .int .i64 0] 38)).alloc (.cells #[.int .i64 10, .int .i64 10, .int .i64 10, .int .i64 10] 67)) (.cells #[.bool false, .int .i64 0, .bool false, .int .i64 0, .bool false, .int .i64 0, .bool false, .int .i64 0] 38)
  simp only [World.size_alloc] at B5 B6 B7
  exact ⟨B7, B6, B5, below_alloc (below_alloc (below_alloc (below_alloc (Below.refl _ _) _) _) _) _⟩
theorem StkR.put {w W : World} (h : StkR false 0 w W) : StkR true 5 w ((W.setCell ⟨w.heap.size + 1 + 1 + 1, 0, none⟩ (.bool true)).setCell ⟨w.heap.size + 1 + 1 + 1, 1, none⟩ (.int .i64 5)) :=
  ⟨blk_put (blk_put h.1 0 (.bool true) rfl) 1 (.int .i64 5) rfl, blk_far (blk_far h.2.1 (by show w.heap.size + 1 + 1 ≠ w.heap.size + 1 + 1 + 1; omega) _) (by show w.heap.size + 1 + 1 ≠ w.heap.size + 1 + 1 + 1; omega) _, blk_far (blk_far h.2.2.1 (by show w.heap.size + 1 ≠ w.heap.size + 1 + 1 + 1; omega) _) (by show w.heap.size + 1 ≠ w.heap.size + 1 + 1 + 1; omega) _, below_set (below_set h.2.2.2 (by omega)) (by omega)⟩
/-- What the round that sets reads. -/
def Stk7 (g : Nat) (w W : World) : Prop := W.cell? ⟨g, 0, none⟩ = some (.int .i64 1) ∧ W.cell? ⟨g, 1, none⟩ = some (.int .i64 5) ∧ W.cell? ⟨w.heap.size + 1 + 1, 0, none⟩ = some (.int .i64 10) ∧ W.heap[g]? = some (.cells #[.int .i64 1, .int .i64 5] 36 (0, 0)) ∧ W.heap[w.heap.size + 1 + 1]? = some (.cells #[.int .i64 10, .int .i64 10, .int .i64 10, .int .i64 10] 67 (0, 0))
theorem Stk7.mk {g : Nat} {w W : World} (h1 : W.heap[g]? = some (.cells #[.int .i64 1, .int .i64 5] 36 (0, 0))) (h2 : W.heap[w.heap.size + 1 + 1]? = some (.cells #[.int .i64 10, .int .i64 10, .int .i64 10, .int .i64 10] 67 (0, 0))) : Stk7 g w W := ⟨(blk_cell h1 0).trans rfl, (blk_cell h1 1).trans rfl, (blk_cell h2 0).trans rfl, h1, h2⟩
theorem Stk7.below {g : Nat} {w W W1 : World} (h : Stk7 g w W) (hb : Below W.heap.size W W1) : Stk7 g w W1 := Stk7.mk (blk_below h.2.2.2.1 hb) (blk_below h.2.2.2.2 hb)
theorem Stk7.set {g : Nat} {w W : World} (h : Stk7 g w W) (hg : g ≠ w.heap.size + 1 + 1 + 1) (k : Nat) (v : Value) : Stk7 g w (W.setCell ⟨w.heap.size + 1 + 1 + 1, k, none⟩ v) := Stk7.mk (blk_far h.2.2.2.1 hg _) (blk_far h.2.2.2.2 (by show w.heap.size + 1 + 1 ≠ w.heap.size + 1 + 1 + 1; omega) _)
/-- What a round reads. -/
def Stk6 (kd n : Int) (k g : Nat) (o : Bool) (m : Int) (w W0 W : World) : Prop := W.cell? ⟨g, 0, none⟩ = some (.int .i64 kd) ∧ W.cell? ⟨g, 1, none⟩ = some (.int .i64 n) ∧ W.cell? ⟨w.heap.size + 1 + 1, k, none⟩ = some (.int .i64 10) ∧ StkR o m w W ∧ Below W0.heap.size W0 W
theorem Stk6.below {kd n : Int} {k g : Nat} {o : Bool} {m : Int} {w W0 W W1 : World} (h : Stk6 kd n k g o m w W0 W) (hb : Below W.heap.size W W1) : Stk6 kd n k g o m w W0 W1 := ⟨pw_cell_below hb h.1, pw_cell_below hb h.2.1, pw_cell_below hb h.2.2.1, h.2.2.2.1.below hb, below_step h.2.2.2.2 hb⟩
theorem Stk6.start {o : Bool} {m : Int} {w W : World} (h : StkR o m w W) (kd n : Int) (k : Nat) (hk : (#[.int .i64 10, .int .i64 10, .int .i64 10, .int .i64 10] : Array Value)[k]? = some (.int .i64 10)) : Stk6 kd n k W.heap.size o m w W (W.alloc (.cells #[.int .i64 kd, .int .i64 n] 36)) := by
  have hb : Below W.heap.size W (W.alloc (.cells #[.int .i64 kd, .int .i64 n] 36)) := below_alloc (Below.refl _ _) _
  have B := blk_new W (.cells #[.int .i64 kd, .int .i64 n] 36)
  exact ⟨(blk_cell B 0).trans rfl, (blk_cell B 1).trans rfl, pw_cell_below hb ((blk_cell h.2.1 k).trans hk), h.below hb, hb⟩
set_option maxHeartbeats 8000000 in
theorem zk_sides (w : World) : Calls Try.prog 19 #[.agg #[.int .i64 1, .int .i64 5, .int .i64 0, .int .i64 0, .int .i64 0, .int .i64 0, .int .i64 0, .int .i64 0], .int .i64 10, .int .i64 10] w fun e w' => e = .returned (.agg #[.bool true, .int .i64 5, .bool false, .int .i64 0, .bool false, .int .i64 0, .bool false, .int .i64 0]) ∧ Below w.heap.size w w' := by
  have hu36 := Try.underlying36
  have hu25 := Try.underlying25
  have hu37 := Try.underlying37
  have hu38 := Try.underlying38
  have hu67 := Try.underlying67
  have ix0 : ∀ w, (Instr.index 37 (.agg #[.int .i64 1, .int .i64 5, .int .i64 0, .int .i64 0, .int .i64 0, .int .i64 0, .int .i64 0, .int .i64 0]) (.int .i64 0)).run Try.prog w = .ok (.agg #[.int .i64 1, .int .i64 5]) w := fun _ => by kernel_rfl
  have ix1 : ∀ w, (Instr.index 37 (.agg #[.int .i64 1, .int .i64 5, .int .i64 0, .int .i64 0, .int .i64 0, .int .i64 0, .int .i64 0, .int .i64 0]) (.int .i64 1)).run Try.prog w = .ok (.agg #[.int .i64 0, .int .i64 0]) w := fun _ => by kernel_rfl
  have ix2 : ∀ w, (Instr.index 37 (.agg #[.int .i64 1, .int .i64 5, .int .i64 0, .int .i64 0, .int .i64 0, .int .i64 0, .int .i64 0, .int .i64 0]) (.int .i64 2)).run Try.prog w = .ok (.agg #[.int .i64 0, .int .i64 0]) w := fun _ => by kernel_rfl
  have ix3 : ∀ w, (Instr.index 37 (.agg #[.int .i64 1, .int .i64 5, .int .i64 0, .int .i64 0, .int .i64 0, .int .i64 0, .int .i64 0, .int .i64 0]) (.int .i64 3)).run Try.prog w = .ok (.agg #[.int .i64 0, .int .i64 0]) w := fun _ => by kernel_rfl
  go_enter Try.func19, Try.ntmps19
  go_wp2
  go_loopw [17] (fun i W => StkL w i W) (fun i _ => 4 - (intOf i).toNat)
  case atStart => exact .inl ⟨rfl, StkR.start w⟩
  case round =>
    rcases hrel with ⟨rfl, hR⟩ | ⟨rfl, hR⟩ | ⟨rfl, hR⟩ | ⟨rfl, hR⟩ | ⟨rfl, hR⟩
    · have HS := Aside0.mk (Stk6.start hR 1 5 0 rfl)
      have hg : wr.heap.size ≠ w.heap.size + 1 + 1 + 1 := by have := (Array.getElem?_eq_some_iff.1 hR.1).1; omega
      clear hR
      go_wp2
      have hS0 := HS.out
      unfold Stk6 at hS0
      go_region_held3 (fun w' => w'.cell? ⟨wr.heap.size, 0, none⟩ = some (.int .i64 1) ∧ w'.cell? ⟨wr.heap.size, 1, none⟩ = some (.int .i64 5) ∧ w'.cell? ⟨w.heap.size + 1 + 1, 0, none⟩ = some (.int .i64 10) ∧ StkR false 0 w w' ∧ Below wr.heap.size wr w') ((first | exact Stk6.below hS0 (below_drew (Below.refl _ _)) | assumption | (refine Stk6.below ?_ hb; assumption))) ((go_at_call 41; refine (zk_fix1 _).mono ?_; rintro e w1 ⟨rfl, hb⟩))
      have hS1 : Stk6 1 5 0 wr.heap.size false 0 w wr w1 := by assumption
      have HR := Aside0.mk hS1.2.2.2.1
      have hbx : w1.heap[wr.heap.size]? = some (.cells #[.int .i64 1, .int .i64 5] 36 (0, 0)) := blk_below (blk_below (blk_new wr _) (below_drew (Below.refl _ _))) hb
      have hS7 : Stk7 wr.heap.size w w1 := Stk7.mk hbx hS1.2.2.2.1.2.1
      clear hS0 HS hS1 hbx hb
      go_wp2
      have hS0 := hS7
      unfold Stk7 at hS0
      clear hS7
      go_region_held3 (fun w' => w'.cell? ⟨wr.heap.size, 0, none⟩ = some (.int .i64 1) ∧ w'.cell? ⟨wr.heap.size, 1, none⟩ = some (.int .i64 5) ∧ w'.cell? ⟨w.heap.size + 1 + 1, 0, none⟩ = some (.int .i64 10) ∧ w'.heap[wr.heap.size]? = some (.cells #[.int .i64 1, .int .i64 5] 36 (0, 0)) ∧ w'.heap[w.heap.size + 1 + 1]? = some (.cells #[.int .i64 10, .int .i64 10, .int .i64 10, .int .i64 10] 67 (0, 0))) ((first | exact Stk7.below hS0 (below_drew (Below.refl _ _)) | assumption | (refine Stk7.below ?_ hb; assumption) | (refine Stk7.set (Stk7.set ?_ hg _ _) hg _ _; assumption))) ((go_at_call 42; refine (zk_lof _).mono ?_; rintro e w2 ⟨rfl, hb⟩; have HR2 := Aside0.mk (StkR.below (StkR.below HR.out (below_drew (Below.refl _ _))) hb); have hc0 : w2.cell? ⟨w.heap.size + 1 + 1 + 1, 0, none⟩ = some (.bool false) := (blk_cell HR2.out.1 0).trans rfl; have hc1 : w2.cell? ⟨w.heap.size + 1 + 1 + 1, 1, none⟩ = some (.int .i64 0) := (blk_cell HR2.out.1 1).trans rfl; have hf0 := blk_frozen HR2.out.1 0; have hf1 := blk_frozen HR2.out.1 1))
      go_wp2
      go_roundw
      case rel => exact .inr (.inl ⟨rfl, StkR.put HR2.out⟩)
      case measure => simp [intOf]
    · have HS := Aside0.mk (Stk6.start hR 0 0 1 rfl)
      clear hR
      go_wp2
      have hS0 := HS.out
      unfold Stk6 at hS0
      go_region_held3 (fun w' => w'.cell? ⟨wr.heap.size, 0, none⟩ = some (.int .i64 0) ∧ w'.cell? ⟨wr.heap.size, 1, none⟩ = some (.int .i64 0) ∧ w'.cell? ⟨w.heap.size + 1 + 1, 1, none⟩ = some (.int .i64 10) ∧ StkR true 5 w w' ∧ Below wr.heap.size wr w') ((first | exact Stk6.below hS0 (below_drew (Below.refl _ _)) | assumption | (refine Stk6.below ?_ hb; assumption))) ((go_at_call 41; refine (zk_fix0 _).mono ?_; rintro e w1 ⟨rfl, hb⟩))
      have hS1 : Stk6 0 0 1 wr.heap.size true 5 w wr w1 := by assumption
      have HR := Aside0.mk hS1.2.2.2.1
      clear hS0 hS1 HS
      go_wp2
      go_roundw
      case rel => exact .inr (.inr (.inl ⟨rfl, HR.out⟩))
      case measure => simp [intOf]
    · have HS := Aside0.mk (Stk6.start hR 0 0 2 rfl)
      clear hR
      go_wp2
      have hS0 := HS.out
      unfold Stk6 at hS0
      go_region_held3 (fun w' => w'.cell? ⟨wr.heap.size, 0, none⟩ = some (.int .i64 0) ∧ w'.cell? ⟨wr.heap.size, 1, none⟩ = some (.int .i64 0) ∧ w'.cell? ⟨w.heap.size + 1 + 1, 2, none⟩ = some (.int .i64 10) ∧ StkR true 5 w w' ∧ Below wr.heap.size wr w') ((first | exact Stk6.below hS0 (below_drew (Below.refl _ _)) | assumption | (refine Stk6.below ?_ hb; assumption))) ((go_at_call 41; refine (zk_fix0 _).mono ?_; rintro e w1 ⟨rfl, hb⟩))
      have hS1 : Stk6 0 0 2 wr.heap.size true 5 w wr w1 := by assumption
      have HR := Aside0.mk hS1.2.2.2.1
      clear hS0 hS1 HS
      go_wp2
      go_roundw
      case rel => exact .inr (.inr (.inr (.inl ⟨rfl, HR.out⟩)))
      case measure => simp [intOf]
    · have HS := Aside0.mk (Stk6.start hR 0 0 3 rfl)
      clear hR
      go_wp2
      have hS0 := HS.out
      unfold Stk6 at hS0
      go_region_held3 (fun w' => w'.cell? ⟨wr.heap.size, 0, none⟩ = some (.int .i64 0) ∧ w'.cell? ⟨wr.heap.size, 1, none⟩ = some (.int .i64 0) ∧ w'.cell? ⟨w.heap.size + 1 + 1, 3, none⟩ = some (.int .i64 10) ∧ StkR true 5 w w' ∧ Below wr.heap.size wr w') ((first | exact Stk6.below hS0 (below_drew (Below.refl _ _)) | assumption | (refine Stk6.below ?_ hb; assumption))) ((go_at_call 41; refine (zk_fix0 _).mono ?_; rintro e w1 ⟨rfl, hb⟩))
      have hS1 : Stk6 0 0 3 wr.heap.size true 5 w wr w1 := by assumption
      have HR := Aside0.mk hS1.2.2.2.1
      clear hS0 hS1 HS
      go_wp2
      go_roundw
      case rel => exact .inr (.inr (.inr (.inr ⟨rfl, HR.out⟩)))
      case measure => simp [intOf]
    · have HR := Aside0.mk hR
      have c0 : wr.cell? ⟨w.heap.size + 1 + 1 + 1, 0, none⟩ = some _ := (blk_cell hR.1 0).trans rfl
      have c1 : wr.cell? ⟨w.heap.size + 1 + 1 + 1, 1, none⟩ = some _ := (blk_cell hR.1 1).trans rfl
      have c2 : wr.cell? ⟨w.heap.size + 1 + 1 + 1, 2, none⟩ = some _ := (blk_cell hR.1 2).trans rfl
      have c3 : wr.cell? ⟨w.heap.size + 1 + 1 + 1, 3, none⟩ = some _ := (blk_cell hR.1 3).trans rfl
      have c4 : wr.cell? ⟨w.heap.size + 1 + 1 + 1, 4, none⟩ = some _ := (blk_cell hR.1 4).trans rfl
      have c5 : wr.cell? ⟨w.heap.size + 1 + 1 + 1, 5, none⟩ = some _ := (blk_cell hR.1 5).trans rfl
      have c6 : wr.cell? ⟨w.heap.size + 1 + 1 + 1, 6, none⟩ = some _ := (blk_cell hR.1 6).trans rfl
      have c7 : wr.cell? ⟨w.heap.size + 1 + 1 + 1, 7, none⟩ = some _ := (blk_cell hR.1 7).trans rfl
      have d0 : wr.cell? ⟨w.heap.size + 1, 0, none⟩ = some _ := (blk_cell hR.2.2.1 0).trans rfl
      have f0 := blk_frozen hR.2.2.1 0
      have d1 : wr.cell? ⟨w.heap.size + 1, 1, none⟩ = some _ := (blk_cell hR.2.2.1 1).trans rfl
      have f1 := blk_frozen hR.2.2.1 1
      have d2 : wr.cell? ⟨w.heap.size + 1, 2, none⟩ = some _ := (blk_cell hR.2.2.1 2).trans rfl
      have f2 := blk_frozen hR.2.2.1 2
      have d3 : wr.cell? ⟨w.heap.size + 1, 3, none⟩ = some _ := (blk_cell hR.2.2.1 3).trans rfl
      have f3 := blk_frozen hR.2.2.1 3
      have d4 : wr.cell? ⟨w.heap.size + 1, 4, none⟩ = some _ := (blk_cell hR.2.2.1 4).trans rfl
      have f4 := blk_frozen hR.2.2.1 4
      have d5 : wr.cell? ⟨w.heap.size + 1, 5, none⟩ = some _ := (blk_cell hR.2.2.1 5).trans rfl
      have f5 := blk_frozen hR.2.2.1 5
      have d6 : wr.cell? ⟨w.heap.size + 1, 6, none⟩ = some _ := (blk_cell hR.2.2.1 6).trans rfl
      have f6 := blk_frozen hR.2.2.1 6
      have d7 : wr.cell? ⟨w.heap.size + 1, 7, none⟩ = some _ := (blk_cell hR.2.2.1 7).trans rfl
      have f7 := blk_frozen hR.2.2.1 7
      clear hR
      go_wp2
      have b1 := (blk_set (blk_set (blk_set (blk_set (blk_set (blk_set (blk_set (blk_set HR.out.2.2.1 0 (.bool true)) 1 (.int .i64 5)) 2 (.bool false)) 3 (.int .i64 0)) 4 (.bool false)) 5 (.int .i64 0)) 6 (.bool false)) 7 (.int .i64 0))
      refine bodyPost_ret (results_cell_row rfl _ _ (w.heap.size + 1) 38 #[.bool true, .int .i64 5, .bool false, .int .i64 0, .bool false, .int .i64 0, .bool false, .int .i64 0] (0, 0) _ rfl (by simpa using b1) Try.underlying38 rfl (by kernel_rfl)) rfl ?_
      exact ⟨rfl, (below_set (below_set (below_set (below_set (below_set (below_set (below_set (below_set HR.out.2.2.2 (by omega)) (by omega)) (by omega)) (by omega)) (by omega)) (by omega)) (by omega)) (by omega))⟩

theorem vpt_eq (w : World) : (binOp .eql 42 (vpt 0 25) (vpt 0 25)).run Try.prog w = .ok (.bool true) w := by
  unfold vpt
  rw [run_eql_complex]
  have h : ((FloatKind.f64.format.order (floatOfInt .f64 (vcut 0)) (floatOfInt .f64 (vcut 0)) == some .eq) && (FloatKind.f64.format.order (floatOfInt .f64 (vcut 25)) (floatOfInt .f64 (vcut 25)) == some .eq)) = true := by decide +kernel
  rw [h]
theorem vpt_eg (x y : Operand) (w : World) : (eqGuard .eql 42 x y (vpt 0 25) (vpt 0 25)).run Try.prog w = .ok () w := by
  unfold vpt eqGuard
  simp
theorem zk_shift (w : World) : Calls Try.prog 16 #[.agg #[.int .i64 10, .int .i64 14], .agg #[.int .i64 0, .int .i64 100], .agg #[.int .i64 30, .int .i64 80], .agg #[.bool true, .int .i64 5], .agg #[.bool false, .int .i64 0]] w fun e w' => e = .returned (.int .i64 25) ∧ Below w.heap.size w w' := stick_Shift.calls 2 10 14 0 100 30 80 true 5 false 0 25 w (by decide +kernel)
set_option maxHeartbeats 8000000 in
theorem zk_works (w : World) : Calls Try.prog 15 #[] w fun e w' => e = .returned (.bool true) ∧ Below w.heap.size w w' := by
  have hu25 := Try.underlying25
  have hu36 := Try.underlying36
  have hu37 := Try.underlying37
  have hu38 := Try.underlying38
  have hu33 := Try.underlying33
  have hu23 := Try.underlying23
  have heq := vpt_eq
  have heg := vpt_eg
  go_enter Try.func15, Try.ntmps15
  go_wp2_with (first | (go_at_call 19; refine (zk_sides _).mono ?_; rintro e w1 ⟨rfl, hb⟩; have HB := Aside0.mk hb; clear hb) | (go_at_call 21; refine (zk_both _).mono ?_; rintro e w2 ⟨rfl, hb⟩; have HK := Aside0.mk (show w2.heap[w1.heap.size]? = some (.cells #[.bool true, .int .i64 5, .bool false, .int .i64 0, .bool false, .int .i64 0, .bool false, .int .i64 0] 38 (0, 0)) from blk_below (blk_new w1 _) hb); have c0 : w2.cell? ⟨w1.heap.size, 0, none⟩ = some (.bool true) := (blk_cell HK.out 0).trans rfl; have c1 : w2.cell? ⟨w1.heap.size, 1, none⟩ = some (.int .i64 5) := (blk_cell HK.out 1).trans rfl; have c2 : w2.cell? ⟨w1.heap.size, 2, none⟩ = some (.bool false) := (blk_cell HK.out 2).trans rfl; replace HB := Aside0.mk (below_step (below_alloc HB.out _) hb); clear hb) | (go_at_call 16; refine (zk_shift _).mono ?_; rintro e w3 ⟨rfl, hb⟩; replace HK := Aside0.mk (blk_below HK.out hb); have c0 : w3.cell? ⟨w1.heap.size, 0, none⟩ = some (.bool true) := (blk_cell HK.out 0).trans rfl; have c1 : w3.cell? ⟨w1.heap.size, 1, none⟩ = some (.int .i64 5) := (blk_cell HK.out 1).trans rfl; have c2 : w3.cell? ⟨w1.heap.size, 2, none⟩ = some (.bool false) := (blk_cell HK.out 2).trans rfl; replace HB := Aside0.mk (below_step HB.out hb); clear hb) | (go_at_call 34; refine (zk_of _ _ _).mono ?_; rintro e w4 ⟨rfl, hb⟩; replace HB := Aside0.mk (below_step HB.out hb); clear hb))
  go_ret
  exact ⟨rfl, HB.out⟩
def valancelaw10_works.f : Option Bool := some true
theorem valancelaw10_works.calls (r : Bool) (w : World) (h : valancelaw10_works.f = some r) : Calls Try.prog 15 #[] w fun e w' => e = .returned (.bool r) ∧ Below w.heap.size w w' := by
  obtain rfl := Option.some.inj h
  exact zk_works w

end Go.Proofs.Ytnmcefpnpfaklab.V
