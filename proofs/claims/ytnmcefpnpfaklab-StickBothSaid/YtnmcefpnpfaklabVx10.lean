/- What the functions of this seat answer, as plain Lean functions, and that the calls come to just that (written by a program of this repo, over the kit's printer; Lean checks it). -/
import Derived.Test.YtnmcefpnpfaklabVx0
import Derived.Test.YtnmcefpnpfaklabVx2
import Derived.Test.YtnmcefpnpfaklabVx3
import Derived.Test.YtnmcefpnpfaklabVx4
import Derived.Test.YtnmcefpnpfaklabVx9
namespace Go.Proofs.Ytnmcefpnpfaklab.V
open Go.RowKit Go.Proofs.Ytnmcefpnpfaklab.Flt Go.Proofs.YtnmcefpnpfaklabW.PrintWords Go.Proofs.YtnmcefpnpfaklabW.PrintLast Go.Proofs.YtnmcefpnpfaklabW.PrintMore
attribute [local go_sem high] run_eql_vpt2 run_neq_vpt2 eqGuard_vpt2 vpt2_zero run_add_vpt2
attribute [local go_sem] max2_int min2_int max_two min_two max_three min_three max_four min_four   -- for this text's walks alone
set_option linter.unusedVariables false
set_option linter.unusedSimpArgs false

/-! ### stick_Both: function 21 -/
theorem goesH_ {P : Program} {Q : Exit → Act → World → Prop} {oi : Oper} {a : Act} {w : World} {Y : Nat → Option Bool} {K : Act → World → Prop} (N : Option Tmp) (hd : oi.dst = N) (hg : Region.wanted oi Y = true) {t : Tmp} {f : FuncId} {fn : Func} {as_ : Array Operand} {ts : Array TypeId} {caps : Array Value} (hf : P.funcs[f]? = some fn) (hname : (fn.name == "runtime.NumGoroutine") = false) (hb : fn.body.isSome = true) (args : Array Value)
    (hop : oi.op = .call { callee := .value (.tmp t), args := as_, argTypes := ts }) (hv : a.eval (.tmp t) = .func (.func f) #[] caps) (hargs : as_.map a.eval = args)
    (h : Calls P f (args ++ caps) w fun e w' => ∃ v, e = .returned v ∧ K (a.put N v) w') : if Region.wanted oi Y = true then Oper.wp P oi a w K Q else K (a.put oi.dst undef) w := by
  rw [if_pos hg]
  have he := enters_ hf hname hb (args ++ caps) w
  have hrun : (execOp a.eval oi).run P w = .ok (.enter f (args ++ caps)) w := by
    unfold execOp
    simp [hop, resolve, Deferred.ofValue, invoke, hv, hargs, he]
  unfold Oper.wp
  rw [hrun, Oper.upon_enter]
  refine h.mono fun e w'' hh => ?_
  obtain ⟨v, rfl, hk⟩ := hh
  subst hd
  exact hk
/-- What the closure has captured, its own boxes, and that all else is as it was. -/
def B1S (g4 g5 g6 : Nat) (x0 x1 x2 x3 y0 y1 y2 y3 z0 z1 z2 z3 : Int) (bo : Bool) (bn : Int) (eo : Bool) (en : Int) (w W : World) : Prop := W.cell? ⟨g4, 0, none⟩ = some (.int .i64 x0) ∧ W.cell? ⟨g4, 1, none⟩ = some (.int .i64 x1) ∧ W.cell? ⟨g4, 2, none⟩ = some (.int .i64 x2) ∧ W.cell? ⟨g4, 3, none⟩ = some (.int .i64 x3) ∧ W.cell? ⟨g5, 0, none⟩ = some (.int .i64 y0) ∧ W.cell? ⟨g5, 1, none⟩ = some (.int .i64 y1) ∧ W.cell? ⟨g5, 2, none⟩ = some (.int .i64 y2) ∧ W.cell? ⟨g5, 3, none⟩ = some (.int .i64 y3) ∧ W.cell? ⟨g6, 0, none⟩ = some (.int .i64 z0) ∧ W.cell? ⟨g6, 1, none⟩ = some (.int .i64 z1) ∧ W.cell? ⟨g6, 2, none⟩ = some (.int .i64 z2) ∧ W.cell? ⟨g6, 3, none⟩ = some (.int .i64 z3) ∧ W.cell? ⟨w.heap.size, 0, none⟩ = some (.bool bo) ∧ W.cell? ⟨w.heap.size, 1, none⟩ = some (.int .i64 bn) ∧ W.cell? ⟨w.heap.size + 1, 0, none⟩ = some (.bool eo) ∧ W.cell? ⟨w.heap.size + 1, 1, none⟩ = some (.int .i64 en) ∧ Below w.heap.size w W
theorem B1S.below {g4 g5 g6 : Nat} {x0 x1 x2 x3 y0 y1 y2 y3 z0 z1 z2 z3 : Int} {bo : Bool} {bn : Int} {eo : Bool} {en : Int} {w W W1 : World} (h : B1S g4 g5 g6 x0 x1 x2 x3 y0 y1 y2 y3 z0 z1 z2 z3 bo bn eo en w W) (hb : Below W.heap.size W W1) : B1S g4 g5 g6 x0 x1 x2 x3 y0 y1 y2 y3 z0 z1 z2 z3 bo bn eo en w W1 := ⟨pw_cell_below hb h.1, pw_cell_below hb h.2.1, pw_cell_below hb h.2.2.1, pw_cell_below hb h.2.2.2.1, pw_cell_below hb h.2.2.2.2.1, pw_cell_below hb h.2.2.2.2.2.1, pw_cell_below hb h.2.2.2.2.2.2.1, pw_cell_below hb h.2.2.2.2.2.2.2.1, pw_cell_below hb h.2.2.2.2.2.2.2.2.1, pw_cell_below hb h.2.2.2.2.2.2.2.2.2.1, pw_cell_below hb h.2.2.2.2.2.2.2.2.2.2.1, pw_cell_below hb h.2.2.2.2.2.2.2.2.2.2.2.1, pw_cell_below hb h.2.2.2.2.2.2.2.2.2.2.2.2.1, pw_cell_below hb h.2.2.2.2.2.2.2.2.2.2.2.2.2.1, pw_cell_below hb h.2.2.2.2.2.2.2.2.2.2.2.2.2.2.1, pw_cell_below hb h.2.2.2.2.2.2.2.2.2.2.2.2.2.2.2.1, below_step h.2.2.2.2.2.2.2.2.2.2.2.2.2.2.2.2 hb⟩
def RcC (g : Nat) (a b c d : Int) (W : World) : Prop := W.cell? ⟨g, 0, none⟩ = some (.int .i64 a) ∧ W.cell? ⟨g, 1, none⟩ = some (.int .i64 b) ∧ W.cell? ⟨g, 2, none⟩ = some (.int .i64 c) ∧ W.cell? ⟨g, 3, none⟩ = some (.int .i64 d)
theorem B1S.start {g4 g5 g6 : Nat} {x0 x1 x2 x3 y0 y1 y2 y3 z0 z1 z2 z3 : Int} {w : World} (bo : Bool) (bn : Int) (eo : Bool) (en : Int) (h4 : RcC g4 x0 x1 x2 x3 w) (h5 : RcC g5 y0 y1 y2 y3 w) (h6 : RcC g6 z0 z1 z2 z3 w) : B1S g4 g5 g6 x0 x1 x2 x3 y0 y1 y2 y3 z0 z1 z2 z3 bo bn eo en w ((w.alloc (.cells #[.bool bo, .int .i64 bn] 25)).alloc (.cells #[.bool eo, .int .i64 en] 25)) := by
  have hb : Below w.heap.size w ((w.alloc (.cells #[.bool bo, .int .i64 bn] 25)).alloc (.cells #[.bool eo, .int .i64 en] 25)) := below_alloc (below_alloc (Below.refl _ _) _) _
  have T := TwoS.start (.bool bo) (.int .i64 bn) (.bool eo) (.int .i64 en) 25 w
  exact ⟨pw_cell_below hb h4.1, pw_cell_below hb h4.2.1, pw_cell_below hb h4.2.2.1, pw_cell_below hb h4.2.2.2, pw_cell_below hb h5.1, pw_cell_below hb h5.2.1, pw_cell_below hb h5.2.2.1, pw_cell_below hb h5.2.2.2, pw_cell_below hb h6.1, pw_cell_below hb h6.2.1, pw_cell_below hb h6.2.2.1, pw_cell_below hb h6.2.2.2, T.1, T.2.1, T.2.2.1, T.2.2.2.1, hb⟩
set_option maxHeartbeats 8000000 in
theorem zk_b1 (f : FuncId) (fn : Func) (hf : Try.prog.funcs[f]? = some fn) (hname : (fn.name == "runtime.NumGoroutine") = false) (hbd : fn.body.isSome = true) (L H : Int → Int → Int → Int → Int)
    (hcall : ∀ (x y z u : Int) (W : World), Calls Try.prog f #[.agg #[.int .i64 x, .int .i64 y, .int .i64 z, .int .i64 u]] W fun e w' => e = .returned (.agg #[.int .i64 (L x y z u), .int .i64 (H x y z u)]) ∧ Below W.heap.size W w')
    (g4 g5 g6 : Nat) (x0 x1 x2 x3 y0 y1 y2 y3 z0 z1 z2 z3 : Int) (bo : Bool) (bn : Int) (eo : Bool) (en r : Int) (w : World) (h4 : RcC g4 x0 x1 x2 x3 w) (h5 : RcC g5 y0 y1 y2 y3 w) (h6 : RcC g6 z0 z1 z2 z3 w)
    (hs : stick_Shift.f 2 (L x0 x1 x2 x3) (H x0 x1 x2 x3) (L y0 y1 y2 y3) (H y0 y1 y2 y3) (L z0 z1 z2 z3) (H z0 z1 z2 z3) bo bn eo en = some r) :
    Calls Try.prog 45 #[.func (.func f) #[] #[], .agg #[.bool bo, .int .i64 bn], .agg #[.bool eo, .int .i64 en], .pointer (some ⟨g4, 0, none⟩), .pointer (some ⟨g5, 0, none⟩), .pointer (some ⟨g6, 0, none⟩)] w fun e w' => e = .returned (.int .i64 r) ∧ Below w.heap.size w w' := by
  have hu25 := Try.underlying25
  have hu33 := Try.underlying33
  have HS := Aside0.mk (B1S.start bo bn eo en h4 h5 h6)
  have HC := Aside0.mk hcall
  have HH := Aside0.mk hs
  have HF := Aside0.mk hf
  have HN := Aside0.mk hname
  have HD := Aside0.mk hbd
  clear h4 h5 h6 hcall hs hf hname hbd
  go_enter Try.func45, Try.ntmps45
  go_wp2
  have hS0 := HS.out
  unfold B1S at hS0
  go_region_held3 (fun w' => w'.cell? ⟨g4, 0, none⟩ = some (.int .i64 x0) ∧ w'.cell? ⟨g4, 1, none⟩ = some (.int .i64 x1) ∧ w'.cell? ⟨g4, 2, none⟩ = some (.int .i64 x2) ∧ w'.cell? ⟨g4, 3, none⟩ = some (.int .i64 x3) ∧ w'.cell? ⟨g5, 0, none⟩ = some (.int .i64 y0) ∧ w'.cell? ⟨g5, 1, none⟩ = some (.int .i64 y1) ∧ w'.cell? ⟨g5, 2, none⟩ = some (.int .i64 y2) ∧ w'.cell? ⟨g5, 3, none⟩ = some (.int .i64 y3) ∧ w'.cell? ⟨g6, 0, none⟩ = some (.int .i64 z0) ∧ w'.cell? ⟨g6, 1, none⟩ = some (.int .i64 z1) ∧ w'.cell? ⟨g6, 2, none⟩ = some (.int .i64 z2) ∧ w'.cell? ⟨g6, 3, none⟩ = some (.int .i64 z3) ∧ w'.cell? ⟨w.heap.size, 0, none⟩ = some (.bool bo) ∧ w'.cell? ⟨w.heap.size, 1, none⟩ = some (.int .i64 bn) ∧ w'.cell? ⟨w.heap.size + 1, 0, none⟩ = some (.bool eo) ∧ w'.cell? ⟨w.heap.size + 1, 1, none⟩ = some (.int .i64 en) ∧ Below w.heap.size w w') ((first | exact B1S.below hS0 (below_drew (Below.refl _ _)) | assumption | (refine B1S.below ?_ hb; assumption))) ((first | (go_at_call 16; refine (stick_Shift.calls 2 _ _ _ _ _ _ _ _ _ _ _ _ HH.out).mono ?_; rintro e w1 ⟨rfl, hb⟩) | (refine goesH_ _ rfl (by rfl) HF.out HN.out HD.out #[.agg #[.int .i64 x0, .int .i64 x1, .int .i64 x2, .int .i64 x3]] rfl rfl (by (try simp only [List.map_toArray, List.map_cons, List.map_nil]); first | done | rfl) ?_; refine (HC.out _ _ _ _ _).mono ?_; rintro e w1 ⟨rfl, hb⟩; refine ⟨_, rfl, ?_⟩) | (refine goesH_ _ rfl (by rfl) HF.out HN.out HD.out #[.agg #[.int .i64 y0, .int .i64 y1, .int .i64 y2, .int .i64 y3]] rfl rfl (by (try simp only [List.map_toArray, List.map_cons, List.map_nil]); first | done | rfl) ?_; refine (HC.out _ _ _ _ _).mono ?_; rintro e w1 ⟨rfl, hb⟩; refine ⟨_, rfl, ?_⟩) | (refine goesH_ _ rfl (by rfl) HF.out HN.out HD.out #[.agg #[.int .i64 z0, .int .i64 z1, .int .i64 z2, .int .i64 z3]] rfl rfl (by (try simp only [List.map_toArray, List.map_cons, List.map_nil]); first | done | rfl) ?_; refine (HC.out _ _ _ _ _).mono ?_; rintro e w1 ⟨rfl, hb⟩; refine ⟨_, rfl, ?_⟩)))
  have hS1 : B1S g4 g5 g6 x0 x1 x2 x3 y0 y1 y2 y3 z0 z1 z2 z3 bo bn eo en w w1 := by assumption
  have HB := Aside0.mk hS1.2.2.2.2.2.2.2.2.2.2.2.2.2.2.2.2
  clear hS0 hS1 HS
  go_wp2
  go_ret
  exact ⟨rfl, HB.out⟩

theorem zk_across (x y z u : Int) (w : World) : Calls Try.prog 46 #[.agg #[.int .i64 x, .int .i64 y, .int .i64 z, .int .i64 u]] w fun e w' => e = .returned (.agg #[.int .i64 (vcut x), .int .i64 (vadd x (mx z 0))]) ∧ Below w.heap.size w w' := rect_Across.calls x y z u _ _ w (by unfold rect_Across.f span_Of.f; simp [fix_Cut_eq, fix_Add_eq])
theorem zk_down (x y z u : Int) (w : World) : Calls Try.prog 47 #[.agg #[.int .i64 x, .int .i64 y, .int .i64 z, .int .i64 u]] w fun e w' => e = .returned (.agg #[.int .i64 (vcut y), .int .i64 (vadd y (mx u 0))]) ∧ Below w.heap.size w w' := rect_Down.calls x y z u _ _ w (by unfold rect_Down.f span_Of.f; simp [fix_Cut_eq, fix_Add_eq])
/-- The boxes of Both: three rectangles, four sides. -/
def BoS (x0 x1 x2 x3 y0 y1 y2 y3 z0 z1 z2 z3 : Int) (o0 : Bool) (m0 : Int) (o1 : Bool) (m1 : Int) (o2 : Bool) (m2 : Int) (o3 : Bool) (m3 : Int) (w W : World) : Prop := W.cell? ⟨w.heap.size, 0, none⟩ = some (.int .i64 x0) ∧ W.cell? ⟨w.heap.size, 1, none⟩ = some (.int .i64 x1) ∧ W.cell? ⟨w.heap.size, 2, none⟩ = some (.int .i64 x2) ∧ W.cell? ⟨w.heap.size, 3, none⟩ = some (.int .i64 x3) ∧ W.cell? ⟨w.heap.size + 1, 0, none⟩ = some (.int .i64 y0) ∧ W.cell? ⟨w.heap.size + 1, 1, none⟩ = some (.int .i64 y1) ∧ W.cell? ⟨w.heap.size + 1, 2, none⟩ = some (.int .i64 y2) ∧ W.cell? ⟨w.heap.size + 1, 3, none⟩ = some (.int .i64 y3) ∧ W.cell? ⟨w.heap.size + 1 + 1, 0, none⟩ = some (.int .i64 z0) ∧ W.cell? ⟨w.heap.size + 1 + 1, 1, none⟩ = some (.int .i64 z1) ∧ W.cell? ⟨w.heap.size + 1 + 1, 2, none⟩ = some (.int .i64 z2) ∧ W.cell? ⟨w.heap.size + 1 + 1, 3, none⟩ = some (.int .i64 z3) ∧ W.cell? ⟨w.heap.size + 1 + 1 + 1, 0, none⟩ = some (.bool o0) ∧ W.cell? ⟨w.heap.size + 1 + 1 + 1, 1, none⟩ = some (.int .i64 m0) ∧ W.cell? ⟨w.heap.size + 1 + 1 + 1, 2, none⟩ = some (.bool o1) ∧ W.cell? ⟨w.heap.size + 1 + 1 + 1, 3, none⟩ = some (.int .i64 m1) ∧ W.cell? ⟨w.heap.size + 1 + 1 + 1, 4, none⟩ = some (.bool o2) ∧ W.cell? ⟨w.heap.size + 1 + 1 + 1, 5, none⟩ = some (.int .i64 m2) ∧ W.cell? ⟨w.heap.size + 1 + 1 + 1, 6, none⟩ = some (.bool o3) ∧ W.cell? ⟨w.heap.size + 1 + 1 + 1, 7, none⟩ = some (.int .i64 m3) ∧ Below w.heap.size w W
theorem BoS.below {x0 x1 x2 x3 y0 y1 y2 y3 z0 z1 z2 z3 : Int} {o0 : Bool} {m0 : Int} {o1 : Bool} {m1 : Int} {o2 : Bool} {m2 : Int} {o3 : Bool} {m3 : Int} {w W W1 : World} (h : BoS x0 x1 x2 x3 y0 y1 y2 y3 z0 z1 z2 z3 o0 m0 o1 m1 o2 m2 o3 m3 w W) (hb : Below W.heap.size W W1) : BoS x0 x1 x2 x3 y0 y1 y2 y3 z0 z1 z2 z3 o0 m0 o1 m1 o2 m2 o3 m3 w W1 := ⟨pw_cell_below hb h.1, pw_cell_below hb h.2.1, pw_cell_below hb h.2.2.1, pw_cell_below hb h.2.2.2.1, pw_cell_below hb h.2.2.2.2.1, pw_cell_below hb h.2.2.2.2.2.1, pw_cell_below hb h.2.2.2.2.2.2.1, pw_cell_below hb h.2.2.2.2.2.2.2.1, pw_cell_below hb h.2.2.2.2.2.2.2.2.1, pw_cell_below hb h.2.2.2.2.2.2.2.2.2.1, pw_cell_below hb h.2.2.2.2.2.2.2.2.2.2.1, pw_cell_below hb h.2.2.2.2.2.2.2.2.2.2.2.1, pw_cell_below hb h.2.2.2.2.2.2.2.2.2.2.2.2.1, pw_cell_below hb h.2.2.2.2.2.2.2.2.2.2.2.2.2.1, pw_cell_below hb h.2.2.2.2.2.2.2.2.2.2.2.2.2.2.1, pw_cell_below hb h.2.2.2.2.2.2.2.2.2.2.2.2.2.2.2.1, pw_cell_below hb h.2.2.2.2.2.2.2.2.2.2.2.2.2.2.2.2.1, pw_cell_below hb h.2.2.2.2.2.2.2.2.2.2.2.2.2.2.2.2.2.1, pw_cell_below hb h.2.2.2.2.2.2.2.2.2.2.2.2.2.2.2.2.2.2.1, pw_cell_below hb h.2.2.2.2.2.2.2.2.2.2.2.2.2.2.2.2.2.2.2.1, below_step h.2.2.2.2.2.2.2.2.2.2.2.2.2.2.2.2.2.2.2.2 hb⟩
theorem BoS.r4 {x0 x1 x2 x3 y0 y1 y2 y3 z0 z1 z2 z3 : Int} {o0 : Bool} {m0 : Int} {o1 : Bool} {m1 : Int} {o2 : Bool} {m2 : Int} {o3 : Bool} {m3 : Int} {w W : World} (h : BoS x0 x1 x2 x3 y0 y1 y2 y3 z0 z1 z2 z3 o0 m0 o1 m1 o2 m2 o3 m3 w W) : RcC w.heap.size x0 x1 x2 x3 W := ⟨h.1, h.2.1, h.2.2.1, h.2.2.2.1⟩
theorem BoS.r5 {x0 x1 x2 x3 y0 y1 y2 y3 z0 z1 z2 z3 : Int} {o0 : Bool} {m0 : Int} {o1 : Bool} {m1 : Int} {o2 : Bool} {m2 : Int} {o3 : Bool} {m3 : Int} {w W : World} (h : BoS x0 x1 x2 x3 y0 y1 y2 y3 z0 z1 z2 z3 o0 m0 o1 m1 o2 m2 o3 m3 w W) : RcC (w.heap.size + 1) y0 y1 y2 y3 W := by
  have g := h.2.2.2.2
  exact ⟨g.1, g.2.1, g.2.2.1, g.2.2.2.1⟩
theorem BoS.r6 {x0 x1 x2 x3 y0 y1 y2 y3 z0 z1 z2 z3 : Int} {o0 : Bool} {m0 : Int} {o1 : Bool} {m1 : Int} {o2 : Bool} {m2 : Int} {o3 : Bool} {m3 : Int} {w W : World} (h : BoS x0 x1 x2 x3 y0 y1 y2 y3 z0 z1 z2 z3 o0 m0 o1 m1 o2 m2 o3 m3 w W) : RcC (w.heap.size + 1 + 1) z0 z1 z2 z3 W := by
  have g := h.2.2.2.2.2.2.2.2
  exact ⟨g.1, g.2.1, g.2.2.1, g.2.2.2.1⟩
theorem BoS.start (x0 x1 x2 x3 y0 y1 y2 y3 z0 z1 z2 z3 : Int) (o0 : Bool) (m0 : Int) (o1 : Bool) (m1 : Int) (o2 : Bool) (m2 : Int) (o3 : Bool) (m3 : Int) (w : World) : BoS x0 x1 x2 x3 y0 y1 y2 y3 z0 z1 z2 z3 o0 m0 o1 m1 o2 m2 o3 m3 w ((((w.alloc (.cells #[.int .i64 x0, .int .i64 x1, .int .i64 x2, .int .i64 x3] 33)).alloc (.cells #[.int .i64 y0, .int .i64 y1, .int .i64 y2, .int .i64 y3] 33)).alloc (.cells #[.int .i64 z0, .int .i64 z1, .int .i64 z2, .int .i64 z3] 33)).alloc (.cells #[.bool o0, .int .i64 m0, .bool o1, .int .i64 m1, .bool o2, .int .i64 m2, .bool o3, .int .i64 m3] 38)) := by
  have B4 := blk_alloc (blk_alloc (blk_alloc (blk_new w (.cells #[.int .i64 x0, .int .i64 x1, .int .i64 x2, .int .i64 x3] 33)) (.cells #[.int .i64 y0, .int .i64 y1, .int .i64 y2, .int .i64 y3] 33)) (.cells #[.int .i64 z0, .int .i64 z1, .int .i64 z2, .int .i64 z3] 33)) (.cells #[.bool o0, .int .i64 m0, .bool o1, .int .i64 m1, .bool o2, .int .i64 m2, .bool o3, .int .i64 m3] 38)
  have B5 := blk_alloc (blk_alloc (blk_new (w.alloc (.cells #[.int .i64 x0, .int .i64 x1, .int .i64 x2, .int .i64 x3] 33)) (.cells #[.int .i64 y0, .int .i64 y1, .int .i64 y2, .int .i64 y3] 33)) (.cells #[.int .i64 z0, .int .i64 z1, .int .i64 z2, .int .i64 z3] 33)) (.cells #[.bool o0, .int .i64 m0, .bool o1, .int .i64 m1, .bool o2, .int .i64 m2, .bool o3, .int .i64 m3] 38)
  have B6 := blk_alloc (blk_new ((w.alloc (.cells #[.int .i64 x0, .int .i64 x1, .int .i64 x2, .int .i64 x3] 33)).alloc (.cells #[.int .i64 y0, .int .i64 y1, .int .i64 y2, .int .i64 y3] 33)) (.cells #[.int .i64 z0, .int .i64 z1, .int .i64 z2, .int .i64 z3] 33)) (.cells #[.bool o0, .int .i64 m0, .bool o1, .int .i64 m1, .bool o2, .int .i64 m2, .bool o3, .int .i64 m3] 38)
  have B7 := blk_new (((w.alloc (.cells #[.int .i64 x0, .int .i64 x1, .int .i64 x2, .int .i64 x3] 33)).alloc (.cells #[.int .i64 y0, .int .i64 y1, .int .i64 y2, .int .i64 y3] 33)).alloc (.cells #[.int .i64 z0, .int .i64 z1, .int .i64 z2, .int .i64 z3] 33)) (.cells #[.bool o0, .int .i64 m0, .bool o1, .int .i64 m1, .bool o2, .int .i64 m2, .bool o3, .int .i64 m3] 38)
  simp only [World.size_alloc] at B5 B6 B7
  exact ⟨(blk_cell B4 0).trans rfl, (blk_cell B4 1).trans rfl, (blk_cell B4 2).trans rfl, (blk_cell B4 3).trans rfl, (blk_cell B5 0).trans rfl, (blk_cell B5 1).trans rfl, (blk_cell B5 2).trans rfl, (blk_cell B5 3).trans rfl, (blk_cell B6 0).trans rfl, (blk_cell B6 1).trans rfl, (blk_cell B6 2).trans rfl, (blk_cell B6 3).trans rfl, (blk_cell B7 0).trans rfl, (blk_cell B7 1).trans rfl, (blk_cell B7 2).trans rfl, (blk_cell B7 3).trans rfl, (blk_cell B7 4).trans rfl, (blk_cell B7 5).trans rfl, (blk_cell B7 6).trans rfl, (blk_cell B7 7).trans rfl, below_alloc (below_alloc (below_alloc (below_alloc (Below.refl _ _) _) _) _) _⟩
set_option maxHeartbeats 16000000 in
theorem zk_both (x0 x1 x2 x3 y0 y1 y2 y3 z0 z1 z2 z3 : Int) (o0 : Bool) (m0 : Int) (o1 : Bool) (m1 : Int) (o2 : Bool) (m2 : Int) (o3 : Bool) (m3 : Int) (ra rd : Int) (w : World) (hA : stick_Shift.f 2 (vcut x0) (vadd x0 (mx x2 0)) (vcut y0) (vadd y0 (mx y2 0)) (vcut z0) (vadd z0 (mx z2 0)) o3 m3 o1 m1 = some ra) (hD : stick_Shift.f 2 (vcut x1) (vadd x1 (mx x3 0)) (vcut y1) (vadd y1 (mx y3 0)) (vcut z1) (vadd z1 (mx z3 0)) o0 m0 o2 m2 = some rd) : Calls Try.prog 21 #[.agg #[.int .i64 x0, .int .i64 x1, .int .i64 x2, .int .i64 x3], .agg #[.int .i64 y0, .int .i64 y1, .int .i64 y2, .int .i64 y3], .agg #[.int .i64 z0, .int .i64 z1, .int .i64 z2, .int .i64 z3], .agg #[.bool o0, .int .i64 m0, .bool o1, .int .i64 m1, .bool o2, .int .i64 m2, .bool o3, .int .i64 m3]] w fun e w' => e = .returned (vpt2 (ra, rd)) ∧ Below w.heap.size w w' := by
  have hu25 := Try.underlying25
  have hu33 := Try.underlying33
  have hu38 := Try.underlying38
  have HS := Aside0.mk (BoS.start x0 x1 x2 x3 y0 y1 y2 y3 z0 z1 z2 z3 o0 m0 o1 m1 o2 m2 o3 m3 w)
  have HA := Aside0.mk hA
  have HD := Aside0.mk hD
  clear hA hD
  go_enter Try.func21, Try.ntmps21
  go_wp2
  have hS0 := HS.out
  unfold BoS at hS0
  go_region_held3 (fun w' => w'.cell? ⟨w.heap.size, 0, none⟩ = some (.int .i64 x0) ∧ w'.cell? ⟨w.heap.size, 1, none⟩ = some (.int .i64 x1) ∧ w'.cell? ⟨w.heap.size, 2, none⟩ = some (.int .i64 x2) ∧ w'.cell? ⟨w.heap.size, 3, none⟩ = some (.int .i64 x3) ∧ w'.cell? ⟨w.heap.size + 1, 0, none⟩ = some (.int .i64 y0) ∧ w'.cell? ⟨w.heap.size + 1, 1, none⟩ = some (.int .i64 y1) ∧ w'.cell? ⟨w.heap.size + 1, 2, none⟩ = some (.int .i64 y2) ∧ w'.cell? ⟨w.heap.size + 1, 3, none⟩ = some (.int .i64 y3) ∧ w'.cell? ⟨w.heap.size + 1 + 1, 0, none⟩ = some (.int .i64 z0) ∧ w'.cell? ⟨w.heap.size + 1 + 1, 1, none⟩ = some (.int .i64 z1) ∧ w'.cell? ⟨w.heap.size + 1 + 1, 2, none⟩ = some (.int .i64 z2) ∧ w'.cell? ⟨w.heap.size + 1 + 1, 3, none⟩ = some (.int .i64 z3) ∧ w'.cell? ⟨w.heap.size + 1 + 1 + 1, 0, none⟩ = some (.bool o0) ∧ w'.cell? ⟨w.heap.size + 1 + 1 + 1, 1, none⟩ = some (.int .i64 m0) ∧ w'.cell? ⟨w.heap.size + 1 + 1 + 1, 2, none⟩ = some (.bool o1) ∧ w'.cell? ⟨w.heap.size + 1 + 1 + 1, 3, none⟩ = some (.int .i64 m1) ∧ w'.cell? ⟨w.heap.size + 1 + 1 + 1, 4, none⟩ = some (.bool o2) ∧ w'.cell? ⟨w.heap.size + 1 + 1 + 1, 5, none⟩ = some (.int .i64 m2) ∧ w'.cell? ⟨w.heap.size + 1 + 1 + 1, 6, none⟩ = some (.bool o3) ∧ w'.cell? ⟨w.heap.size + 1 + 1 + 1, 7, none⟩ = some (.int .i64 m3) ∧ Below w.heap.size w w') ((first | exact BoS.below hS0 (below_drew (Below.refl _ _)) | assumption | (refine BoS.below ?_ hb; assumption))) ((first | (go_at_call 34; refine (zq_of _ _ _).mono ?_; rintro e w1 ⟨rfl, hb⟩) | (refine goesH_ _ rfl (by rfl) Try.func45 (by kernel_rfl) rfl #[.func (.func 46) #[] #[], .agg #[.bool o3, .int .i64 m3], .agg #[.bool o1, .int .i64 m1]] rfl rfl (by (try simp only [List.map_toArray, List.map_cons, List.map_nil]); first | done | rfl) ?_; refine (zk_b1 46 _ Try.func46 (by kernel_rfl) rfl _ _ zk_across _ _ _ x0 x1 x2 x3 y0 y1 y2 y3 z0 z1 z2 z3 o3 m3 o1 m1 ra _ (BoS.r4 (by assumption)) (BoS.r5 (by assumption)) (BoS.r6 (by assumption)) HA.out).mono ?_; rintro e w1 ⟨rfl, hb⟩; refine ⟨_, rfl, ?_⟩) | (refine goesH_ _ rfl (by rfl) Try.func45 (by kernel_rfl) rfl #[.func (.func 47) #[] #[], .agg #[.bool o0, .int .i64 m0], .agg #[.bool o2, .int .i64 m2]] rfl rfl (by (try simp only [List.map_toArray, List.map_cons, List.map_nil]); first | done | rfl) ?_; refine (zk_b1 47 _ Try.func47 (by kernel_rfl) rfl _ _ zk_down _ _ _ x0 x1 x2 x3 y0 y1 y2 y3 z0 z1 z2 z3 o0 m0 o2 m2 rd _ (BoS.r4 (by assumption)) (BoS.r5 (by assumption)) (BoS.r6 (by assumption)) HD.out).mono ?_; rintro e w1 ⟨rfl, hb⟩; refine ⟨_, rfl, ?_⟩)))
  have hS1 : BoS x0 x1 x2 x3 y0 y1 y2 y3 z0 z1 z2 z3 o0 m0 o1 m1 o2 m2 o3 m3 w w1 := by assumption
  have HB := Aside0.mk hS1.2.2.2.2.2.2.2.2.2.2.2.2.2.2.2.2.2.2.2.2
  clear hS0 hS1 HS
  go_wp2
  go_ret
  exact ⟨rfl, HB.out⟩
def stick_Both.f (x0 x1 x2 x3 y0 y1 y2 y3 z0 z1 z2 z3 : Int) (o0 : Bool) (m0 : Int) (o1 : Bool) (m1 : Int) (o2 : Bool) (m2 : Int) (o3 : Bool) (m3 : Int) : Option VPt := (stick_Shift.f 2 (vcut x0) (vadd x0 (mx x2 0)) (vcut y0) (vadd y0 (mx y2 0)) (vcut z0) (vadd z0 (mx z2 0)) o3 m3 o1 m1).bind fun a => (stick_Shift.f 2 (vcut x1) (vadd x1 (mx x3 0)) (vcut y1) (vadd y1 (mx y3 0)) (vcut z1) (vadd z1 (mx z3 0)) o0 m0 o2 m2).bind fun d => some (a, d)
theorem stick_Both.calls (x0 x1 x2 x3 y0 y1 y2 y3 z0 z1 z2 z3 : Int) (o0 : Bool) (m0 : Int) (o1 : Bool) (m1 : Int) (o2 : Bool) (m2 : Int) (o3 : Bool) (m3 : Int) (r : VPt) (w : World) (h : stick_Both.f x0 x1 x2 x3 y0 y1 y2 y3 z0 z1 z2 z3 o0 m0 o1 m1 o2 m2 o3 m3 = some r) : Calls Try.prog 21 #[.agg #[.int .i64 x0, .int .i64 x1, .int .i64 x2, .int .i64 x3], .agg #[.int .i64 y0, .int .i64 y1, .int .i64 y2, .int .i64 y3], .agg #[.int .i64 z0, .int .i64 z1, .int .i64 z2, .int .i64 z3], .agg #[.bool o0, .int .i64 m0, .bool o1, .int .i64 m1, .bool o2, .int .i64 m2, .bool o3, .int .i64 m3]] w fun e w' => e = .returned (vpt2 r) ∧ Below w.heap.size w w' := by
  obtain ⟨a, ha, h⟩ := Option.bind_eq_some_iff.mp h
  obtain ⟨d, hd, h⟩ := Option.bind_eq_some_iff.mp h
  obtain rfl := Option.some.inj h
  exact zk_both x0 x1 x2 x3 y0 y1 y2 y3 z0 z1 z2 z3 o0 m0 o1 m1 o2 m2 o3 m3 a d w ha hd

end Go.Proofs.Ytnmcefpnpfaklab.V
