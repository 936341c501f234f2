/- What the functions of this seat answer, as plain Lean functions, and that the calls come to just that (written by a program of this repo, over the kit's printer; Lean checks it). -/
import Derived.Test.YtnmcefpnpfakladVx0
import Derived.Test.YtnmcefpnpfakladVx2
import Derived.Test.YtnmcefpnpfakladVx3
import Derived.Test.YtnmcefpnpfakladVx4
import Derived.Test.YtnmcefpnpfakladVx5
import Derived.Test.YtnmcefpnpfakladVx8
import Derived.Test.YtnmcefpnpfakladVx9
import Derived.Test.YtnmcefpnpfakladVx10
namespace Go.Proofs.Ytnmcefpnpfaklad.V
open Go.RowKit Go.Proofs.YtnmcefpnpfakladW.PrintWords Go.Proofs.YtnmcefpnpfakladW.PrintLast Go.Proofs.YtnmcefpnpfakladW.PrintMore
attribute [local go_sem] max2_int min2_int max_two min_two max_three min_three max_four min_four   -- for this text's walks alone
set_option linter.unusedVariables false
set_option linter.unusedSimpArgs false

/-! ### justify_Starts: function 16 -/
def vkind (kind left n : Int) : Int := if kind = 4 ∨ kind = 5 then (if left ≤ 0 then 2 else kind) else if kind = 3 then (if left > 0 ∧ n > 1 then 3 else 0) else kind
theorem justify_of_eq (k : Nat) (hk : 1 ≤ k) (kind left n : Int) : justify_of.f k kind left n = some (vkind kind left n) := by
  obtain ⟨k, rfl⟩ : ∃ m, k = m + 1 := ⟨k - 1, by omega⟩
  unfold justify_of.f vkind
  simp only [justify_of.j0]
  by_cases h4 : kind = 4
  · subst h4; simp; split <;> rfl
  · by_cases h5 : kind = 5
    · subst h5; simp; split <;> rfl
    · by_cases h3 : kind = 3
      · subst h3; simp; by_cases h1 : 0 < left <;> by_cases h2 : 1 < n <;> simp [h1, h2]
      · by_cases h0 : kind = 0
        · subst h0; simp
        · simp [h0, h3, h4, h5]
def vjpart (left k m : Int) : Int := vdivd (vmul left k) m
def vshare (kd left n k : Int) : Int := if kd = 1 then left else if kd = 2 then vdivd left 2 else if kd = 3 then vjpart left k (n - 1) else if kd = 4 then vjpart left (2 * k + 1) (2 * n) else if kd = 5 then vjpart left (k + 1) (n + 1) else 0
theorem vdivd_bd (a b : Int) : -1099511627776 ≤ vdivd a b ∧ vdivd a b ≤ 1099511627776 := by
  unfold vdivd
  split
  · omega
  · have h := vcut_bd a
    have g := ediv_bd (a := vcut a) (b := vcut b) (by unfold vcut; (repeat' split) <;> omega)
    by_cases h0 : 0 ≤ vcut a
    · have := g.1 h0; omega
    · have := g.2 (by omega); omega
theorem vshare_bd (kd left n k : Int) (h : -1099511627776 ≤ left ∧ left ≤ 1099511627776) : -1099511627776 ≤ vshare kd left n k ∧ vshare kd left n k ≤ 1099511627776 := by
  unfold vshare vjpart; (repeat' split) <;> first | exact h | exact vdivd_bd _ _ | omega
theorem zj_sub (a b : Int) (w : World) : Calls Try.prog 32 #[.int .i64 a, .int .i64 b] w fun e w' => e = .returned (.int .i64 (vsub a b)) ∧ Below w.heap.size w w' := fix_Sub.calls a b _ w (fix_Sub_eq a b)
theorem zj_add (a b : Int) (w : World) : Calls Try.prog 33 #[.int .i64 a, .int .i64 b] w fun e w' => e = .returned (.int .i64 (vadd a b)) ∧ Below w.heap.size w w' := fix_Add.calls a b _ w (fix_Add_eq a b)
theorem zj_mul (a b : Int) (w : World) : Calls Try.prog 44 #[.int .i64 a, .int .i64 b] w fun e w' => e = .returned (.int .i64 (vmul a b)) ∧ Below w.heap.size w w' := fix_Mul.calls 1 a b _ w (fix_Mul_eq 1 (Nat.le_refl _) a b)
theorem zj_div (a b : Int) (w : World) : Calls Try.prog 37 #[.int .i64 a, .int .i64 b] w fun e w' => e = .returned (.int .i64 (vdivd a b)) ∧ Below w.heap.size w w' := fix_Div.calls a b _ w (fix_Div_eq a b)
theorem zj_of (kind left n : Int) (w : World) : Calls Try.prog 45 #[.int .i64 kind, .int .i64 left, .int .i64 n] w fun e w' => e = .returned (.int .i64 (vkind kind left n)) ∧ Below w.heap.size w w' := (justify_of.calls 1 kind left n _ w (justify_of_eq 1 (Nat.le_refl _) kind left n)).mono fun _ _ h => ⟨h.1, h.2.below⟩
theorem zj_part (left k m : Int) (g : Nat) (w : World) (hc : w.cell? ⟨g, 0, none⟩ = some (.int .i64 left)) : Calls Try.prog 43 #[.int .i64 k, .int .i64 m, .pointer (some ⟨g, 0, none⟩)] w fun e w' => e = .returned (.int .i64 (vjpart left k m)) ∧ Below w.heap.size w w' := by
  have hlt := World.block_lt_of_cell? w _ hc
  have HB := Aside0.mk (Below.refl w.heap.size w)
  go_enter Try.func43, Try.ntmps43
  go_wp2_with (first | (go_at_call 44; refine (zj_mul _ _ _).mono ?_; rintro e w1 ⟨rfl, hb⟩; replace HB := Aside0.mk (below_step HB.out hb); clear hb) | (go_at_call 37; refine (zj_div _ _ _).mono ?_; rintro e w1 ⟨rfl, hb⟩; replace HB := Aside0.mk (below_step HB.out hb); clear hb))
  go_ret
  exact ⟨rfl, HB.out⟩
/-- What is captured: the pointers, and what they point to. -/
def ShC (g4 g5 g7 : Nat) (left n : Int) (W : World) : Prop := W.heap[g4]? = some (.cells #[.int .i64 left] 3 (0, 0)) ∧ W.heap[g5]? = some (.cells #[.int .i64 n] 3 (0, 0)) ∧ W.heap[g7]? = some (.cells #[.func (.func 43) #[] #[.pointer (some ⟨g4, 0, none⟩)]] 48 (0, 0))
theorem ShC.below {g4 g5 g7 : Nat} {left n : Int} {W W1 : World} (h : ShC g4 g5 g7 left n W) (hb : Below W.heap.size W W1) : ShC g4 g5 g7 left n W1 := ⟨blk_below h.1 hb, blk_below h.2.1 hb, blk_below h.2.2 hb⟩
set_option maxHeartbeats 1000000 in
theorem zj_f2 (left n k : Int) (g4 g5 g7 : Nat) (w : World) (h : ShC g4 g5 g7 left n w) : Calls Try.prog 46 #[.int .i64 k, .pointer (some ⟨g4, 0, none⟩)] w fun e w' => e = .returned (.int .i64 left) ∧ Below w.heap.size w w' := by
  have c4 : w.cell? ⟨g4, 0, none⟩ = some (.int .i64 left) := (blk_cell h.1 0).trans rfl
  clear h
  go_enter Try.func46, Try.ntmps46
  go_wp2
  go_ret
  exact ⟨rfl, Below.refl _ _⟩
theorem zj_f3 (left n k : Int) (g4 g5 g7 : Nat) (w : World) (h : ShC g4 g5 g7 left n w) : Calls Try.prog 47 #[.int .i64 k, .pointer (some ⟨g4, 0, none⟩)] w fun e w' => e = .returned (.int .i64 (vdivd left 2)) ∧ Below w.heap.size w w' := by
  have c4 : w.cell? ⟨g4, 0, none⟩ = some (.int .i64 left) := (blk_cell h.1 0).trans rfl
  clear h
  go_enter Try.func47, Try.ntmps47
  go_wp2_with (go_at_call 37; refine (zj_div _ _ _).mono ?_; rintro e w1 ⟨rfl, hb⟩; have HB := Aside0.mk hb; clear hb)
  go_ret
  exact ⟨rfl, HB.out⟩
set_option maxHeartbeats 1000000 in
theorem zj_f4 (left n k : Int) (g4 g5 g7 : Nat) (w : World) (h : ShC g4 g5 g7 left n w) (hn : 0 ≤ n) (hn2 : n ≤ 35184372088832) (hk : 0 ≤ k) (hk2 : k ≤ 35184372088832) : Calls Try.prog 48 #[.int .i64 k, .pointer (some ⟨g7, 0, none⟩), .pointer (some ⟨g5, 0, none⟩)] w fun e w' => e = .returned (.int .i64 (vjpart left k (n - 1))) ∧ Below w.heap.size w w' := by
  have c4 : w.cell? ⟨g4, 0, none⟩ = some (.int .i64 left) := (blk_cell h.1 0).trans rfl
  have c5 : w.cell? ⟨g5, 0, none⟩ = some (.int .i64 n) := (blk_cell h.2.1 0).trans rfl
  have c7 : w.cell? ⟨g7, 0, none⟩ = some (.func (.func 43) #[] #[.pointer (some ⟨g4, 0, none⟩)]) := (blk_cell h.2.2 0).trans rfl
  clear h
  have Z := zj_part left k (n - 1) g4 w c4
  go_enter Try.func48, Try.ntmps48
  go_wp2_with (go_at_call 43; refine Z.mono ?_; rintro e w1 ⟨rfl, hb⟩; have HB := Aside0.mk hb; clear hb)
  go_ret
  exact ⟨rfl, HB.out⟩
set_option maxHeartbeats 1000000 in
theorem zj_f5 (left n k : Int) (g4 g5 g7 : Nat) (w : World) (h : ShC g4 g5 g7 left n w) (hn : 0 ≤ n) (hn2 : n ≤ 35184372088832) (hk : 0 ≤ k) (hk2 : k ≤ 35184372088832) : Calls Try.prog 49 #[.int .i64 k, .pointer (some ⟨g7, 0, none⟩), .pointer (some ⟨g5, 0, none⟩)] w fun e w' => e = .returned (.int .i64 (vjpart left (2 * k + 1) (2 * n))) ∧ Below w.heap.size w w' := by
  have c4 : w.cell? ⟨g4, 0, none⟩ = some (.int .i64 left) := (blk_cell h.1 0).trans rfl
  have c5 : w.cell? ⟨g5, 0, none⟩ = some (.int .i64 n) := (blk_cell h.2.1 0).trans rfl
  have c7 : w.cell? ⟨g7, 0, none⟩ = some (.func (.func 43) #[] #[.pointer (some ⟨g4, 0, none⟩)]) := (blk_cell h.2.2 0).trans rfl
  clear h
  have Z := zj_part left (2 * k + 1) (2 * n) g4 w c4
  go_enter Try.func49, Try.ntmps49
  go_wp2_with (go_at_call 43; refine Z.mono ?_; rintro e w1 ⟨rfl, hb⟩; have HB := Aside0.mk hb; clear hb)
  go_ret
  exact ⟨rfl, HB.out⟩
set_option maxHeartbeats 1000000 in
theorem zj_f6 (left n k : Int) (g4 g5 g7 : Nat) (w : World) (h : ShC g4 g5 g7 left n w) (hn : 0 ≤ n) (hn2 : n ≤ 35184372088832) (hk : 0 ≤ k) (hk2 : k ≤ 35184372088832) : Calls Try.prog 50 #[.int .i64 k, .pointer (some ⟨g7, 0, none⟩), .pointer (some ⟨g5, 0, none⟩)] w fun e w' => e = .returned (.int .i64 (vjpart left (k + 1) (n + 1))) ∧ Below w.heap.size w w' := by
  have c4 : w.cell? ⟨g4, 0, none⟩ = some (.int .i64 left) := (blk_cell h.1 0).trans rfl
  have c5 : w.cell? ⟨g5, 0, none⟩ = some (.int .i64 n) := (blk_cell h.2.1 0).trans rfl
  have c7 : w.cell? ⟨g7, 0, none⟩ = some (.func (.func 43) #[] #[.pointer (some ⟨g4, 0, none⟩)]) := (blk_cell h.2.2 0).trans rfl
  clear h
  have Z := zj_part left (k + 1) (n + 1) g4 w c4
  go_enter Try.func50, Try.ntmps50
  go_wp2_with (go_at_call 43; refine Z.mono ?_; rintro e w1 ⟨rfl, hb⟩; have HB := Aside0.mk hb; clear hb)
  go_ret
  exact ⟨rfl, HB.out⟩
theorem zj_f7 (k : Int) (w : World) : Calls Try.prog 51 #[.int .i64 k] w fun e w' => e = .returned (.int .i64 0) ∧ Below w.heap.size w w' := by
  go_enter Try.func51, Try.ntmps51
  go_wp2
  go_ret
  exact ⟨rfl, Below.refl _ _⟩
/-- A function value: at any later world a call of it comes to g k. -/
def FnV (v : Value) (W : World) (g : Int → Int) : Prop := ∃ (f : FuncId) (fn : Func) (caps : Array Value), v = .func (.func f) #[] caps ∧ Try.prog.funcs[f]? = some fn ∧ (fn.name == "runtime.NumGoroutine") = false ∧ fn.body.isSome = true ∧
  ∀ W1 : World, Below W.heap.size W W1 → ∀ k : Int, 0 ≤ k → k ≤ 35184372088832 → Calls Try.prog f (#[.int .i64 k] ++ caps) W1 fun e w' => e = .returned (.int .i64 (g k)) ∧ Below W1.heap.size W1 w'
theorem FnV.below {v : Value} {W W1 : World} {g : Int → Int} (h : FnV v W g) (hb : Below W.heap.size W W1) : FnV v W1 g := by
  obtain ⟨f, fn, caps, rfl, h1, h2, h3, hc⟩ := h
  exact ⟨f, fn, caps, rfl, h1, h2, h3, fun W2 hb2 => hc W2 (below_step hb hb2)⟩
theorem goesF_ {P : Program} {ops : Array Oper} {Q : Exit → Act → World → Prop} {rest : List Oper} {oi : Oper} {a : Act} {w : World} (N : Option Tmp) (hd : oi.dst = N) (hg : oi.guard = none) {t : Tmp} {f : FuncId} {fn : Func} {as_ : Array Operand} {ts : Array TypeId} {caps : Array Value} (hf : P.funcs[f]? = some fn) (hname : (fn.name == "runtime.NumGoroutine") = false) (hb : fn.body.isSome = true) (args : Array Value)
    (hop : oi.op = .call { callee := .value (.tmp t), args := as_, argTypes := ts }) (hv : a.eval (.tmp t) = .func (.func f) #[] caps) (hargs : as_.map a.eval = args)
    (h : Calls P f (args ++ caps) w fun e w' => ∃ v, e = .returned v ∧ wpList P ops Q rest (a.put N v) w') : wpList P ops Q (oi :: rest) a w := by
  refine wpList_plain hg fun K hK => ?_
  have he := enters_ hf hname hb (args ++ caps) w
  have hrun : (execOp a.eval oi).run P w = .ok (.enter f (args ++ caps)) w := by
    unfold execOp
    simp [hop, resolve, Deferred.ofValue, invoke, hv, hargs, he]
  unfold Oper.wp
  rw [hrun, Oper.upon_enter]
  refine h.mono fun e w'' hh => ?_
  obtain ⟨v, rfl, hk⟩ := hh
  subst hd
  exact hK _ _ hk
theorem ShC.start (left n : Int) (w : World) : ShC w.heap.size (w.heap.size + 1) (w.heap.size + 1 + 1) left n (((w.alloc (.cells #[.int .i64 left] 3)).alloc (.cells #[.int .i64 n] 3)).alloc (.cells #[.func (.func 43) #[] #[.pointer (some ⟨w.heap.size, 0, none⟩)]] 48)) := by
  have B5 := blk_new (w.alloc (.cells #[.int .i64 left] 3)) (.cells #[.int .i64 n] 3)
  have B7 := blk_new ((w.alloc (.cells #[.int .i64 left] 3)).alloc (.cells #[.int .i64 n] 3)) (.cells #[.func (.func 43) #[] #[.pointer (some ⟨w.heap.size, 0, none⟩)]] 48)
  rw [World.size_alloc] at B5 B7
  rw [World.size_alloc] at B7
  exact ⟨blk_alloc (blk_alloc (blk_new w _) _) _, blk_alloc B5 _, B7⟩
set_option maxHeartbeats 4000000 in
theorem zj_before (kind left n : Int) (w : World) (hn : 0 ≤ n) (hn2 : n ≤ 35184372088832) : Calls Try.prog 31 #[.int .i64 kind, .int .i64 left, .int .i64 n] w fun e w' => ∃ v, e = .returned v ∧ FnV v w' (vshare (vkind kind left n) left n) ∧ Below w.heap.size w w' := by
  have Z := fun W => zj_of kind left n W
  have HS := Aside0.mk (ShC.start left n w)
  have H0 := Aside0.mk (show Below w.heap.size w (((w.alloc (.cells #[.int .i64 left] 3)).alloc (.cells #[.int .i64 n] 3)).alloc (.cells #[.func (.func 43) #[] #[.pointer (some ⟨w.heap.size, 0, none⟩)]] 48)) from below_alloc (below_alloc (below_alloc (Below.refl w.heap.size w) _) _) _)
  have key : ∀ (W W1 : World) (v : Value), ShC w.heap.size (w.heap.size + 1) (w.heap.size + 1 + 1) left n W → Below w.heap.size w W → Below W.heap.size W W1 →
      (∀ W2 : World, ShC w.heap.size (w.heap.size + 1) (w.heap.size + 1 + 1) left n W2 → FnV v W2 (vshare (vkind kind left n) left n)) → ∃ v_ : Value, Ending.returned v = .returned v_ ∧ FnV v_ W1 (vshare (vkind kind left n) left n) ∧ Below w.heap.size w W1 :=
    fun W W1 v h1 h2 h3 h4 => ⟨v, rfl, h4 W1 (h1.below h3), below_step h2 h3⟩
  generalize vkind kind left n = kd at *
  by_cases e1 : kd = 1
  · subst e1
    have hv : vshare 1 left n = fun k => left := by funext k; simp [vshare]
    rw [hv] at key ⊢
    clear hv
    go_enter Try.func31, Try.ntmps31
    go_wp2_with (go_at_call 45; refine (Z _).mono ?_; rintro e w1 ⟨rfl, hb⟩; have HB := Aside0.mk hb; clear hb)
    go_ret
    exact key _ _ _ HS.out H0.out HB.out (fun W2 h => ⟨46, _, _, rfl, Try.func46, (by kernel_rfl), rfl, fun W3 hb3 k hk hk2 => zj_f2 left n k _ _ _ W3 (h.below hb3)⟩)
  by_cases e2 : kd = 2
  · subst e2
    have hv : vshare 2 left n = fun k => vdivd left 2 := by funext k; simp [vshare]
    rw [hv] at key ⊢
    clear hv e1
    go_enter Try.func31, Try.ntmps31
    go_wp2_with (go_at_call 45; refine (Z _).mono ?_; rintro e w1 ⟨rfl, hb⟩; have HB := Aside0.mk hb; clear hb)
    go_ret
    exact key _ _ _ HS.out H0.out HB.out (fun W2 h => ⟨47, _, _, rfl, Try.func47, (by kernel_rfl), rfl, fun W3 hb3 k hk hk2 => zj_f3 left n k _ _ _ W3 (h.below hb3)⟩)
  by_cases e3 : kd = 3
  · subst e3
    have hv : vshare 3 left n = fun k => vjpart left k (n - 1) := by funext k; simp [vshare]
    rw [hv] at key ⊢
    clear hv e1 e2
    go_enter Try.func31, Try.ntmps31
    go_wp2_with (go_at_call 45; refine (Z _).mono ?_; rintro e w1 ⟨rfl, hb⟩; have HB := Aside0.mk hb; clear hb)
    go_ret
    exact key _ _ _ HS.out H0.out HB.out (fun W2 h => ⟨48, _, _, rfl, Try.func48, (by kernel_rfl), rfl, fun W3 hb3 k hk hk2 => zj_f4 left n k _ _ _ W3 (h.below hb3) hn hn2 hk hk2⟩)
  by_cases e4 : kd = 4
  · subst e4
    have hv : vshare 4 left n = fun k => vjpart left (2 * k + 1) (2 * n) := by funext k; simp [vshare]
    rw [hv] at key ⊢
    clear hv e1 e2 e3
    go_enter Try.func31, Try.ntmps31
    go_wp2_with (go_at_call 45; refine (Z _).mono ?_; rintro e w1 ⟨rfl, hb⟩; have HB := Aside0.mk hb; clear hb)
    go_ret
    exact key _ _ _ HS.out H0.out HB.out (fun W2 h => ⟨49, _, _, rfl, Try.func49, (by kernel_rfl), rfl, fun W3 hb3 k hk hk2 => zj_f5 left n k _ _ _ W3 (h.below hb3) hn hn2 hk hk2⟩)
  by_cases e5 : kd = 5
  · subst e5
    have hv : vshare 5 left n = fun k => vjpart left (k + 1) (n + 1) := by funext k; simp [vshare]
    rw [hv] at key ⊢
    clear hv e1 e2 e3 e4
    go_enter Try.func31, Try.ntmps31
    go_wp2_with (go_at_call 45; refine (Z _).mono ?_; rintro e w1 ⟨rfl, hb⟩; have HB := Aside0.mk hb; clear hb)
    go_ret
    exact key _ _ _ HS.out H0.out HB.out (fun W2 h => ⟨50, _, _, rfl, Try.func50, (by kernel_rfl), rfl, fun W3 hb3 k hk hk2 => zj_f6 left n k _ _ _ W3 (h.below hb3) hn hn2 hk hk2⟩)
  have hv : vshare kd left n = fun k => 0 := by funext k; simp [vshare, e1, e2, e3, e4, e5]
  rw [hv] at key ⊢
  clear hv
  have g1 : (kd == 1) = false := by simpa using e1
  have g2 : (kd == 2) = false := by simpa using e2
  have g3 : (kd == 3) = false := by simpa using e3
  have g4 : (kd == 4) = false := by simpa using e4
  have g5 : (kd == 5) = false := by simpa using e5
  clear e1 e2 e3 e4 e5
  go_enter Try.func31, Try.ntmps31
  go_wp2_with (go_at_call 45; refine (Z _).mono ?_; rintro e w1 ⟨rfl, hb⟩; have HB := Aside0.mk hb; clear hb)
  go_ret
  exact key _ _ _ HS.out H0.out HB.out (fun W2 h => ⟨51, _, _, rfl, Try.func51, (by kernel_rfl), rfl, fun W3 hb3 k hk hk2 => zj_f7 k W3⟩)
theorem gateF_ {P : Program} {ops : Array Oper} {Q : Exit → Act → World → Prop} {rest : List Oper} {o : Oper} {a : Act} {W : World} {t : Tmp} {as_ : Array Operand} {ts : Array TypeId} (_ho : o.op = .call { callee := .value (.tmp t), args := as_, argTypes := ts }) (h : wpList P ops Q (o :: rest) a W) : wpList P ops Q (o :: rest) a W := h
/-- What Starts comes to: from the i-th on. -/
def vst (kd left n gap : Int) (l : List Int) : Nat → Nat → Int → Int → List Int → List Int
  | 0, _, _, _, out => out
  | d + 1, i, at_, was, out => vst kd left n gap l d (i + 1) (vadd (vadd (if 0 < (i : Int) then vadd at_ gap else at_) (vshare kd left n i - was)) (rd l i)) (vshare kd left n i) (out ++ [vadd (if 0 < (i : Int) then vadd at_ gap else at_) (vshare kd left n i - was)])
theorem zj_long (k : Nat) (A : Option Addr) (c : Nat) (l : List Int) (g t : Int) (w : World) (hr : Kd.C (Kd.int .i64) w A l.length l) (hc : l.length ≤ c) (h : lines_Long.f k l g = some t) : Calls Try.prog 23 #[.slice A l.length c, .int .i64 g] w fun e w' => e = .returned (.int .i64 t) ∧ Below w.heap.size w w' := lines_Long.calls k _ _ l g t w hr hc h
def justify_Starts.f (k : Nat) (kind : Int) (l : List Int) (room gap : Int) : Option (List Int) := (lines_Long.f k l gap).bind fun t => if l.length ≤ 17592186044415 then some (vst (vkind kind (vsub room t) l.length) (vsub room t) l.length gap l l.length 0 0 0 []) else none
theorem justify_Starts.mono : ∀ a0 a1 a2 a3 k, LeO (justify_Starts.f k a0 a1 a2 a3) (justify_Starts.f (k + 1) a0 a1 a2 a3) := by
  intro a0 a1 a2 a3 k
  unfold justify_Starts.f
  exact LeO.bind (lines_Long.mono _ _ _) (fun _ => LeO.refl _)
set_option maxHeartbeats 8000000 in
set_option maxRecDepth 100000 in
theorem justify_Starts.calls (k : Nat) (a0 : Int) (A1 : Option Addr) (c1 : Nat) (l1 : List Int) (a2 a3 : Int) (r : List Int) (w : World) (hr1 : Kd.C (Kd.int .i64) w A1 l1.length l1) (hc1 : l1.length ≤ c1) (h : justify_Starts.f k a0 l1 a2 a3 = some r) :
    Calls Try.prog 16 #[.int .i64 a0, .slice A1 l1.length c1, .int .i64 a2, .int .i64 a3] w fun e w' => ∃ v0_ : Value, e = .returned (v0_) ∧ Kd.R (Kd.int .i64) 3 w' w.heap.size (fun _ => True) v0_ r ∧ Below w.heap.size w w' := by
  unfold justify_Starts.f at h
  obtain ⟨t, ht, h⟩ := Option.bind_eq_some_iff.mp h
  by_cases hlen : l1.length ≤ 17592186044415
  case neg => rw [if_neg hlen] at h; cases h
  rw [if_pos hlen] at h
  have h' := Option.some.inj h
  have HR1 := Aside0.mk hr1
  have HC1 := Aside0.mk hc1
  have HT := Aside0.mk ht
  clear hr1 hc1 h ht
  have HB := Aside0.mk (Below.refl w.heap.size w)
  have hsb : -1099511627776 ≤ vsub a2 t ∧ vsub a2 t ≤ 1099511627776 := vcut_bd _
  have HV := Aside0.mk h'
  clear h'
  have Z1 := fun W => zj_sub a2 t W
  generalize vsub a2 t = left at *
  have HF := Aside0.mk (fun W => zj_before a0 left l1.length W (by omega) (by omega))
  generalize vkind a0 left l1.length = kd at *
  have hshb := Aside0.mk (fun k => vshare_bd kd left l1.length k hsb)
  go_enter Try.func16, Try.ntmps16
  go_wp2_with (first | (go_at_call 23; refine (zj_long k _ _ l1 a3 t _ HR1.out HC1.out HT.out).mono ?_; rintro e w1 ⟨rfl, hb⟩; replace HB := Aside0.mk (below_step HB.out hb); clear hb) | (go_at_call 32; refine (Z1 _).mono ?_; rintro e w2 ⟨rfl, hb⟩; replace HB := Aside0.mk (below_step HB.out hb); clear hb) | (go_at_call 31; refine (HF.out _).mono ?_; rintro e w3 ⟨fv, rfl, hfn, hb⟩; replace HB := Aside0.mk (below_step HB.out hb); have HFN := Aside0.mk hfn; clear hb hfn))
  obtain ⟨f, fn, caps, hfv, hf1, hf2, hf3, hfc⟩ := HFN.out
  have HFC := Aside0.mk hfc
  have HF0 := Aside0.mk hfv
  have HF1 := Aside0.mk hf1
  have HF2 := Aside0.mk hf2
  have HF3 := Aside0.mk hf3
  clear hfc hf1 hf2 hf3 hfv HFN
  have HR0 := Aside0.mk (Kd.R_nil (Kd.int .i64) 3 w3 w3.heap.size (fun _ => True))
  have HB0 := HB
  have HB3 := Aside0.mk (Below.refl w3.heap.size w3)
  clear HB
  go_loopw [10, 11, 12, 27] (fun v10 v11 v12 v27 W => ∃ (i : Nat) (at_ was : Int) (out : List Int), i ≤ l1.length ∧ v11 = .int .i64 at_ ∧ v12 = .int .i64 was ∧ v27 = .int .i64 (i : Int) ∧ -1099511627776 ≤ was ∧ was ≤ 1099511627776 ∧ Aside0 (vst kd left l1.length a3 l1 (l1.length - i) i at_ was out = r) ∧ Aside0 (out.length = i) ∧ Aside0 (Kd.R (Kd.int .i64) 3 W w3.heap.size (fun _ => True) v10 out) ∧ Aside0 (Below w3.heap.size w3 W)) (fun _ _ _ v27 _ => l1.length - (intOf v27).toNat)
  case atStart => exact ⟨0, 0, 0, [], Nat.zero_le _, rfl, rfl, rfl, by omega, by omega, HV, ⟨rfl⟩, HR0, HB3⟩
  case round =>
    clear HV HR0 HT HF Z1 HB3
    obtain ⟨i, at_, was, out, hi, rfl, rfl, rfl, hw1, hw2, HV, HL, HO, HB⟩ := hrel
    by_cases hlt : i < l1.length
    · obtain ⟨ad, e, hx0⟩ := Kd.at_int HR1.out (i : Int) (by omega) (by omega)
      cases e
      rw [Int.toNat_natCast] at hx0
      have hx1 := (HB0.out.cell (World.block_lt_of_cell? w _ hx0)).trans hx0
      replace hx0 := (HB.out.cell (World.block_lt_of_cell? w3 _ hx1)).trans hx1
      clear hx1
      have hsb1 := (hshb.out (i : Int)).1
      have hsb2 := (hshb.out (i : Int)).2
      have HV1 := Aside0.mk (show vst kd left l1.length a3 l1 (l1.length - (i + 1)) (i + 1) (vadd (vadd (if 0 < (i : Int) then vadd at_ a3 else at_) (vshare kd left l1.length i - was)) (rd l1 i)) (vshare kd left l1.length i) (out ++ [vadd (if 0 < (i : Int) then vadd at_ a3 else at_) (vshare kd left l1.length i - was)]) = r by
        have := HV.out
        rw [show l1.length - i = (l1.length - (i + 1)) + 1 by omega] at this
        exact this)
      clear HV
      generalize hsh : vshare kd left (l1.length : Int) (i : Int) = now at *
      have HSH := Aside0.mk hsh
      clear hsh
      by_cases h0 : 0 < (i : Int)
      · skip
        rw [if_pos h0] at HV1
        skip
        go_wp2_with (first | ((with_reducible refine gate_builtin (b := .append) (xs := #[.tmp 46, .tmp 48]) rfl ?_); at_builtin; (refine Kd.R_append (Kd.int .i64) (w0 := w3) w3.heap.size rfl (.tmp 46) (.tmp 48) 23 3 (.int .i64 0) 8 rfl Try.underlying23 info3 rfl (by decide) (by omega) u10 out (vadd (vadd at_ a3) (now - was)) [.int .i64 (vadd (vadd at_ a3) (now - was))] (fun _ => True) (fun _ => False) rfl rfl ?aP (fun _ hk => hk.elim) ?aF ?aO ?aB ?aS ?aL ?_; (case aP => exact rfl); (case aB => exact (by repeat (first | (with_reducible first | exact HB.out | apply below_alloc | apply pw_below_drewN | apply below_drew1) | exact HB.out))); (case aF => exact (fun _ _ => trivial)); (case aO => exact (by (with_reducible repeat (first | apply Kd.R_alloc | apply Kd.R_drewN | apply Kd.R_drew)); exact HO.out)); (case aS => exact (below_size (by repeat (first | (with_reducible first | exact HB.out | apply below_alloc | apply pw_below_drewN | apply below_drew1) | exact HB.out)))); (case aL => have := HL.out; omega); intro v161 w16 ho hb hg hat; have n0_ := Aside0.mk hb; have n1_ := Aside0.mk ho; clear HB HO; have HB := n0_; have HO := n1_; clear n0_ n1_ ho hb hg hat)) | ((with_reducible refine gateF_ (t := 37) rfl ?_); (refine goesF_ (some 39) rfl rfl HF1.out HF2.out HF3.out #[.int .i64 (i : Int)] rfl HF0.out (by (try simp only [List.map_toArray, List.map_cons, List.map_nil]); first | done | rfl) ?_; refine (HFC.out _ (by repeat (first | (with_reducible first | exact HB.out | apply below_alloc | apply pw_below_drewN | apply below_drew1) | exact HB.out)) i (by omega) (by omega)).mono ?_; rw [HSH.out]; rintro e w5 ⟨rfl, hb⟩; refine ⟨_, rfl, ?_⟩; have n0_ := Aside0.mk (Kd.R_below (by (with_reducible repeat (first | apply Kd.R_alloc | apply Kd.R_drewN | apply Kd.R_drew)); exact HO.out) hb); have n1_ := Aside0.mk (below_step (by repeat (first | (with_reducible first | exact HB.out | apply below_alloc | apply pw_below_drewN | apply below_drew1) | exact HB.out)) hb); clear HO HB; have HO := n0_; have HB := n1_; clear n0_ n1_ hb)) | (go_at_call 33; refine (zj_add _ _ _).mono ?_; rintro e w4 ⟨rfl, hb⟩; have n0_ := Aside0.mk (Kd.R_below (by (with_reducible repeat (first | apply Kd.R_alloc | apply Kd.R_drewN | apply Kd.R_drew)); exact HO.out) hb); have n1_ := Aside0.mk (below_step (by repeat (first | (with_reducible first | exact HB.out | apply below_alloc | apply pw_below_drewN | apply below_drew1) | exact HB.out)) hb); clear HO HB; have HO := n0_; have HB := n1_; clear n0_ n1_ hb))
        go_roundw
        case rel => exact ⟨i + 1, _, now, _, by omega, by first | rfl | go_num, rfl, by go_num, hsb1, hsb2, HV1, ⟨by rw [List.length_append, HL.out]; rfl⟩, ⟨(by (with_reducible repeat (first | apply Kd.R_alloc | apply Kd.R_drewN | apply Kd.R_drew)); exact HO.out)⟩, ⟨(by repeat (first | (with_reducible first | exact HB.out | apply below_alloc | apply pw_below_drewN | apply below_drew1) | exact HB.out))⟩⟩
        case measure => simp [intOf]; omega
      · skip
        rw [if_neg h0] at HV1
        go_wp2_with (first | ((with_reducible refine gate_builtin (b := .append) (xs := #[.tmp 46, .tmp 48]) rfl ?_); at_builtin; (refine Kd.R_append (Kd.int .i64) (w0 := w3) w3.heap.size rfl (.tmp 46) (.tmp 48) 23 3 (.int .i64 0) 8 rfl Try.underlying23 info3 rfl (by decide) (by omega) u10 out (vadd at_ (now - was)) [.int .i64 (vadd at_ (now - was))] (fun _ => True) (fun _ => False) rfl rfl ?aP (fun _ hk => hk.elim) ?aF ?aO ?aB ?aS ?aL ?_; (case aP => exact rfl); (case aB => exact (by repeat (first | (with_reducible first | exact HB.out | apply below_alloc | apply pw_below_drewN | apply below_drew1) | exact HB.out))); (case aF => exact (fun _ _ => trivial)); (case aO => exact (by (with_reducible repeat (first | apply Kd.R_alloc | apply Kd.R_drewN | apply Kd.R_drew)); exact HO.out)); (case aS => exact (below_size (by repeat (first | (with_reducible first | exact HB.out | apply below_alloc | apply pw_below_drewN | apply below_drew1) | exact HB.out)))); (case aL => have := HL.out; omega); intro v161 w16 ho hb hg hat; have n0_ := Aside0.mk hb; have n1_ := Aside0.mk ho; clear HB HO; have HB := n0_; have HO := n1_; clear n0_ n1_ ho hb hg hat)) | ((with_reducible refine gateF_ (t := 37) rfl ?_); (refine goesF_ (some 39) rfl rfl HF1.out HF2.out HF3.out #[.int .i64 (i : Int)] rfl HF0.out (by (try simp only [List.map_toArray, List.map_cons, List.map_nil]); first | done | rfl) ?_; refine (HFC.out _ (by repeat (first | (with_reducible first | exact HB.out | apply below_alloc | apply pw_below_drewN | apply below_drew1) | exact HB.out)) i (by omega) (by omega)).mono ?_; rw [HSH.out]; rintro e w5 ⟨rfl, hb⟩; refine ⟨_, rfl, ?_⟩; have n0_ := Aside0.mk (Kd.R_below (by (with_reducible repeat (first | apply Kd.R_alloc | apply Kd.R_drewN | apply Kd.R_drew)); exact HO.out) hb); have n1_ := Aside0.mk (below_step (by repeat (first | (with_reducible first | exact HB.out | apply below_alloc | apply pw_below_drewN | apply below_drew1) | exact HB.out)) hb); clear HO HB; have HO := n0_; have HB := n1_; clear n0_ n1_ hb)) | (go_at_call 33; refine (zj_add _ _ _).mono ?_; rintro e w4 ⟨rfl, hb⟩; have n0_ := Aside0.mk (Kd.R_below (by (with_reducible repeat (first | apply Kd.R_alloc | apply Kd.R_drewN | apply Kd.R_drew)); exact HO.out) hb); have n1_ := Aside0.mk (below_step (by repeat (first | (with_reducible first | exact HB.out | apply below_alloc | apply pw_below_drewN | apply below_drew1) | exact HB.out)) hb); clear HO HB; have HO := n0_; have HB := n1_; clear n0_ n1_ hb))
        go_roundw
        case rel => exact ⟨i + 1, _, now, _, by omega, by first | rfl | go_num, rfl, by go_num, hsb1, hsb2, HV1, ⟨by rw [List.length_append, HL.out]; rfl⟩, ⟨(by (with_reducible repeat (first | apply Kd.R_alloc | apply Kd.R_drewN | apply Kd.R_drew)); exact HO.out)⟩, ⟨(by repeat (first | (with_reducible first | exact HB.out | apply below_alloc | apply pw_below_drewN | apply below_drew1) | exact HB.out))⟩⟩
        case measure => simp [intOf]; omega
    · obtain rfl : i = l1.length := by omega
      go_wp2
      go_ret
      exact ⟨_, rfl, by have := Kd.R_lower HO.out HB0.out.size; have e := HV.out; rw [Nat.sub_self] at e; rw [← e]; exact this, below_step HB0.out HB.out⟩

end Go.Proofs.Ytnmcefpnpfaklad.V
