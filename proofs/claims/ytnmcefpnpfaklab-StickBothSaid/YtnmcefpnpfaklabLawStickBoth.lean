/- What the functions of this seat answer, as plain Lean functions, and that the calls come to just that (written by a program of this repo, over the kit's printer; Lean checks it). -/
import Derived.Test.YtnmcefpnpfaklabRows
import Derived.Test.YtnmcefpnpfaklabVx23
import Derived.Test.YtnmcefpnpfaklabPureStickBoth
import Derived.WalkKit
import Derived.ProofKit
import Derived.OpenShut
import Derived.ShutString
import Derived.ChangeOld
import Derived.Below
import Derived.SizedLaws
import Derived.Test.YtnmcefpnpfaklabWSized
namespace Go.Proofs.Ytnmcefpnpfaklab.stickBoth
open Go.ChangeShapes Go.WideShapes Go.ChangeAt Go.RowKit
open Go.ChangeMaps (open_string shut_string)
set_option linter.unusedVariables false
theorem own : ownKnob Try.prog.godebug = none := by kernel_rfl
theorem laidOut : laidOutB Try.prog = true := by kernel_rfl
def IsRow (k : IntKind) (w : World) (a : Option Addr) (len cap : Nat) (zs : List Int) : Prop :=
  (a = none ∧ len = 0 ∧ cap = 0 ∧ zs = []) ∨
  ∃ x, a = some x ∧ len ≤ cap ∧ cap ≤ maxLen ∧ zs.length = cap ∧ (∀ i, i < zs.length → w.cell? (x.add i) = some (.int k (zs.getD i 0))) ∧ ∀ n ∈ zs, (Lit.int k n).wf = true
set_option linter.unusedSimpArgs false in
theorem st_open33 {H : Type} {enc : TypeId × Value → H} {w : World} {base b0 : Nat} {sp : Nat → Bool} {held : Bool} {r : Reach} {v : Value} {d : DataW H} {ps : List MemPlace}
    (hval : Value.okWide Try.prog w r b0 33 v) (hd : DataW.Trod enc Try.prog w base sp held 33 v d ps) :
    ∃ (x0 : Int) (x1 : Int) (x2 : Int) (x3 : Int), v = .agg #[.int .i64 x0, .int .i64 x1, .int .i64 x2, .int .i64 x3] ∧ (Lit.int .i64 x0).wf = true ∧ (Lit.int .i64 x1).wf = true ∧ (Lit.int .i64 x2).wf = true ∧ (Lit.int .i64 x3).wf = true := by
  have hc3 : Try.prog.cellsOf 3 = 1 := by kernel_rfl
  have hc33 : Try.prog.cellsOf 33 = 4 := by kernel_rfl
  obtain ⟨cs, rfl, hsz⟩ := okWide_struct Try.underlying33 hval
  obtain ⟨l⟩ := cs
  obtain ⟨fuel, hy⟩ := hd
  match l, hsz.trans hc33 with
  | [c0, c1, c2, c3], _ =>
  simp only [Value.cells] at hy
  obtain ⟨ys, m, _, _, _, hl, hf⟩ := DataW.trod_struct Try.underlying33 hy
  match ys, hl with
  | [y_0, y_1, y_2, y_3], _ =>
  have hy_0 := hf 0 _ rfl
  have hy_1 := hf 1 _ rfl
  have hy_2 := hf 2 _ rfl
  have hy_3 := hf 3 _ rfl
  simp [hc3, hc33] at hy_0 hy_1 hy_2 hy_3
  obtain ⟨x0, e0, _, s0⟩ := DataW.trod_int Try.underlying3 hy_0
  obtain ⟨x1, e1, _, s1⟩ := DataW.trod_int Try.underlying3 hy_1
  obtain ⟨x2, e2, _, s2⟩ := DataW.trod_int Try.underlying3 hy_2
  obtain ⟨x3, e3, _, s3⟩ := DataW.trod_int Try.underlying3 hy_3
  simp at e0 e1 e2 e3
  subst e0 e1 e2 e3
  exact ⟨x0, x1, x2, x3, rfl, s0, s1, s2, s3⟩
set_option linter.unusedSimpArgs false in
theorem st_open37 {H : Type} {enc : TypeId × Value → H} {w : World} {base b0 : Nat} {sp : Nat → Bool} {held : Bool} {r : Reach} {v : Value} {d : DataW H} {ps : List MemPlace}
    (hval : Value.okWide Try.prog w r b0 37 v) (hd : DataW.Trod enc Try.prog w base sp held 37 v d ps) :
    ∃ (x0 : Int) (x1 : Int) (x2 : Int) (x3 : Int) (x4 : Int) (x5 : Int) (x6 : Int) (x7 : Int), v = .agg #[.int .i64 x0, .int .i64 x1, .int .i64 x2, .int .i64 x3, .int .i64 x4, .int .i64 x5, .int .i64 x6, .int .i64 x7] ∧ (Lit.int .i64 x0).wf = true ∧ (Lit.int .i64 x1).wf = true ∧ (Lit.int .i64 x2).wf = true ∧ (Lit.int .i64 x3).wf = true ∧ (Lit.int .i64 x4).wf = true ∧ (Lit.int .i64 x5).wf = true ∧ (Lit.int .i64 x6).wf = true ∧ (Lit.int .i64 x7).wf = true := by
  have hc3 : Try.prog.cellsOf 3 = 1 := by kernel_rfl
  have hc34 : Try.prog.cellsOf 34 = 1 := by kernel_rfl
  have hc36 : Try.prog.cellsOf 36 = 2 := by kernel_rfl
  have hc37 : Try.prog.cellsOf 37 = 8 := by kernel_rfl
  have hval' := hval
  unfold Value.okWide at hval'
  rw [Try.underlying37] at hval'
  obtain ⟨cs, rfl, hsz, _⟩ := hval'
  obtain ⟨l⟩ := cs
  obtain ⟨fuel, hy⟩ := hd
  match l, hsz.trans hc37 with
  | [c0, c1, c2, c3, c4, c5, c6, c7], _ =>
  simp only [Value.cells] at hy
  obtain ⟨ys, m, _, _, _, hl, hf⟩ := DataW.trod_array Try.underlying37 hy
  match ys, hl with
  | [y_0, y_1, y_2, y_3], _ =>
  have hy_0 := hf 0 (by omega)
  have hy_1 := hf 1 (by omega)
  have hy_2 := hf 2 (by omega)
  have hy_3 := hf 3 (by omega)
  simp [hc3, hc34, hc36, hc37] at hy_0 hy_1 hy_2 hy_3
  obtain ⟨ys_0, m_0, _, _, _, hl_0, hf_0⟩ := DataW.trod_struct Try.underlying36 hy_0
  match ys_0, hl_0 with
  | [y_0_0, y_0_1], _ =>
  have hy_0_0 := hf_0 0 _ rfl
  have hy_0_1 := hf_0 1 _ rfl
  simp [hc3, hc34, hc36, hc37] at hy_0_0 hy_0_1
  obtain ⟨x0, e0, _, s0⟩ := DataW.trod_int Try.underlying34 hy_0_0
  obtain ⟨x1, e1, _, s1⟩ := DataW.trod_int Try.underlying3 hy_0_1
  obtain ⟨ys_1, m_1, _, _, _, hl_1, hf_1⟩ := DataW.trod_struct Try.underlying36 hy_1
  match ys_1, hl_1 with
  | [y_1_0, y_1_1], _ =>
  have hy_1_0 := hf_1 0 _ rfl
  have hy_1_1 := hf_1 1 _ rfl
  simp [hc3, hc34, hc36, hc37] at hy_1_0 hy_1_1
  obtain ⟨x2, e2, _, s2⟩ := DataW.trod_int Try.underlying34 hy_1_0
  obtain ⟨x3, e3, _, s3⟩ := DataW.trod_int Try.underlying3 hy_1_1
  obtain ⟨ys_2, m_2, _, _, _, hl_2, hf_2⟩ := DataW.trod_struct Try.underlying36 hy_2
  match ys_2, hl_2 with
  | [y_2_0, y_2_1], _ =>
  have hy_2_0 := hf_2 0 _ rfl
  have hy_2_1 := hf_2 1 _ rfl
  simp [hc3, hc34, hc36, hc37] at hy_2_0 hy_2_1
  obtain ⟨x4, e4, _, s4⟩ := DataW.trod_int Try.underlying34 hy_2_0
  obtain ⟨x5, e5, _, s5⟩ := DataW.trod_int Try.underlying3 hy_2_1
  obtain ⟨ys_3, m_3, _, _, _, hl_3, hf_3⟩ := DataW.trod_struct Try.underlying36 hy_3
  match ys_3, hl_3 with
  | [y_3_0, y_3_1], _ =>
  have hy_3_0 := hf_3 0 _ rfl
  have hy_3_1 := hf_3 1 _ rfl
  simp [hc3, hc34, hc36, hc37] at hy_3_0 hy_3_1
  obtain ⟨x6, e6, _, s6⟩ := DataW.trod_int Try.underlying34 hy_3_0
  obtain ⟨x7, e7, _, s7⟩ := DataW.trod_int Try.underlying3 hy_3_1
  simp at e0 e1 e2 e3 e4 e5 e6 e7
  subst e0 e1 e2 e3 e4 e5 e6 e7
  exact ⟨x0, x1, x2, x3, x4, x5, x6, x7, rfl, s0, s1, s2, s3, s4, s5, s6, s7⟩
set_option maxRecDepth 100000 in
theorem lifted (os : Os) (started : os.Started) (H : Type) (enc : TypeId × Value → H) :
    ReturnsInHanded {} Try.checked os 4 .any (Rows.stickBothSpec.pre6 enc Try.prog Try.f4 Rows.stickBothRow.domain false) (Rows.stickBothSpec.post enc Try.prog Try.f4 false true false false) := by
  refine returnsInHanded_of_change_sized (C := Try.checked) own started (by kernel_rfl) Try.func4
    (ChangeSpec.witness6 (enc := enc) (C := Try.checked) false ⟨#[], #[.agg #[.int .i64 0, .int .i64 0, .int .i64 0, .int .i64 0], .agg #[.int .i64 0, .int .i64 0, .int .i64 0, .int .i64 0], .agg #[.int .i64 0, .int .i64 0, .int .i64 0, .int .i64 0], .agg #[.int .i64 0, .int .i64 0, .int .i64 0, .int .i64 0, .int .i64 0, .int .i64 0, .int .i64 0, .int .i64 0], .int .i64 0, .int .i64 0], []⟩ 8 (by kernel_rfl) (by kernel_rfl) (by kernel_rfl) (by kernel_rfl)) ?_
  intro W base args ds gs before hval0 hW hcnd hsz0 _
  have hsz : (DataW.weightsEach Try.prog (Try.f4.params.toList ++ Rows.stickBothSpec.plain.varTypes Try.prog) (ds ++ gs)).all (· ≤ reachBytes) = true := hsz0
  have hval : ∀ (j : Nat) t v, Try.f4.params[j]? = some t → args[j]? = some v → Value.okWide Try.prog W .any base t v := hval0
  have hW' := hW
  obtain ⟨p, q, hA0, hV, rfl, hfz, hnd⟩ := hW
  have hA : DataW.TrodAll enc Try.prog W 0 (fun _ => true) true Try.f4.params.toList args.toList ds p := hA0
  rw [Try.params4] at hA hval hsz
  obtain ⟨v0, vs0, d0, ds0, p0, q0, hargs, rfl, rfl, h0, r0⟩ := trodAll_cons hA
  obtain ⟨v1, vs1, d1, ds1, p1, q1, rfl, rfl, rfl, h1, r1⟩ := trodAll_cons r0
  obtain ⟨v2, vs2, d2, ds2, p2, q2, rfl, rfl, rfl, h2, r2⟩ := trodAll_cons r1
  obtain ⟨v3, vs3, d3, ds3, p3, q3, rfl, rfl, rfl, h3, r3⟩ := trodAll_cons r2
  obtain ⟨v4, vs4, d4, ds4, p4, q4, rfl, rfl, rfl, h4, r4⟩ := trodAll_cons r3
  obtain ⟨v5, vs5, d5, ds5, p5, q5, rfl, rfl, rfl, h5, r5⟩ := trodAll_cons r4
  obtain ⟨rfl, rfl, rfl⟩ := trodAll_nil r5
  obtain rfl : args = #[v0, v1, v2, v3, v4, v5] := by cases args; simp_all
  obtain ⟨rfl, rfl⟩ := trodVars_none hV
  have k0 := h0
  have lt0 : ∀ x ∈ p0, x.block < W.heap.size := by obtain ⟨m, hm⟩ := k0; exact DataW.trod_lt m _ _ _ hm
  obtain ⟨a0_0, a0_1, a0_2, a0_3, rfl, w0_0, w0_1, w0_2, w0_3⟩ := st_open33 (hval 0 33 v0 rfl rfl) h0
  have k1 := h1
  have lt1 : ∀ x ∈ p1, x.block < W.heap.size := by obtain ⟨m, hm⟩ := k1; exact DataW.trod_lt m _ _ _ hm
  obtain ⟨a1_0, a1_1, a1_2, a1_3, rfl, w1_0, w1_1, w1_2, w1_3⟩ := st_open33 (hval 1 33 v1 rfl rfl) h1
  have k2 := h2
  have lt2 : ∀ x ∈ p2, x.block < W.heap.size := by obtain ⟨m, hm⟩ := k2; exact DataW.trod_lt m _ _ _ hm
  obtain ⟨a2_0, a2_1, a2_2, a2_3, rfl, w2_0, w2_1, w2_2, w2_3⟩ := st_open33 (hval 2 33 v2 rfl rfl) h2
  have k3 := h3
  have lt3 : ∀ x ∈ p3, x.block < W.heap.size := by obtain ⟨m, hm⟩ := k3; exact DataW.trod_lt m _ _ _ hm
  obtain ⟨a3_0, a3_1, a3_2, a3_3, a3_4, a3_5, a3_6, a3_7, rfl, w3_0, w3_1, w3_2, w3_3, w3_4, w3_5, w3_6, w3_7⟩ := st_open37 (hval 3 37 v3 rfl rfl) h3
  obtain ⟨a4, rfl, rfl, rfl, w4⟩ := open_int Try.underlying3 (hval 4 3 v4 rfl rfl) h4
  obtain ⟨a5, rfl, rfl, rfl, w5⟩ := open_int Try.underlying3 (hval 5 3 v5 rfl rfl) h5
  clear hA0 hval0 hsz0 hsz
  refine (V.valancelaw10_StickBoth.walk Pure.StickBoth a0_0 a0_1 a0_2 a0_3 a1_0 a1_1 a1_2 a1_3 a2_0 a2_1 a2_2 a2_3 a3_0 a3_1 a3_2 a3_3 a3_4 a3_5 a3_6 a3_7 a4 a5 W w0_0 w0_1 w0_2 w0_3 w1_0 w1_1 w1_2 w1_3 w2_0 w2_1 w2_2 w2_3 w3_0 w3_1 w3_2 w3_3 w3_4 w3_5 w3_6 w3_7 w4 w5).mono fun e W' ⟨he, bel⟩ => ?_
  subst he
  exact ⟨_, rfl, _, _, _, [], _, [], hW', trodAll_mk1 (shut_bool Try.underlying4 _), (trodAll_cons_mk (Below.trod laidOut (by kernel_rfl) (of_decide_eq_true (by kernel_rfl)) k0 bel lt0) (trodAll_cons_mk (Below.trod laidOut (by kernel_rfl) (of_decide_eq_true (by kernel_rfl)) k1 bel lt1) (trodAll_cons_mk (Below.trod laidOut (by kernel_rfl) (of_decide_eq_true (by kernel_rfl)) k2 bel lt2) (trodAll_cons_mk (Below.trod laidOut (by kernel_rfl) (of_decide_eq_true (by kernel_rfl)) k3 bel lt3) (trodAll_cons_mk (shut_int Try.underlying3 w4) (trodAll_cons_mk (shut_int Try.underlying3 w5) trodAll_mk0)))))), rfl, bel.frame _, fun h => by cases h⟩
theorem over : Rows.stickBothRow.holds Try.pinned (OpenSpec.ofChange Rows.stickBothSpec) :=
  OpenClaim.holds_of_wide 4 Try.f4 rfl rfl rfl rfl rfl rfl rfl ⟨rfl, rfl, rfl, rfl, rfl⟩ rfl rfl rfl rfl rfl (by kernel_rfl) Try.func4 (by kernel_rfl)
    (of_decide_eq_true (by kernel_rfl)) (by unfold Func.isWrapper; first | (rw [if_pos (by decide +kernel)]; kernel_rfl) | (rw [if_neg (by decide +kernel)]; exact ⟨rfl, rfl⟩))
    (fun os started H enc _ => lifted os started H enc)
theorem proved : Rows.StickBothSaid := over
#print axioms proved
end Go.Proofs.Ytnmcefpnpfaklab.stickBoth
namespace Go.Proofs.Ytnmcefpnpfaklab
/-- The row, under a short name, for the claim. -/
theorem stickBoth_holds : Rows.StickBothSaid := stickBoth.proved
end Go.Proofs.Ytnmcefpnpfaklab
