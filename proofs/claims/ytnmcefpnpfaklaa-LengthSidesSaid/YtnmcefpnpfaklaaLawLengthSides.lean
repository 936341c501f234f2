/- What the functions of this seat answer, as plain Lean functions, and that the calls come to just that (written by a program of this repo, over the kit's printer; Lean checks it). -/
import Derived.Test.YtnmcefpnpfaklaaRows
import Derived.Test.YtnmcefpnpfaklaaVx23
import Derived.Test.YtnmcefpnpfaklaaPureLengthSides
import Derived.WalkKit
import Derived.ProofKit
import Derived.OpenShut
import Derived.ShutString
import Derived.ChangeOld
import Derived.Below
import Derived.SizedLaws
import Derived.Test.YtnmcefpnpfaklaaWSized
namespace Go.Proofs.Ytnmcefpnpfaklaa.lengthSides
open Go.ChangeShapes Go.WideShapes Go.ChangeAt Go.RowKit
open Go.ChangeMaps (open_string shut_string)
set_option linter.unusedVariables false
theorem own : ownKnob Try.prog.godebug = none := by kernel_rfl
theorem laidOut : laidOutB Try.prog = true := by kernel_rfl
def IsRow (k : IntKind) (w : World) (a : Option Addr) (len cap : Nat) (zs : List Int) : Prop :=
  (a = none ∧ len = 0 ∧ cap = 0 ∧ zs = []) ∨
  ∃ x, a = some x ∧ len ≤ cap ∧ cap ≤ maxLen ∧ zs.length = cap ∧ (∀ i, i < zs.length → w.cell? (x.add i) = some (.int k (zs.getD i 0))) ∧ ∀ n ∈ zs, (Lit.int k n).wf = true
set_option linter.unusedSimpArgs false in
theorem st_open25 {H : Type} {enc : TypeId × Value → H} {w : World} {base b0 : Nat} {sp : Nat → Bool} {held : Bool} {r : Reach} {v : Value} {d : DataW H} {ps : List MemPlace}
    (hval : Value.okWide Try.prog w r b0 25 v) (hd : DataW.Trod enc Try.prog w base sp held 25 v d ps) :
    ∃ (x0 : Int) (x1 : Int) (x2 : Int) (x3 : Int) (x4 : Int) (x5 : Int) (x6 : Int) (x7 : Int), v = .agg #[.int .i64 x0, .int .i64 x1, .int .i64 x2, .int .i64 x3, .int .i64 x4, .int .i64 x5, .int .i64 x6, .int .i64 x7] ∧ (Lit.int .i64 x0).wf = true ∧ (Lit.int .i64 x1).wf = true ∧ (Lit.int .i64 x2).wf = true ∧ (Lit.int .i64 x3).wf = true ∧ (Lit.int .i64 x4).wf = true ∧ (Lit.int .i64 x5).wf = true ∧ (Lit.int .i64 x6).wf = true ∧ (Lit.int .i64 x7).wf = true := by
  have hc3 : Try.prog.cellsOf 3 = 1 := by kernel_rfl
  have hc22 : Try.prog.cellsOf 22 = 1 := by kernel_rfl
  have hc24 : Try.prog.cellsOf 24 = 2 := by kernel_rfl
  have hc25 : Try.prog.cellsOf 25 = 8 := by kernel_rfl
  have hval' := hval
  unfold Value.okWide at hval'
  rw [Try.underlying25] at hval'
  obtain ⟨cs, rfl, hsz, _⟩ := hval'
  obtain ⟨l⟩ := cs
  obtain ⟨fuel, hy⟩ := hd
  match l, hsz.trans hc25 with
  | [c0, c1, c2, c3, c4, c5, c6, c7], _ =>
  simp only [Value.cells] at hy
  obtain ⟨ys, m, _, _, _, hl, hf⟩ := DataW.trod_array Try.underlying25 hy
  match ys, hl with
  | [y_0, y_1, y_2, y_3], _ =>
  have hy_0 := hf 0 (by omega)
  have hy_1 := hf 1 (by omega)
  have hy_2 := hf 2 (by omega)
  have hy_3 := hf 3 (by omega)
  simp [hc3, hc22, hc24, hc25] at hy_0 hy_1 hy_2 hy_3
  obtain ⟨ys_0, m_0, _, _, _, hl_0, hf_0⟩ := DataW.trod_struct Try.underlying24 hy_0
  match ys_0, hl_0 with
  | [y_0_0, y_0_1], _ =>
  have hy_0_0 := hf_0 0 _ rfl
  have hy_0_1 := hf_0 1 _ rfl
  simp [hc3, hc22, hc24, hc25] at hy_0_0 hy_0_1
  obtain ⟨x0, e0, _, s0⟩ := DataW.trod_int Try.underlying22 hy_0_0
  obtain ⟨x1, e1, _, s1⟩ := DataW.trod_int Try.underlying3 hy_0_1
  obtain ⟨ys_1, m_1, _, _, _, hl_1, hf_1⟩ := DataW.trod_struct Try.underlying24 hy_1
  match ys_1, hl_1 with
  | [y_1_0, y_1_1], _ =>
  have hy_1_0 := hf_1 0 _ rfl
  have hy_1_1 := hf_1 1 _ rfl
  simp [hc3, hc22, hc24, hc25] at hy_1_0 hy_1_1
  obtain ⟨x2, e2, _, s2⟩ := DataW.trod_int Try.underlying22 hy_1_0
  obtain ⟨x3, e3, _, s3⟩ := DataW.trod_int Try.underlying3 hy_1_1
  obtain ⟨ys_2, m_2, _, _, _, hl_2, hf_2⟩ := DataW.trod_struct Try.underlying24 hy_2
  match ys_2, hl_2 with
  | [y_2_0, y_2_1], _ =>
  have hy_2_0 := hf_2 0 _ rfl
  have hy_2_1 := hf_2 1 _ rfl
  simp [hc3, hc22, hc24, hc25] at hy_2_0 hy_2_1
  obtain ⟨x4, e4, _, s4⟩ := DataW.trod_int Try.underlying22 hy_2_0
  obtain ⟨x5, e5, _, s5⟩ := DataW.trod_int Try.underlying3 hy_2_1
  obtain ⟨ys_3, m_3, _, _, _, hl_3, hf_3⟩ := DataW.trod_struct Try.underlying24 hy_3
  match ys_3, hl_3 with
  | [y_3_0, y_3_1], _ =>
  have hy_3_0 := hf_3 0 _ rfl
  have hy_3_1 := hf_3 1 _ rfl
  simp [hc3, hc22, hc24, hc25] at hy_3_0 hy_3_1
  obtain ⟨x6, e6, _, s6⟩ := DataW.trod_int Try.underlying22 hy_3_0
  obtain ⟨x7, e7, _, s7⟩ := DataW.trod_int Try.underlying3 hy_3_1
  simp at e0 e1 e2 e3 e4 e5 e6 e7
  subst e0 e1 e2 e3 e4 e5 e6 e7
  exact ⟨x0, x1, x2, x3, x4, x5, x6, x7, rfl, s0, s1, s2, s3, s4, s5, s6, s7⟩
set_option maxRecDepth 100000 in
theorem lifted (os : Os) (started : os.Started) (H : Type) (enc : TypeId × Value → H) :
    ReturnsInHanded {} Try.checked os 7 .any (Rows.lengthSidesSpec.pre6 enc Try.prog Try.f7 Rows.lengthSidesRow.domain false) (Rows.lengthSidesSpec.post enc Try.prog Try.f7 false true false false) := by
  refine returnsInHanded_of_change_sized (C := Try.checked) own started (by kernel_rfl) Try.func7
    (ChangeSpec.witness6 (enc := enc) (C := Try.checked) false ⟨#[], #[.agg #[.int .i64 0, .int .i64 0, .int .i64 0, .int .i64 0, .int .i64 0, .int .i64 0, .int .i64 0, .int .i64 0], .int .i64 0, .int .i64 0], []⟩ 8 (by kernel_rfl) (by kernel_rfl) (by kernel_rfl) (by kernel_rfl)) ?_
  intro W base args ds gs before hval0 hW hcnd hsz0 _
  have hsz : (DataW.weightsEach Try.prog (Try.f7.params.toList ++ Rows.lengthSidesSpec.plain.varTypes Try.prog) (ds ++ gs)).all (· ≤ reachBytes) = true := hsz0
  have hval : ∀ (j : Nat) t v, Try.f7.params[j]? = some t → args[j]? = some v → Value.okWide Try.prog W .any base t v := hval0
  have hW' := hW
  obtain ⟨p, q, hA0, hV, rfl, hfz, hnd⟩ := hW
  have hA : DataW.TrodAll enc Try.prog W 0 (fun _ => true) true Try.f7.params.toList args.toList ds p := hA0
  rw [Try.params7] at hA hval hsz
  obtain ⟨v0, vs0, d0, ds0, p0, q0, hargs, rfl, rfl, h0, r0⟩ := trodAll_cons hA
  obtain ⟨v1, vs1, d1, ds1, p1, q1, rfl, rfl, rfl, h1, r1⟩ := trodAll_cons r0
  obtain ⟨v2, vs2, d2, ds2, p2, q2, rfl, rfl, rfl, h2, r2⟩ := trodAll_cons r1
  obtain ⟨rfl, rfl, rfl⟩ := trodAll_nil r2
  obtain rfl : args = #[v0, v1, v2] := by cases args; simp_all
  obtain ⟨rfl, rfl⟩ := trodVars_none hV
  have k0 := h0
  have lt0 : ∀ x ∈ p0, x.block < W.heap.size := by obtain ⟨m, hm⟩ := k0; exact DataW.trod_lt m _ _ _ hm
  obtain ⟨a0_0, a0_1, a0_2, a0_3, a0_4, a0_5, a0_6, a0_7, rfl, w0_0, w0_1, w0_2, w0_3, w0_4, w0_5, w0_6, w0_7⟩ := st_open25 (hval 0 25 v0 rfl rfl) h0
  obtain ⟨a1, rfl, rfl, rfl, w1⟩ := open_int Try.underlying3 (hval 1 3 v1 rfl rfl) h1
  obtain ⟨a2, rfl, rfl, rfl, w2⟩ := open_int Try.underlying3 (hval 2 3 v2 rfl rfl) h2
  clear hA0 hval0 hsz0 hsz
  refine (V.valancelaw05_LengthSides.walk Pure.LengthSides a0_0 a0_1 a0_2 a0_3 a0_4 a0_5 a0_6 a0_7 a1 a2 W w0_0 w0_1 w0_2 w0_3 w0_4 w0_5 w0_6 w0_7 w1 w2).mono fun e W' ⟨he, bel⟩ => ?_
  subst he
  exact ⟨_, rfl, _, _, _, [], _, [], hW', trodAll_mk1 (shut_bool Try.underlying4 _), (trodAll_cons_mk (Below.trod laidOut (by kernel_rfl) (of_decide_eq_true (by kernel_rfl)) k0 bel lt0) (trodAll_cons_mk (shut_int Try.underlying3 w1) (trodAll_cons_mk (shut_int Try.underlying3 w2) trodAll_mk0))), rfl, bel.frame _, fun h => by cases h⟩
theorem over : Rows.lengthSidesRow.holds Try.pinned (OpenSpec.ofChange Rows.lengthSidesSpec) :=
  OpenClaim.holds_of_wide 7 Try.f7 rfl rfl rfl rfl rfl rfl rfl ⟨rfl, rfl, rfl, rfl, rfl⟩ rfl rfl rfl rfl rfl (by kernel_rfl) Try.func7 (by kernel_rfl)
    (of_decide_eq_true (by kernel_rfl)) (by unfold Func.isWrapper; first | (rw [if_pos (by decide +kernel)]; kernel_rfl) | (rw [if_neg (by decide +kernel)]; exact ⟨rfl, rfl⟩))
    (fun os started H enc _ => lifted os started H enc)
theorem proved : Rows.LengthSidesSaid := over
#print axioms proved
end Go.Proofs.Ytnmcefpnpfaklaa.lengthSides
namespace Go.Proofs.Ytnmcefpnpfaklaa
/-- The row, under a short name, for the claim. -/
theorem lengthSides_holds : Rows.LengthSidesSaid := lengthSides.proved
end Go.Proofs.Ytnmcefpnpfaklaa
