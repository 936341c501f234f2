/- What the functions of this seat answer, as plain Lean functions, and that the calls come to just that (written by a program of this repo, over the kit's printer; Lean checks it). -/
import Derived.Test.YtnmcefpnpfaklacRows
import Derived.Test.YtnmcefpnpfaklacVx28
import Derived.Test.YtnmcefpnpfaklacPureSnapNear
import Derived.WalkKit
import Derived.ProofKit
import Derived.OpenShut
import Derived.ShutString
import Derived.ChangeOld
import Derived.Below
import Derived.SizedLaws
import Derived.Test.YtnmcefpnpfaklacWSized
namespace Go.Proofs.Ytnmcefpnpfaklac.snapNear
open Go.ChangeShapes Go.WideShapes Go.ChangeAt Go.RowKit
open Go.ChangeMaps (open_string shut_string)
set_option linter.unusedVariables false
theorem own : ownKnob Try.prog.godebug = none := by kernel_rfl
theorem laidOut : laidOutB Try.prog = true := by kernel_rfl
def IsRow (k : IntKind) (w : World) (a : Option Addr) (len cap : Nat) (zs : List Int) : Prop :=
  (a = none ∧ len = 0 ∧ cap = 0 ∧ zs = []) ∨
  ∃ x, a = some x ∧ len ≤ cap ∧ cap ≤ maxLen ∧ zs.length = cap ∧ (∀ i, i < zs.length → w.cell? (x.add i) = some (.int k (zs.getD i 0))) ∧ ∀ n ∈ zs, (Lit.int k n).wf = true
open Go.Proofs.Ytnmcefpnpfaklac.V
theorem add_add_ (a : Addr) (x y : Nat) : (a.add x).add y = a.add (x + y) := by
  by_cases hx : x = 0
  · subst hx; simp [Addr.add]
  · by_cases hy : y = 0
    · subst hy; simp [Addr.add]
    · simp [Addr.add, hx, hy, Nat.add_assoc]
theorem list_of {α : Type} {R : Nat → α → Prop} (n : Nat) (h : ∀ i, i < n → ∃ z, R i z) : ∃ l : List α, l.length = n ∧ ∀ i z, l[i]? = some z → R i z := by
  induction n with
  | zero => exact ⟨[], rfl, fun i z hz => by simp at hz⟩
  | succ n ih =>
    obtain ⟨l, hl, hR⟩ := ih (fun i hi => h i (by omega))
    obtain ⟨z, hz⟩ := h n (by omega)
    refine ⟨l ++ [z], by simp [hl], fun i y hy => ?_⟩
    by_cases hi : i < l.length
    · rw [List.getElem?_append_left hi] at hy; exact hR i y hy
    · rw [List.getElem?_append_right (by omega)] at hy
      have : i - l.length = 0 := by
        have := (List.getElem?_eq_some_iff.1 hy).1
        simp at this; omega
      rw [this] at hy
      have : z = y := by simpa using hy
      subst this
      have : i = n := by omega
      subst this; exact hz
theorem open_rows {H : Type} {enc : TypeId × Value → H} {P : Program} {w : World} {base : Nat} {spare : Nat → Bool} {held : Bool} {t e : TypeId} {α : Type} (d : Go.Proofs.YtnmcefpnpfaklacW.PrintWords.Kd α) (Q : α → Prop) {a : Option Addr} {len cap : Nat} {x : DataW H} {ps : List MemPlace}
    (ht : P.underlying t = some (.slice e)) (hc : P.cellsOf e = d.sz)
    (hop : ∀ fuel cs y, cs.length = d.sz → DataW.trod enc P w base spare held fuel e cs = some y → ∃ z : α, d.K w z cs ∧ Q z)
    (h : DataW.Trod enc P w base spare held t (.slice a len cap) x ps) :
    ∃ l : List α, len = l.length ∧ l.length ≤ cap ∧ l.length ≤ maxLen ∧ Go.Proofs.YtnmcefpnpfaklacW.PrintWords.Kd.C d w a l.length l ∧ ∀ z ∈ l, Q z := by
  obtain ⟨fuel, hf⟩ := h
  rcases DataW.trod_slice ht hf with ⟨h0, _⟩ | ⟨b, ln, cp, elems, rest, n, _, h0, _, hb, hl, hm, hlen, hel, _, _⟩
  · simp [Value.cells] at h0
    obtain ⟨rfl, rfl, rfl⟩ := h0
    exact ⟨[], rfl, Nat.le_refl _, Nat.zero_le _, ⟨rfl, Nat.zero_le _, fun hn => absurd hn (by simp)⟩, fun z hz => by simp at hz⟩
  · simp [Value.cells] at h0
    obtain ⟨rfl, rfl, rfl⟩ := h0
    obtain ⟨l, hll, hR⟩ := list_of (R := fun i z => ∃ cs, d.K w z cs ∧ Q z ∧ ∀ j, j < d.sz → w.cell? ((b.add (i * d.sz)).add j) = cs[j]?) len (fun i hi => by
      have hi2 := hel i hi
      rw [List.getElem?_eq_getElem (by omega), Option.bind_eq_some_iff] at hi2
      obtain ⟨cs, hcs, hy⟩ := hi2
      obtain ⟨_, hcl, hcell⟩ := World.cells?_some hcs
      rw [hc] at hcl hcell
      obtain ⟨z, hz, hq⟩ := hop n cs _ hcl hy
      exact ⟨z, cs, hz, hq, hcell⟩)
    subst hll
    have hmx : l.length ≤ maxLen := by omega
    refine ⟨l, rfl, hl, hmx, ⟨rfl, by unfold maxLen at hmx; omega, fun hn => ⟨b, rfl, fun j p hj => ?_⟩⟩, fun z hz => ?_⟩
    · obtain ⟨cs, hK, _, hcell⟩ := hR j p hj
      refine ⟨cs, d.K_len hK, hK, fun i u hu => ?_⟩
      have hi : i < d.sz := by
        have := (List.getElem?_eq_some_iff.1 hu).1
        rw [d.K_len hK] at this; exact this
      have := hcell i hi
      rw [hu, add_add_] at this
      exact this
    · obtain ⟨i, hi⟩ := List.getElem?_of_mem hz
      obtain ⟨_, _, hq, _⟩ := hR i z hi
      exact hq
theorem sized_rows {H : Type} {enc : TypeId × Value → H} {P : Program} {W : World} {base : Nat} {spare : Nat → Bool} {held : Bool} {t e : TypeId} {a : Option Addr} {len cap : Nat} {d : DataW H} {ps : List MemPlace} {ts : List TypeId} {ds : List (DataW H)} {j : Nat}
    (hsz : (DataW.weightsEach P ts ds).all (· ≤ reachBytes) = true) (ht : ts[j]? = some t) (hd : ds[j]? = some d) (hu : P.underlying t = some (.slice e)) {B : Nat} (hB : P.bytesOf e = B)
    (h : DataW.Trod enc P W base spare held t (.slice a len cap) d ps) : len * B ≤ 140737488351232 := by
  obtain ⟨fuel, hf⟩ := h
  rcases DataW.trod_slice hu hf with ⟨h0, _⟩ | ⟨b, ln, cp, elems, rest, n, _, h0, hx, hb, hl, hm, hlen, _, _, _⟩
  · simp [Value.cells] at h0
    obtain ⟨rfl, rfl, rfl⟩ := h0
    simp
  · simp [Value.cells] at h0
    obtain ⟨rfl, rfl, rfl⟩ := h0
    obtain ⟨hx, _⟩ := Prod.mk.inj hx
    subst hx
    have z := sized_slice hsz ht hd hu
    rw [hB] at z
    refine Nat.le_trans (Nat.mul_le_mul_right _ ?_) z
    simp [hlen]
set_option linter.unusedSimpArgs false in
theorem st_cells33 {H : Type} {enc : TypeId × Value → H} {w : World} {base : Nat} {sp : Nat → Bool} {held : Bool} {fuel : Nat} {l : List Value} {y : DataW H × List MemPlace}
    (hn : l.length = k33.sz) (hy : DataW.trod enc Try.prog w base sp held fuel 33 l = some y) :
    ∃ x : S33, k33.K w x l ∧ (Lit.int .i64 x.f0.f0).wf = true ∧ (Lit.int .i64 x.f0.f1).wf = true ∧ (Lit.int .i64 x.f1).wf = true := by
  have hc3 : Try.prog.cellsOf 3 = 1 := by kernel_rfl
  have hc30 : Try.prog.cellsOf 30 = 2 := by kernel_rfl
  have hc31 : Try.prog.cellsOf 31 = 1 := by kernel_rfl
  have hc33 : Try.prog.cellsOf 33 = 3 := by kernel_rfl
  match l, (show l.length = 3 from hn) with
  | [c0, c1, c2], _ =>
  obtain ⟨ys, m, _, _, _, hl, hf⟩ := DataW.trod_struct Try.underlying33 hy
  match ys, hl with
  | [y_0, y_1], _ =>
  have hy_0 := hf 0 _ rfl
  have hy_1 := hf 1 _ rfl
  simp [hc3, hc30, hc31, hc33] at hy_0 hy_1
  obtain ⟨ys_0, m_0, _, _, _, hl_0, hf_0⟩ := DataW.trod_struct Try.underlying30 hy_0
  match ys_0, hl_0 with
  | [y_0_0, y_0_1], _ =>
  have hy_0_0 := hf_0 0 _ rfl
  have hy_0_1 := hf_0 1 _ rfl
  simp [hc3, hc30, hc31, hc33] at hy_0_0 hy_0_1
  obtain ⟨x0, e0, _, s0⟩ := DataW.trod_int Try.underlying3 hy_0_0
  obtain ⟨x1, e1, _, s1⟩ := DataW.trod_int Try.underlying3 hy_0_1
  obtain ⟨x2, e2, _, s2⟩ := DataW.trod_int Try.underlying31 hy_1
  simp at e0 e1 e2
  subst e0 e1 e2
  exact ⟨⟨⟨x0, x1⟩, x2⟩, k33_mk w ⟨⟨x0, x1⟩, x2⟩, s0, s1, s2⟩
set_option maxRecDepth 100000 in
theorem lifted (os : Os) (started : os.Started) (H : Type) (enc : TypeId × Value → H) :
    ReturnsInHanded {} Try.checked os 8 .any (Rows.snapNearSpec.pre6 enc Try.prog Try.f8 Rows.snapNearRow.domain false) (Rows.snapNearSpec.post enc Try.prog Try.f8 false true false false) := by
  refine returnsInHanded_of_change_sized (C := Try.checked) own started (by kernel_rfl) Try.func8
    (ChangeSpec.witness6 (enc := enc) (C := Try.checked) false ⟨#[], #[.slice none 0 0, .int .i64 0, .int .i64 0, .int .i64 0], []⟩ 8 (by kernel_rfl) (by kernel_rfl) (by kernel_rfl) (by kernel_rfl)) ?_
  intro W base args ds gs before hval0 hW hcnd hsz0 _
  have hsz : (DataW.weightsEach Try.prog (Try.f8.params.toList ++ Rows.snapNearSpec.plain.varTypes Try.prog) (ds ++ gs)).all (· ≤ reachBytes) = true := hsz0
  have hval : ∀ (j : Nat) t v, Try.f8.params[j]? = some t → args[j]? = some v → Value.okWide Try.prog W .any base t v := hval0
  have hW' := hW
  obtain ⟨p, q, hA0, hV, rfl, hfz, hnd⟩ := hW
  have hA : DataW.TrodAll enc Try.prog W 0 (fun _ => true) true Try.f8.params.toList args.toList ds p := hA0
  rw [Try.params8] at hA hval hsz
  obtain ⟨v0, vs0, d0, ds0, p0, q0, hargs, rfl, rfl, h0, r0⟩ := trodAll_cons hA
  obtain ⟨v1, vs1, d1, ds1, p1, q1, rfl, rfl, rfl, h1, r1⟩ := trodAll_cons r0
  obtain ⟨v2, vs2, d2, ds2, p2, q2, rfl, rfl, rfl, h2, r2⟩ := trodAll_cons r1
  obtain ⟨v3, vs3, d3, ds3, p3, q3, rfl, rfl, rfl, h3, r3⟩ := trodAll_cons r2
  obtain ⟨rfl, rfl, rfl⟩ := trodAll_nil r3
  obtain rfl : args = #[v0, v1, v2, v3] := by cases args; simp_all
  obtain ⟨rfl, rfl⟩ := trodVars_none hV
  obtain ⟨a0, len0, cap0, rfl⟩ := okWide_slice Try.underlying23 (hval 0 23 v0 rfl rfl)
  have k0 := h0
  have lt0 : ∀ x ∈ p0, x.block < W.heap.size := by obtain ⟨m, hm⟩ := k0; exact DataW.trod_lt m _ _ _ hm
  obtain ⟨l0, hl0, hcap0, hmx0, hr0, hw0⟩ := open_rows k33 (fun x => (Lit.int .i64 x.f0.f0).wf = true ∧ (Lit.int .i64 x.f0.f1).wf = true ∧ (Lit.int .i64 x.f1).wf = true) Try.underlying23 (by kernel_rfl) (fun f cs y hn hy => st_cells33 hn hy) h0
  subst hl0
  have y0 : l0.length * 24 ≤ 140737488351232 := sized_rows hsz (j := 0) rfl rfl Try.underlying23 (by kernel_rfl) k0
  obtain ⟨a1, rfl, rfl, rfl, w1⟩ := open_int Try.underlying3 (hval 1 3 v1 rfl rfl) h1
  obtain ⟨a2, rfl, rfl, rfl, w2⟩ := open_int Try.underlying3 (hval 2 3 v2 rfl rfl) h2
  obtain ⟨a3, rfl, rfl, rfl, w3⟩ := open_int Try.underlying3 (hval 3 3 v3 rfl rfl) h3
  clear hA0 hval0 hsz0 hsz
  refine (V.valancelaw11_SnapNear.walk Pure.SnapNear a0 cap0 l0 a1 a2 a3 W hr0 hcap0 hmx0 y0 hw0 w1 w2 w3).mono fun e W' ⟨he, bel⟩ => ?_
  subst he
  exact ⟨_, rfl, _, _, _, [], _, [], hW', trodAll_mk1 (shut_bool Try.underlying4 _), (trodAll_cons_mk (Below.trod laidOut (by kernel_rfl) (of_decide_eq_true (by kernel_rfl)) k0 bel lt0) (trodAll_cons_mk (shut_int Try.underlying3 w1) (trodAll_cons_mk (shut_int Try.underlying3 w2) (trodAll_cons_mk (shut_int Try.underlying3 w3) trodAll_mk0)))), rfl, bel.frame _, fun h => by cases h⟩
theorem over : Rows.snapNearRow.holds Try.pinned (OpenSpec.ofChange Rows.snapNearSpec) :=
  OpenClaim.holds_of_wide 8 Try.f8 rfl rfl rfl rfl rfl rfl rfl ⟨rfl, rfl, rfl, rfl, rfl⟩ rfl rfl rfl rfl rfl (by kernel_rfl) Try.func8 (by kernel_rfl)
    (of_decide_eq_true (by kernel_rfl)) (by unfold Func.isWrapper; first | (rw [if_pos (by decide +kernel)]; kernel_rfl) | (rw [if_neg (by decide +kernel)]; exact ⟨rfl, rfl⟩))
    (fun os started H enc _ => lifted os started H enc)
theorem proved : Rows.SnapNearSaid := over
#print axioms proved
end Go.Proofs.Ytnmcefpnpfaklac.snapNear
namespace Go.Proofs.Ytnmcefpnpfaklac
/-- The row, under a short name, for the claim. -/
theorem snapNear_holds : Rows.SnapNearSaid := snapNear.proved
end Go.Proofs.Ytnmcefpnpfaklac
