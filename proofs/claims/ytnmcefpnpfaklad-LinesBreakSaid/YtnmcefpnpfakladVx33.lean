/- What the functions of this seat answer, as plain Lean functions, and that the calls come to just that (written by a program of this repo, over the kit's printer; Lean checks it). -/
import Derived.Test.YtnmcefpnpfakladVx0
import Derived.Test.YtnmcefpnpfakladVx2
import Derived.Test.YtnmcefpnpfakladVx3
namespace Go.Proofs.Ytnmcefpnpfaklad.V
open Go.RowKit Go.Proofs.YtnmcefpnpfakladW.PrintWords Go.Proofs.YtnmcefpnpfakladW.PrintLast Go.Proofs.YtnmcefpnpfakladW.PrintMore
attribute [local go_sem] max2_int min2_int max_two min_two max_three min_three max_four min_four   -- for this text's walks alone
set_option linter.unusedVariables false
set_option linter.unusedSimpArgs false

/-! ### lines_Break: function 26 -/
attribute [local go_sem] Oper.semAt_some
/-- One more size: the lines till now, where the last one begins, and how long it is. -/
def vbst (sizes : List Int) (room gap : Int) (wrap : Bool) (k : Nat) (st : List S41 × Nat × Int) : List S41 × Nat × Int :=
  if k = st.2.1 then (st.1, st.2.1, vcut (rd sizes (k : Int)))
  else if k - st.2.1 < 64 ∧ (wrap = false ∨ vadd (vadd st.2.2 gap) (rd sizes (k : Int)) ≤ room) then (st.1, st.2.1, vadd (vadd st.2.2 gap) (rd sizes (k : Int)))
  else (st.1 ++ [⟨st.2.1, k⟩], k, vcut (rd sizes (k : Int)))
def vbk (sizes : List Int) (room gap : Int) (wrap : Bool) : Nat → List S41 × Nat × Int
  | 0 => ([], 0, 0)
  | k + 1 => vbst sizes room gap wrap k (vbk sizes room gap wrap k)
def vbreak (sizes : List Int) (room gap : Int) (wrap : Bool) : List S41 :=
  if (vbk sizes room gap wrap sizes.length).2.1 < sizes.length then (vbk sizes room gap wrap sizes.length).1 ++ [⟨(vbk sizes room gap wrap sizes.length).2.1, sizes.length⟩] else (vbk sizes room gap wrap sizes.length).1
theorem vbk_le (sizes : List Int) (room gap : Int) (wrap : Bool) (k : Nat) : (vbk sizes room gap wrap k).2.1 ≤ k ∧ (vbk sizes room gap wrap k).1.length ≤ (vbk sizes room gap wrap k).2.1 := by
  induction k with
  | zero => exact ⟨Nat.le_refl _, Nat.le_refl _⟩
  | succ k ih =>
    show (vbst sizes room gap wrap k (vbk sizes room gap wrap k)).2.1 ≤ k + 1 ∧ (vbst sizes room gap wrap k (vbk sizes room gap wrap k)).1.length ≤ (vbst sizes room gap wrap k (vbk sizes room gap wrap k)).2.1
    unfold vbst
    split
    · exact ⟨by show (vbk sizes room gap wrap k).2.1 ≤ k + 1; omega, ih.2⟩
    · split
      · exact ⟨by show (vbk sizes room gap wrap k).2.1 ≤ k + 1; omega, ih.2⟩
      · refine ⟨by show k ≤ k + 1; omega, ?_⟩
        show (_ ++ [_]).length ≤ k
        rw [List.length_append, List.length_singleton]; omega
def vbc (l : List S41) : List Value := l.flatMap fun x => [.int .i64 x.f0, .int .i64 x.f1]
theorem vbc_reps (w : World) (base : Nat) (ok : Nat → Prop) (l : List S41) : Reps (k41.M w base ok) 2 l (vbc l) := by
  induction l with
  | nil => exact Reps.none _ _
  | cons x l ih => exact Reps.c2 (k41_mkM w base ok x) ih
theorem vbc_snoc (l : List S41) (x : S41) : vbc (l ++ [x]) = vbc l ++ [.int .i64 x.f0, .int .i64 x.f1] := by simp [vbc]
theorem zb_grown {W W1 : World} (h : Below W.heap.size W W1) : W.grownBy W1 none := ⟨h.os, h.tape, h.output, h.size, fun k hk _ => h.block k hk⟩
theorem zb_add (a b : Int) (w : World) : Calls Try.prog 33 #[.int .i64 a, .int .i64 b] w fun e w' => e = .returned (.int .i64 (vadd a b)) ∧ Below w.heap.size w w' := fix_Add.calls a b _ w (fix_Add_eq a b)
theorem zb_cut (a : Int) (w : World) : Calls Try.prog 52 #[.int .i64 a] w fun e w' => e = .returned (.int .i64 (vcut a)) ∧ Below w.heap.size w w' := fix_Cut.calls a _ w (fix_Cut_eq a)
/-- What a round keeps: all that was there before, and the four boxes of the iterator. -/
def KpB (n0 : Nat) (W W' : World) : Prop := Below n0 W W' ∧ W'.heap[n0 + 1]? = W.heap[n0 + 1]? ∧ W'.heap[n0 + 1 + 1]? = W.heap[n0 + 1 + 1]? ∧ W'.heap[n0 + 1 + 1 + 1]? = W.heap[n0 + 1 + 1 + 1]? ∧ W'.heap[n0 + 1 + 1 + 1 + 1]? = W.heap[n0 + 1 + 1 + 1 + 1]?
theorem KpB.refl (n0 : Nat) (W : World) : KpB n0 W W := ⟨Below.refl _ _, rfl, rfl, rfl, rfl⟩
theorem KpB.trans {n0 : Nat} {A B C : World} (h : KpB n0 A B) (g : KpB n0 B C) : KpB n0 A C := ⟨h.1.trans g.1, g.2.1.trans h.2.1, g.2.2.1.trans h.2.2.1, g.2.2.2.1.trans h.2.2.2.1, g.2.2.2.2.trans h.2.2.2.2⟩
theorem KpB.of_below {n0 : Nat} {W W' : World} (h : Below W.heap.size W W') (hn : n0 + 5 ≤ W.heap.size) : KpB n0 W W' := ⟨h.mono (by omega), h.block _ (by omega), h.block _ (by omega), h.block _ (by omega), h.block _ (by omega)⟩
def BxB (n0 c : Nat) (A : Option Addr) (l : List Int) (room gap : Int) (wrap : Bool) (W : World) : Prop :=
  W.heap[n0 + 1]? = some (.cells #[.slice A l.length c] 23 (0, 0)) ∧ W.heap[n0 + 1 + 1]? = some (.cells #[.int .i64 room] 3 (0, 0)) ∧ W.heap[n0 + 1 + 1 + 1]? = some (.cells #[.int .i64 gap] 3 (0, 0)) ∧ W.heap[n0 + 1 + 1 + 1 + 1]? = some (.cells #[.bool wrap] 4 (0, 0))
theorem BxB.kp {n0 c : Nat} {A : Option Addr} {l : List Int} {room gap : Int} {wrap : Bool} {W W' : World} (h : BxB n0 c A l room gap wrap W) (k : KpB n0 W W') : BxB n0 c A l room gap wrap W' := ⟨k.2.1.trans h.1, k.2.2.1.trans h.2.1, k.2.2.2.1.trans h.2.2.1, k.2.2.2.2.trans h.2.2.2⟩
set_option maxRecDepth 100000 in
set_option maxHeartbeats 8000000 in
theorem zb_iter (n : Nat) (hn : 1 ≤ n) (l_ n₀ c : Nat) (A : Option Addr) (l : List Int) (room gap : Int) (wrap : Bool) (J Jx : List S41 → World → Prop)
    (hJ : ∀ s W W1, J s W → Below W.heap.size W W1 → J s W1)
    (hY : ∀ pre (x : S41) W, J pre W → pre.length < l.length → YieldAt Fence.wide (n - 1) Try.prog l_ #[.int .i64 x.f0, .int .i64 x.f1] W fun e W' =>
      (e = .returned (.bool true) ∧ J (pre ++ [x]) W' ∧ KpB n₀ W W') ∨ (e = .returned (.bool false) ∧ Jx (pre ++ [x]) W'))
    (W : World) (w : World) (hw : w.heap.size ≤ n₀) (hwW : Below w.heap.size w W) (hn₀ : n₀ + 5 ≤ W.heap.size)
    (hbx : BxB n₀ c A l room gap wrap W)
    (hr : Kd.C (Kd.int .i64) w A l.length l) (hl : l.length ≤ 4398046511104) (h0 : J [] W) :
    CallsIn Fence.wide n Try.prog 57 #[.func (.yield l_) #[] #[], .pointer (some ⟨n₀ + 1, 0, none⟩), .pointer (some ⟨n₀ + 1 + 1 + 1, 0, none⟩), .pointer (some ⟨n₀ + 1 + 1 + 1 + 1, 0, none⟩), .pointer (some ⟨n₀ + 1 + 1, 0, none⟩)] W fun e W' => (∃ v, e = .returned v) ∧
      ((∃ ys, ys = vbreak l room gap wrap ∧ J ys W') ∨ (∃ pre, True ∧ Jx pre W')) := by
  have hlen : l.length ≤ 9223372036854775807 := by omega
  have cl : W.cell? ⟨n₀ + 1, 0, none⟩ = some (.slice A l.length c) := (blk_cell hbx.1 0).trans rfl
  have HR := Aside0.mk hr
  have HW := Aside0.mk hwW
  have HN := Aside0.mk hn₀
  have HBX := Aside0.mk hbx
  have HJ0 := Aside0.mk h0
  have HJJ := Aside0.mk hJ
  have HYY := Aside0.mk hY
  clear hr hwW hn₀ hbx h0 hJ hY
  refine callsIn_of_wp Try.func57 rfl trivial ?_ rfl
  simp only [Try.ntmps57, List.size_toArray, List.length_cons, List.length_nil, Nat.reduceAdd, Nat.reduceSub, Array.replicate_succ, Array.replicate_zero, List.push_toArray, List.append_toArray, List.nil_append, List.cons_append]
  gi_wp2
  clear cl
  gi_loopw [6, 7, 13] (fun vf vg i wr => ∃ k : Nat, k ≤ l.length ∧ i = .int .i64 (k : Int) ∧ vf = .int .i64 (((vbk l room gap wrap k).2.1 : Nat) : Int) ∧ vg = .int .i64 (vbk l room gap wrap k).2.2 ∧ Aside0 (J (vbk l room gap wrap k).1 wr) ∧ Aside0 (KpB n₀ W wr))
    (fun _ _ i _ => l.length - (intOf i).toNat)
  case atStart => exact ⟨0, Nat.zero_le _, rfl, rfl, rfl, HJ0, ⟨KpB.refl _ _⟩⟩
  case round =>
    clear HJ0
    obtain ⟨k, hk, rfl, rfl, rfl, HJ, HB⟩ := hrel
    have hle := vbk_le l room gap wrap k
    have HST := Aside0.mk (show vbk l room gap wrap (k + 1) = vbst l room gap wrap k (vbk l room gap wrap k) from rfl)
    have HEND := Aside0.mk (show k = l.length → vbreak l room gap wrap = if (vbk l room gap wrap k).2.1 < l.length then (vbk l room gap wrap k).1 ++ [⟨(vbk l room gap wrap k).2.1, l.length⟩] else (vbk l room gap wrap k).1 from fun h => by subst h; rfl)
    generalize vbk l room gap wrap k = st at *
    obtain ⟨o, f, g⟩ := st
    simp only at hle HST HEND HJ ⊢
    have HNR := Aside0.mk (Nat.le_trans HN.out HB.out.1.size)
    have HBR := Aside0.mk (HBX.out.kp HB.out)
    by_cases hlt : k < l.length
    · obtain ⟨ad, e, x0⟩ := Kd.at_int HR.out (k : Int) (by omega) (by omega)
      cases e
      rw [Int.toNat_natCast] at x0
      have lt0 := World.block_lt_of_cell? w _ x0
      replace x0 := (HB.out.1.cell (Nat.lt_of_lt_of_le lt0 hw)).trans ((HW.out.cell lt0).trans x0)
      clear lt0
      have cg : wr.cell? ⟨n₀ + 1 + 1 + 1, 0, none⟩ = some (.int .i64 gap) := (blk_cell HBR.out.2.2.1 0).trans rfl
      generalize hs : rd l (k : Int) = s at *
      by_cases hkf : k = f
      · subst hkf
        have HNX := Aside0.mk (HST.out.trans (show vbst l room gap wrap k (o, k, g) = (o, k, vcut s) from by unfold vbst; rw [if_pos rfl, hs]))
        clear hs HST HEND
        gi_wp2_with (refine ⟨trivial, ?_⟩; gi_at_call 33; refine (callsIn_wide.2 (zb_add _ _ _)).mono ?_; rintro e w1 ⟨rfl, hb⟩; have HB1 := Aside0.mk hb; clear hb; gi_wp2_with (refine ⟨trivial, ?_⟩; gi_at_call 33; refine (callsIn_wide.2 (zb_add _ _ _)).mono ?_; rintro e w2 ⟨rfl, hb⟩; have HB2 := Aside0.mk (below_step HB1.out hb); clear hb; have HK2 := Aside0.mk (HB.out.trans (KpB.of_below HB2.out HNR.out)); have HJ2 := Aside0.mk (HJJ.out _ wr w2 HJ.out HB2.out); have HX2 := Aside0.mk (HBX.out.kp HK2.out); have cw2 : w2.cell? ⟨n₀ + 1 + 1 + 1 + 1, 0, none⟩ = some (.bool wrap) := (blk_cell HX2.out.2.2.2 0).trans rfl; have cr2 : w2.cell? ⟨n₀ + 1 + 1, 0, none⟩ = some (.int .i64 room) := (blk_cell HX2.out.2.1 0).trans rfl; gi_wp2_with (refine ⟨trivial, ?_⟩; gi_at_call 52; refine (callsIn_wide.2 (zb_cut _ _)).mono ?_; rintro e w3 ⟨rfl, hb⟩; have HK3 := Aside0.mk (HK2.out.trans (KpB.of_below hb (Nat.le_trans HN.out HK2.out.1.size))); have HJ3 := Aside0.mk (HJJ.out _ w2 w3 HJ2.out hb); clear hb)))
        go_roundw
        case rel => exact ⟨k + 1, by omega, by go_num, by rw [HNX.out], by rw [HNX.out], ⟨by rw [HNX.out]; exact HJ3.out⟩, HK3⟩
        case measure => simp [intOf]; omega
      · have e0 : ((k : Int) == (f : Int)) = false := beq_eq_false_iff_ne.2 (by omega)
        have hw64 : wrap64 ((k : Int) - (f : Int)) = (k : Int) - (f : Int) := w64 (by omega) (by omega)
        by_cases h64 : k - f < 64
        · have d64 : decide ((k : Int) - (f : Int) < 64) = true := decide_eq_true (by omega)
          cases wrap with
          | false =>
            have HNX := Aside0.mk (HST.out.trans (show vbst l room gap false k (o, f, g) = (o, f, vadd (vadd g gap) s) from by unfold vbst; rw [if_neg hkf, if_pos ⟨h64, .inl rfl⟩, hs]))
            clear hs HST HEND
            gi_wp2_with (refine ⟨trivial, ?_⟩; gi_at_call 33; refine (callsIn_wide.2 (zb_add _ _ _)).mono ?_; rintro e w1 ⟨rfl, hb⟩; have HB1 := Aside0.mk hb; clear hb; gi_wp2_with (refine ⟨trivial, ?_⟩; gi_at_call 33; refine (callsIn_wide.2 (zb_add _ _ _)).mono ?_; rintro e w2 ⟨rfl, hb⟩; have HB2 := Aside0.mk (below_step HB1.out hb); clear hb; have HK2 := Aside0.mk (HB.out.trans (KpB.of_below HB2.out HNR.out)); have HJ2 := Aside0.mk (HJJ.out _ wr w2 HJ.out HB2.out); have HX2 := Aside0.mk (HBX.out.kp HK2.out); have cw2 : w2.cell? ⟨n₀ + 1 + 1 + 1 + 1, 0, none⟩ = some (.bool false) := (blk_cell HX2.out.2.2.2 0).trans rfl; have cr2 : w2.cell? ⟨n₀ + 1 + 1, 0, none⟩ = some (.int .i64 room) := (blk_cell HX2.out.2.1 0).trans rfl))
            go_roundw
            case rel => exact ⟨k + 1, by omega, by go_num, by rw [HNX.out], by rw [HNX.out], ⟨by rw [HNX.out]; exact HJ2.out⟩, HK2⟩
            case measure => simp [intOf]; omega
          | true =>
            by_cases hrm : vadd (vadd g gap) s ≤ room
            · have dr : decide (vadd (vadd g gap) s ≤ room) = true := decide_eq_true hrm
              have HNX := Aside0.mk (HST.out.trans (show vbst l room gap true k (o, f, g) = (o, f, vadd (vadd g gap) s) from by unfold vbst; rw [if_neg hkf, hs, if_pos ⟨h64, .inr hrm⟩]))
              clear hs HST HEND hrm
              gi_wp2_with (refine ⟨trivial, ?_⟩; gi_at_call 33; refine (callsIn_wide.2 (zb_add _ _ _)).mono ?_; rintro e w1 ⟨rfl, hb⟩; have HB1 := Aside0.mk hb; clear hb; gi_wp2_with (refine ⟨trivial, ?_⟩; gi_at_call 33; refine (callsIn_wide.2 (zb_add _ _ _)).mono ?_; rintro e w2 ⟨rfl, hb⟩; have HB2 := Aside0.mk (below_step HB1.out hb); clear hb; have HK2 := Aside0.mk (HB.out.trans (KpB.of_below HB2.out HNR.out)); have HJ2 := Aside0.mk (HJJ.out _ wr w2 HJ.out HB2.out); have HX2 := Aside0.mk (HBX.out.kp HK2.out); have cw2 : w2.cell? ⟨n₀ + 1 + 1 + 1 + 1, 0, none⟩ = some (.bool true) := (blk_cell HX2.out.2.2.2 0).trans rfl; have cr2 : w2.cell? ⟨n₀ + 1 + 1, 0, none⟩ = some (.int .i64 room) := (blk_cell HX2.out.2.1 0).trans rfl))
              go_roundw
              case rel => exact ⟨k + 1, by omega, by go_num, by rw [HNX.out], by rw [HNX.out], ⟨by rw [HNX.out]; exact HJ2.out⟩, HK2⟩
              case measure => simp [intOf]; omega
            · have dr : decide (vadd (vadd g gap) s ≤ room) = false := decide_eq_false hrm
              have HNX := Aside0.mk (HST.out.trans (show vbst l room gap true k (o, f, g) = (o ++ [⟨f, k⟩], k, vcut s) from by unfold vbst; rw [if_neg hkf, hs, if_neg (by rintro ⟨_, h | h⟩; cases h; exact hrm h)]))
              have HLO := Aside0.mk (show o.length < l.length by omega)
              clear hs HST HEND hrm
              gi_wp2_with (refine ⟨trivial, ?_⟩; gi_at_call 33; refine (callsIn_wide.2 (zb_add _ _ _)).mono ?_; rintro e w1 ⟨rfl, hb⟩; have HB1 := Aside0.mk hb; clear hb; gi_wp2_with (refine ⟨trivial, ?_⟩; gi_at_call 33; refine (callsIn_wide.2 (zb_add _ _ _)).mono ?_; rintro e w2 ⟨rfl, hb⟩; have HB2 := Aside0.mk (below_step HB1.out hb); clear hb; have HK2 := Aside0.mk (HB.out.trans (KpB.of_below HB2.out HNR.out)); have HJ2 := Aside0.mk (HJJ.out _ wr w2 HJ.out HB2.out); have HX2 := Aside0.mk (HBX.out.kp HK2.out); have cw2 : w2.cell? ⟨n₀ + 1 + 1 + 1 + 1, 0, none⟩ = some (.bool true) := (blk_cell HX2.out.2.2.2 0).trans rfl; have cr2 : w2.cell? ⟨n₀ + 1 + 1, 0, none⟩ = some (.int .i64 room) := (blk_cell HX2.out.2.1 0).trans rfl; obtain ⟨fn, tmps, assign, body, hy, hR⟩ := HYY.out o ⟨f, k⟩ w2 HJ2.out HLO.out))
              refine hR.mono ?_
              rintro e W3 (⟨rfl, hJ3, hk3⟩ | ⟨rfl, hJx3⟩)
              · have HJ3 := Aside0.mk hJ3
                have HK3 := Aside0.mk (HK2.out.trans hk3)
                clear hJ3 hk3 hR hy
                gi_wp2_with (refine ⟨trivial, ?_⟩; gi_at_call 52; refine (callsIn_wide.2 (zb_cut _ _)).mono ?_; rintro e w4 ⟨rfl, hb⟩; have HK4 := Aside0.mk (HK3.out.trans (KpB.of_below hb (Nat.le_trans HN.out HK3.out.1.size))); have HJ4 := Aside0.mk (HJJ.out _ W3 w4 HJ3.out hb); clear hb)
                go_roundw
                case rel => exact ⟨k + 1, by omega, by go_num, by rw [HNX.out], by rw [HNX.out], ⟨by rw [HNX.out]; exact HJ4.out⟩, HK4⟩
                case measure => simp [intOf]; omega
              · have HJ3 := Aside0.mk hJx3
                clear hJx3 hR hy
                gi_wp2
                refine bodyPost_ret (results_none rfl _ _ _) rfl ?_
                exact ⟨⟨_, rfl⟩, .inr ⟨_, trivial, HJ3.out⟩⟩
        · have d64 : decide ((k : Int) - (f : Int) < 64) = false := decide_eq_false (by omega)
          have HNX := Aside0.mk (HST.out.trans (show vbst l room gap wrap k (o, f, g) = (o ++ [⟨f, k⟩], k, vcut s) from by unfold vbst; rw [if_neg hkf, hs, if_neg (by rintro ⟨h, _⟩; exact h64 h)]))
          have HLO := Aside0.mk (show o.length < l.length by omega)
          clear hs HST HEND
          gi_wp2_with (refine ⟨trivial, ?_⟩; gi_at_call 33; refine (callsIn_wide.2 (zb_add _ _ _)).mono ?_; rintro e w1 ⟨rfl, hb⟩; have HB1 := Aside0.mk hb; clear hb; gi_wp2_with (refine ⟨trivial, ?_⟩; gi_at_call 33; refine (callsIn_wide.2 (zb_add _ _ _)).mono ?_; rintro e w2 ⟨rfl, hb⟩; have HB2 := Aside0.mk (below_step HB1.out hb); clear hb; have HK2 := Aside0.mk (HB.out.trans (KpB.of_below HB2.out HNR.out)); have HJ2 := Aside0.mk (HJJ.out _ wr w2 HJ.out HB2.out); have HX2 := Aside0.mk (HBX.out.kp HK2.out); have cw2 : w2.cell? ⟨n₀ + 1 + 1 + 1 + 1, 0, none⟩ = some (.bool wrap) := (blk_cell HX2.out.2.2.2 0).trans rfl; have cr2 : w2.cell? ⟨n₀ + 1 + 1, 0, none⟩ = some (.int .i64 room) := (blk_cell HX2.out.2.1 0).trans rfl; obtain ⟨fn, tmps, assign, body, hy, hR⟩ := HYY.out o ⟨f, k⟩ w2 HJ2.out HLO.out))
          refine hR.mono ?_
          rintro e W3 (⟨rfl, hJ3, hk3⟩ | ⟨rfl, hJx3⟩)
          · have HJ3 := Aside0.mk hJ3
            have HK3 := Aside0.mk (HK2.out.trans hk3)
            clear hJ3 hk3 hR hy
            gi_wp2_with (refine ⟨trivial, ?_⟩; gi_at_call 52; refine (callsIn_wide.2 (zb_cut _ _)).mono ?_; rintro e w4 ⟨rfl, hb⟩; have HK4 := Aside0.mk (HK3.out.trans (KpB.of_below hb (Nat.le_trans HN.out HK3.out.1.size))); have HJ4 := Aside0.mk (HJJ.out _ W3 w4 HJ3.out hb); clear hb)
            go_roundw
            case rel => exact ⟨k + 1, by omega, by go_num, by rw [HNX.out], by rw [HNX.out], ⟨by rw [HNX.out]; exact HJ4.out⟩, HK4⟩
            case measure => simp [intOf]; omega
          · have HJ3 := Aside0.mk hJx3
            clear hJx3 hR hy
            gi_wp2
            refine bodyPost_ret (results_none rfl _ _ _) rfl ?_
            exact ⟨⟨_, rfl⟩, .inr ⟨_, trivial, HJ3.out⟩⟩
    · obtain rfl : k = l.length := by omega
      have cl : wr.cell? ⟨n₀ + 1, 0, none⟩ = some (.slice A l.length c) := (blk_cell HBR.out.1 0).trans rfl
      by_cases hf : f < l.length
      · have df : decide ((f : Int) < (l.length : Int)) = true := decide_eq_true (by omega)
        have HNX := Aside0.mk ((HEND.out rfl).trans (if_pos hf))
        obtain ⟨fn, tmps, assign, body, hy, hR⟩ := HYY.out o ⟨f, l.length⟩ wr HJ.out (by omega)
        clear HST HEND
        gi_wp2
        refine hR.mono ?_
        rintro e W3 (⟨rfl, hJ3, hk3⟩ | ⟨rfl, hJx3⟩)
        · have HJ3 := Aside0.mk hJ3
          clear hJ3 hk3 hR hy
          gi_wp2
          go_end0
          exact ⟨⟨_, rfl⟩, .inl ⟨_, rfl, by rw [HNX.out]; exact HJ3.out⟩⟩
        · have HJ3 := Aside0.mk hJx3
          clear hJx3 hR hy
          gi_wp2
          go_end0
          exact ⟨⟨_, rfl⟩, .inr ⟨_, trivial, HJ3.out⟩⟩
      · have df : decide ((f : Int) < (l.length : Int)) = false := decide_eq_false (by omega)
        have HNX := Aside0.mk ((HEND.out rfl).trans (if_neg hf))
        clear HST HEND
        gi_wp2
        go_end0
        exact ⟨⟨_, rfl⟩, .inl ⟨_, rfl, by rw [HNX.out]; exact HJ.out⟩⟩
theorem zb_each (A : Option Addr) (n c : Nat) (room gap : Int) (wrap : Bool) (w : World) : Calls Try.prog 39 #[.slice A n c, .int .i64 room, .int .i64 gap, .bool wrap] w fun e w' =>
    e = .returned (.func (.func 57) #[] #[.pointer (some ⟨w.heap.size, 0, none⟩), .pointer (some ⟨w.heap.size + 1 + 1, 0, none⟩), .pointer (some ⟨w.heap.size + 1 + 1 + 1, 0, none⟩), .pointer (some ⟨w.heap.size + 1, 0, none⟩)]) ∧ w' = (((w.alloc (.cells #[.slice A n c] 23)).alloc (.cells #[.int .i64 room] 3)).alloc (.cells #[.int .i64 gap] 3)).alloc (.cells #[.bool wrap] 4) := by
  go_enter Try.func39, Try.ntmps39
  go_wp2
  go_ret
  exact ⟨rfl, rfl⟩
theorem zb_worlds (A : Option Addr) (n c : Nat) (room gap : Int) (wrap : Bool) (X : Obj) (w : World) : let W := ((((w.alloc X).alloc (.cells #[.slice A n c] 23)).alloc (.cells #[.int .i64 room] 3)).alloc (.cells #[.int .i64 gap] 3)).alloc (.cells #[.bool wrap] 4)
    W.heap[w.heap.size]? = some X ∧ W.heap[w.heap.size + 1]? = some (.cells #[.slice A n c] 23 (0, 0)) ∧ W.heap[w.heap.size + 1 + 1]? = some (.cells #[.int .i64 room] 3 (0, 0)) ∧ W.heap[w.heap.size + 1 + 1 + 1]? = some (.cells #[.int .i64 gap] 3 (0, 0)) ∧ W.heap[w.heap.size + 1 + 1 + 1 + 1]? = some (.cells #[.bool wrap] 4 (0, 0)) ∧ W.heap.size = w.heap.size + 5 ∧ Below w.heap.size w W := by
  intro W
  have e0 : (w.alloc X).heap[w.heap.size]? = some X := World.alloc_heap_new w X
  have B1 := blk_new (w.alloc X) (.cells #[.slice A n c] 23)
  have B2 := blk_new ((w.alloc X).alloc (.cells #[.slice A n c] 23)) (.cells #[.int .i64 room] 3)
  have B3 := blk_new (((w.alloc X).alloc (.cells #[.slice A n c] 23)).alloc (.cells #[.int .i64 room] 3)) (.cells #[.int .i64 gap] 3)
  have B4 := blk_new ((((w.alloc X).alloc (.cells #[.slice A n c] 23)).alloc (.cells #[.int .i64 room] 3)).alloc (.cells #[.int .i64 gap] 3)) (.cells #[.bool wrap] 4)
  simp only [World.size_alloc] at B1 B2 B3 B4
  exact ⟨blk_alloc (blk_alloc (blk_alloc (blk_alloc e0 _) _) _) _, blk_alloc (blk_alloc (blk_alloc B1 _) _) _, blk_alloc (blk_alloc B2 _) _, blk_alloc B3 _, B4, by simp [W, World.size_alloc], below_alloc (below_alloc (below_alloc (below_alloc (below_alloc (Below.refl _ _) _) _) _) _) _⟩
theorem zb_stops (A : Option Addr) (c : Nat) (l : List Int) (room gap : Int) (wrap : Bool) (X : Obj) (n : Nat) (hn : 1 ≤ n) (w : World) (hr : Kd.C (Kd.int .i64) w A l.length l) (hl : l.length ≤ 4398046511104) :
    SeqStopsK Fence.wide n Try.prog 57 #[.pointer (some ⟨w.heap.size + 1, 0, none⟩), .pointer (some ⟨w.heap.size + 1 + 1 + 1, 0, none⟩), .pointer (some ⟨w.heap.size + 1 + 1 + 1 + 1, 0, none⟩), .pointer (some ⟨w.heap.size + 1 + 1, 0, none⟩)] (fun x : S41 => #[Value.int .i64 x.f0, Value.int .i64 x.f1]) (KpB w.heap.size)
      (fun ys => ys = vbreak l room gap wrap) (fun _ => True) l.length (((((w.alloc X).alloc (.cells #[.slice A l.length c] 23)).alloc (.cells #[.int .i64 room] 3)).alloc (.cells #[.int .i64 gap] 3)).alloc (.cells #[.bool wrap] 4)) := by
  obtain ⟨_, h1, h2, h3, h4, hs, hb⟩ := zb_worlds A l.length c room gap wrap X w
  intro l_ J Jx W hW hJ _ hY h0
  have hW' : Below (w.heap.size + 5) (((((w.alloc X).alloc (.cells #[.slice A l.length c] 23)).alloc (.cells #[.int .i64 room] 3)).alloc (.cells #[.int .i64 gap] 3)).alloc (.cells #[.bool wrap] 4)) W := by rw [← hs]; exact hW
  exact zb_iter n hn l_ w.heap.size c A l room gap wrap J Jx (fun s W1 W2 h hb2 => hJ s W1 W2 none h (zb_grown hb2) (fun r e => by cases e)) hY W w (Nat.le_refl _) (below_step hb hW) (by rw [← hs]; exact hW.size)
    ⟨(hW'.block _ (by omega)).trans h1, (hW'.block _ (by omega)).trans h2, (hW'.block _ (by omega)).trans h3, (hW'.block _ (by omega)).trans h4⟩ hr hl h0
set_option maxRecDepth 100000 in
set_option maxHeartbeats 8000000 in
theorem zb_main (A : Option Addr) (c : Nat) (l : List Int) (room gap : Int) (wrap : Bool) (w : World) (hr : Kd.C (Kd.int .i64) w A l.length l) (hlen : l.length ≤ 4398046511104) :
    CallsIn Fence.wide 5 Try.prog 26 #[.slice A l.length c, .int .i64 room, .int .i64 gap, .bool wrap] w fun e W' => ∃ v, e = .returned v ∧ W'.ownsRow w.heap.size 41 2 v (vbreak l room gap wrap).length (vbc (vbreak l room gap wrap)) ∧ Below w.heap.size w W' := by
  have hu41 := Try.underlying41
  obtain ⟨i0, hi, hz0, hz1, hz2⟩ := info_parts info41
  obtain ⟨b0, b1, b2, b3, b4, bs, bb⟩ := zb_worlds A l.length c room gap wrap (.cells #[.slice none 0 0] 37) w
  have HR := Aside0.mk hr
  have HB0 := Aside0.mk b0
  have HBB := Aside0.mk bb
  have HBS := Aside0.mk bs
  clear hr b0 b1 b2 b3 b4 bs bb
  refine callsIn_of_wp_marks Try.func26 rfl trivial ?_ rfl
  simp only [Try.ntmps26, List.size_toArray, List.length_cons, List.length_nil, Nat.reduceAdd, Nat.reduceSub, Array.replicate_succ, Array.replicate_zero, List.push_toArray, List.append_toArray, List.nil_append, List.cons_append]
  gi_wp2_with (refine ⟨trivial, ?_⟩; gi_at_call 39; refine (callsIn_wide.2 (zb_each _ _ _ _ _ _ _)).mono ?_; rintro e w' ⟨rfl, rfl⟩)
  have hstops := zb_stops A c l room gap wrap (.cells #[.slice none 0 0] 37) 4 (by omega) w HR.out hlen
  obtain ⟨W0, hW0⟩ : ∃ W0, (((((w.alloc (.cells #[.slice none 0 0] 37)).alloc (.cells #[.slice A l.length c] 23)).alloc (.cells #[.int .i64 room] 3)).alloc (.cells #[.int .i64 gap] 3)).alloc (.cells #[.bool wrap] 4)) = W0 := ⟨_, rfl⟩
  rw [hW0] at hstops HB0 HBB HBS ⊢
  clear hW0
  have hsz : W0.heap.size = w.heap.size + 5 := HBS.out
  refine wpIn_rangeFunc_ownG (F := Fence.wide) rfl (by omega) (gf := 57) (lb := #[.pointer (some ⟨w.heap.size + 1, 0, none⟩), .pointer (some ⟨w.heap.size + 1 + 1 + 1, 0, none⟩), .pointer (some ⟨w.heap.size + 1 + 1 + 1 + 1, 0, none⟩), .pointer (some ⟨w.heap.size + 1 + 1, 0, none⟩)]) rfl trivial (enters_of Try.func57 (by kernel_rfl) rfl)
    hstops (fun h g => h.trans g) (fun W l_ o o' hl h _ _ => ⟨belowK_b (w := W0) (by omega) W l_ o o' hl h (by assumption) (by assumption), ?k1, ?k2, ?k3, ?k4⟩) (Below.refl _ _) (fun _ => rfl)
    (fun pre W => (∃ v, Boxed W w.heap.size 37 v ∧ W.ownsRow (w.heap.size + 5) 41 2 v pre.length (vbc pre) ∧ True) ∧ (Below w.heap.size w W ∧ w.heap.size + 5 ≤ W.heap.size))
    (fun _ _ _ => False)
    (OwnFrom.and (Own.from (holdsRow_own (w.heap.size + 5) w.heap.size 37 41 2 (fun pre : List S41 => pre.length) (fun pre => vbc pre) (fun pre v => True)) _) (OwnFrom.and (ownFrom_below (Nat.le_refl _) (by omega)) (fun _ _ _ _ hs hg _ => Nat.le_trans hs hg.size)))
    (fun _ _ _ _ _ hs _ _ => hs)
    ⟨⟨_, HB0.out, World.ownsRow_nil _ _ _ _, trivial⟩, HBB.out, by omega⟩
    (fun x => { tmps := #[.slice A l.length c, .int .i64 room, .int .i64 gap, .bool wrap, undef, undef, undef, undef, .slice none 0 0, .pointer (some ⟨w.heap.size, 0, none⟩), .int .i64 x.f0, .int .i64 x.f1, .slice A l.length c, .int .i64 room, .int .i64 gap, .bool wrap,
      .func (.func 57) #[] #[.pointer (some ⟨w.heap.size + 1, 0, none⟩), .pointer (some ⟨w.heap.size + 1 + 1 + 1, 0, none⟩), .pointer (some ⟨w.heap.size + 1 + 1 + 1 + 1, 0, none⟩), .pointer (some ⟨w.heap.size + 1 + 1, 0, none⟩)], .int .i64 x.f0, .int .i64 x.f1, undef, undef, undef, undef, undef, undef, undef], defers := [] }) ?assign ?body ?done ?stop
  case k1 => exact World.putObj_heap_other (by omega)
  case k2 => exact World.putObj_heap_other (by omega)
  case k3 => exact World.putObj_heap_other (by omega)
  case k4 => exact World.putObj_heap_other (by omega)
  case assign =>
    intro l_ x W K hK
    gi_wp2
    exact hK
  case body =>
    rintro l_ pre x W ⟨⟨v, hv, hrow, _⟩, hB, hS⟩ hlt
    have hc := hv.cell
    have hml : pre.length + 1 ≤ maxLen := by unfold maxLen; omega
    have HV := Aside0.mk hv
    have HO := Aside0.mk hrow
    have HB := Aside0.mk hB
    clear hv hrow hB
    have BN := blk_new W (.cells #[.int .i64 x.f0, .int .i64 x.f1] 41)
    have hcl : ∀ (j : Nat) (u : Value), ([Value.int .i64 x.f0, .int .i64 x.f1] : List Value)[j]? = some u → (W.alloc (.cells #[.int .i64 x.f0, .int .i64 x.f1] 41)).cell? ((⟨W.heap.size, 0, none⟩ : Addr).add j) = some u := by
      intro j u hj
      match j, hj with
      | 0, hj => cases hj; exact (blk_cell BN 0).trans rfl
      | 1, hj => cases hj; exact (blk_cell BN 1).trans rfl
      | j + 2, hj => simp at hj
    have HCL := Aside0.mk hcl
    clear BN hcl
    gi_wp2_with (gi_at_builtin; refine wpListIn_append_own _ rfl _ _ 37 rfl (w.heap.size + 5) 41 i0 (.agg #[.int .i64 0, .int .i64 0]) 2 16 Try.underlying37 hi hz0 hz1 hz2 rfl (by decide) _ _ _ rfl (HO.out.alloc _) ⟨W.heap.size, 0, none⟩ 1 1 [.int .i64 x.f0, .int .i64 x.f1] rfl rfl HCL.out (by simp [Value.oneCell']) (by omega) (by omega) (by simp; omega) ?_; intro v' w1 hown' hgrow _; obtain ⟨g', cap', rfl⟩ := ownsRow_succ hown'; obtain ⟨hv1, hv2, hr2, hk2, hb2⟩ := HV.out.appended (n₀ := w.heap.size) (by decide) (own_weaken HO.out (by omega)) (by omega) (Nat.le_refl _) (own_weaken hown' (by omega)) hgrow; have hc1 := hv1.cell; have hf1 := hv1.frozen; have HV1 := Aside0.mk hv1; have HV2 := Aside0.mk hv2; have HK2 := Aside0.mk hk2; have HB2 := Aside0.mk hb2; have HO2 := Aside0.mk hown'; have HG := Aside0.mk hgrow; clear hv1 hv2 hr2 hk2 hb2 hown' hgrow)
    have far : ∀ b, b < w.heap.size + 5 → b ≠ w.heap.size → (w1.setCell ⟨w.heap.size, 0, none⟩ (.slice (some ⟨g', 0, none⟩) (pre.length + 1) cap')).heap[b]? = W.heap[b]? := by
      intro b h1 h2
      refine (Below.heap_setCell w1 _ _ b h2).trans ((HG.out.block b (by simp; omega) ?_).trans (Below.heap_alloc _ _ _ (by omega)))
      intro e
      have := own_base HO.out b e.symm
      omega
    exact ⟨HK2.out.from _, ⟨HB2.out, far _ (by omega) (by omega), far _ (by omega) (by omega), far _ (by omega) (by omega), far _ (by omega) (by omega)⟩,
      ⟨⟨_, HV2.out, by rw [vbc_snoc, List.length_append, List.length_singleton]; exact HO2.out.kept (grownBy_setCell' w1 w.heap.size _) (.inr (HV1.out.not_row (by decide) HO2.out).symm), trivial⟩, HB.out.trans HB2.out, Nat.le_trans hS HB2.out.size⟩⟩
  case done =>
    rintro D ys W hD rfl ⟨⟨v, hv, hrow, _⟩, hB, hS⟩ hK
    have hc := hv.cell
    have HO := Aside0.mk hrow
    have HB := Aside0.mk hB
    have HK := Aside0.mk hK
    clear hv hrow hB hK
    gi_wp2
    refine ⟨by simp, .inl ⟨_, _, rfl, run_takeDeferred HK.out, ?_⟩⟩
    exact ⟨_, results_tmp rfl _ _ _, v, rfl, ownsRow_putObj (own_weaken HO.out (by omega)) _ HK.out rfl, HB.out.trans (belowK_b (w := w) (Nat.le_refl _) W D _ _ (by omega) HK.out rfl rfl)⟩
  case stop =>
    rintro D c pre W _ _ h _
    exact h.elim
def lines_Break.f (l : List Int) (room gap : Int) (wrap : Bool) : Option (List S41) := if l.length ≤ 4398046511104 then some (vbreak l room gap wrap) else none
theorem lines_Break.calls (A0 : Option Addr) (c0 : Nat) (l0 : List Int) (a1 a2 : Int) (a3 : Bool) (r : List S41) (w : World) (hr0 : Kd.C (Kd.int .i64) w A0 l0.length l0) (hc0 : l0.length ≤ c0) (h : lines_Break.f l0 a1 a2 a3 = some r) :
    Calls Try.prog 26 #[.slice A0 l0.length c0, .int .i64 a1, .int .i64 a2, .bool a3] w fun e w' => ∃ v0_ : Value, e = .returned (v0_) ∧ Kd.R k41 41 w' w.heap.size (fun _ => True) v0_ r ∧ Below w.heap.size w w' := by
  unfold lines_Break.f at h
  by_cases hlen : l0.length ≤ 4398046511104
  case neg => rw [if_neg hlen] at h; cases h
  rw [if_pos hlen] at h
  obtain rfl := Option.some.inj h
  refine (callsIn_wide.1 (zb_main A0 c0 l0 a1 a2 a3 w hr0 hlen)).mono ?_
  rintro e w' ⟨v, rfl, ho, hb⟩
  exact ⟨v, rfl, ⟨fun _ _ => trivial, _, ho, vbc_reps _ _ _ _⟩, hb⟩

end Go.Proofs.Ytnmcefpnpfaklad.V
