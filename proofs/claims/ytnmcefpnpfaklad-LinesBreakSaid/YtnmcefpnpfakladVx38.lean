/- What the functions of this seat answer, as plain Lean functions, and that the calls come to just that (written by a program of this repo, over the kit's printer; Lean checks it). -/
import Derived.Test.YtnmcefpnpfakladVx0
import Derived.Test.YtnmcefpnpfakladVx2
import Derived.Test.YtnmcefpnpfakladVx17
namespace Go.Proofs.Ytnmcefpnpfaklad.V
open Go.RowKit Go.Proofs.YtnmcefpnpfakladW.PrintWords Go.Proofs.YtnmcefpnpfakladW.PrintLast Go.Proofs.YtnmcefpnpfakladW.PrintMore
attribute [local go_sem] max2_int min2_int max_two min_two max_three min_three max_four min_four   -- for this text's walks alone
set_option linter.unusedVariables false
set_option linter.unusedSimpArgs false

/-! ### valanceref07_Break: function 27 -/
mutual
def valanceref07_Break.l0 : Nat → List Int → Int → Int → Bool → List (S41) → Int → Option ((List (S41)))
  | 0, _, _, _, _, _, _ => none
  | k + 1, x0, x1, x2, x3, x9, x10 => if x10 < (x0.length : Int) then (valanceref07_Break.l1 k x0 x1 x2 x3 x9 x10 (wrap64 (x10 + 1))) else (some x9)
def valanceref07_Break.l1 : Nat → List Int → Int → Int → Bool → List (S41) → Int → Int → Option ((List (S41)))
  | 0, _, _, _, _, _, _, _ => none
  | k + 1, x0, x1, x2, x3, x9, x10, x11 => if x11 < (x0.length : Int) then (if (wrap64 (x11 - x10)) < 64 then (if x3 = true then (if 0 ≤ x10 then (if x10 ≤ (wrap64 (x11 + 1)) then (if (wrap64 (x11 + 1)) ≤ (x0.length : Int) then ((valanceref07_Long.f k ((x0.take ((wrap64 (x11 + 1)) : Int).toNat).drop (x10 : Int).toNat) x2).bind fun t345 => (if t345 ≤ x1 then (valanceref07_Break.l1 k x0 x1 x2 x3 x9 x10 (wrap64 (x11 + 1))) else (if x9.length < 8796093022208 then (valanceref07_Break.l0 k x0 x1 x2 x3 (x9 ++ [(⟨x10, x11⟩ : S41)]) x11) else (none)))) else (none)) else (none)) else (none)) else (valanceref07_Break.l1 k x0 x1 x2 x3 x9 x10 (wrap64 (x11 + 1)))) else (if x9.length < 8796093022208 then (valanceref07_Break.l0 k x0 x1 x2 x3 (x9 ++ [(⟨x10, x11⟩ : S41)]) x11) else (none))) else (if x9.length < 8796093022208 then (valanceref07_Break.l0 k x0 x1 x2 x3 (x9 ++ [(⟨x10, x11⟩ : S41)]) x11) else (none))
end
def valanceref07_Break.f (k : Nat) (l0 : List Int) (a1 : Int) (a2 : Int) (a3 : Bool) : Option ((List (S41))) := valanceref07_Break.l0 k l0 a1 a2 a3 ([] : List (S41)) 0
theorem valanceref07_Break.mono_l : ∀ k, (∀ y0 y1 y2 y3 y4 y5, LeO (valanceref07_Break.l0 k y0 y1 y2 y3 y4 y5) (valanceref07_Break.l0 (k + 1) y0 y1 y2 y3 y4 y5)) ∧ (∀ y0 y1 y2 y3 y4 y5 y6, LeO (valanceref07_Break.l1 k y0 y1 y2 y3 y4 y5 y6) (valanceref07_Break.l1 (k + 1) y0 y1 y2 y3 y4 y5 y6))
  | 0 => ⟨fun _ _ _ _ _ _ r h => by simp [valanceref07_Break.l0] at h, fun _ _ _ _ _ _ _ r h => by simp [valanceref07_Break.l1] at h⟩
  | k + 1 => by
    obtain ⟨ih0, ih1⟩ := valanceref07_Break.mono_l k
    refine ⟨?_, ?_⟩
    · intro y0 y1 y2 y3 y4 y5
      unfold valanceref07_Break.l0
      repeat' first
      | (with_reducible exact ih0 _ _ _ _ _ _)
      | (with_reducible exact ih1 _ _ _ _ _ _ _)
      | (with_reducible exact valanceref07_Long.mono _ _ _)
      | (with_reducible exact LeO.refl _)
      | (with_reducible exact LeO.none _)
      | (with_reducible refine LeO.ite ?_ ?_)
      | (with_reducible refine LeO.bind ?_ (fun _ => ?_))
      | exact ih0 _ _ _ _ _ _
      | exact ih1 _ _ _ _ _ _ _
      | exact valanceref07_Long.mono _ _ _
      | exact LeO.none _
      | refine LeO.ite ?_ ?_
      | refine LeO.bind ?_ (fun _ => ?_)
    · intro y0 y1 y2 y3 y4 y5 y6
      unfold valanceref07_Break.l1
      repeat' first
      | (with_reducible exact ih0 _ _ _ _ _ _)
      | (with_reducible exact ih1 _ _ _ _ _ _ _)
      | (with_reducible exact valanceref07_Long.mono _ _ _)
      | (with_reducible exact LeO.refl _)
      | (with_reducible exact LeO.none _)
      | (with_reducible refine LeO.ite ?_ ?_)
      | (with_reducible refine LeO.bind ?_ (fun _ => ?_))
      | exact ih0 _ _ _ _ _ _
      | exact ih1 _ _ _ _ _ _ _
      | exact valanceref07_Long.mono _ _ _
      | exact LeO.none _
      | refine LeO.ite ?_ ?_
      | refine LeO.bind ?_ (fun _ => ?_)
theorem valanceref07_Break.mono : ∀ a0 a1 a2 a3 k, LeO (valanceref07_Break.f k a0 a1 a2 a3) (valanceref07_Break.f (k + 1) a0 a1 a2 a3) := by
  intro a0 a1 a2 a3 k
  obtain ⟨ih0, ih1⟩ := valanceref07_Break.mono_l k
  unfold valanceref07_Break.f
  repeat' first
      | (with_reducible exact ih0 _ _ _ _ _ _)
      | (with_reducible exact ih1 _ _ _ _ _ _ _)
      | (with_reducible exact valanceref07_Long.mono _ _ _)
      | (with_reducible exact LeO.refl _)
      | (with_reducible exact LeO.none _)
      | (with_reducible refine LeO.ite ?_ ?_)
      | (with_reducible refine LeO.bind ?_ (fun _ => ?_))
      | exact ih0 _ _ _ _ _ _
      | exact ih1 _ _ _ _ _ _ _
      | exact valanceref07_Long.mono _ _ _
      | exact LeO.none _
      | refine LeO.ite ?_ ?_
      | refine LeO.bind ?_ (fun _ => ?_)
set_option maxHeartbeats 8000000 in
set_option maxRecDepth 100000 in
theorem valanceref07_Break.calls (k : Nat) (A0 : Option Addr) (c0 : Nat) (l0 : List Int) (a1 : Int) (a2 : Int) (a3 : Bool) (r : List (S41)) (w : World) (hr0 : Kd.C (Kd.int .i64) w A0 l0.length l0) (hc0 : l0.length ≤ c0) (h : valanceref07_Break.f k l0 a1 a2 a3 = some r) :
    Calls Try.prog 27 #[.slice A0 l0.length c0, .int .i64 a1, .int .i64 a2, .bool a3] w fun e w' => ∃ v0_ : Value, e = .returned (v0_) ∧ Kd.R k41 41 w' w.heap.size (fun _ => True) v0_ r ∧ Below w.heap.size w w' := by
  have hu41 := Try.underlying41
  have HR0 := Aside0.mk hr0
  have HC0 := Aside0.mk hc0
  clear hr0 hc0
  have HB := Aside0.mk (Below.refl w.heap.size w)
  have H : (valanceref07_Break.l0 k l0 a1 a2 a3 ([] : List (S41)) 0) = some r := h
  clear h
  have H' := Aside0.mk H
  clear H
  go_enter Try.func27, Try.ntmps27
  go_wp2
  go_loopg [9, 10] k (fun kq v9 v10 w' => ∃ (x9_1 : List (S41)) (x10_1 : Int), v10 = .int .i64 x10_1 ∧ Aside0 (valanceref07_Break.l0 kq l0 a1 a2 a3 x9_1 x10_1 = some r) ∧ Aside0 (kq ≤ k) ∧ Aside0 (Kd.R k41 41 w' w.heap.size (fun _ => True) v9 x9_1) ∧ Aside0 (Below w.heap.size w w'))
  case atStart => exact ⟨(([] : List (S41))), (0), (by first | rfl | (simp; done) | (simp [*]; done)), H', ⟨Nat.le_refl _⟩, ⟨by first | exact Kd.R_nil _ _ _ _ _ | exact Kd.N_nil _ _ _ _ _ | exact Kd.V_nil _ _ _ _ _ | exact Kd.Q_nil _ _ _ _ _ | exact Kd.S_nil _ _ _ _ _⟩, ⟨by repeat (first | (with_reducible first | exact HB.out | apply below_alloc | apply pw_below_drewN | apply below_drew1) | exact HB.out)⟩⟩
  case round =>
    clear H'
    try clear c2
    try clear p2
    obtain ⟨x9_1, x10_1, rfl, HA, HK1, HO_9, HB⟩ := hrel
    cases gk with
    | zero => exact absurd HA.out (by simp [valanceref07_Break.l0])
    | succ k1 =>
      have H := HA.out
      clear HA
      simp only [valanceref07_Break.l0] at H
      by_cases c5 : x10_1 < (l0.length : Int)
      · rw [if_pos c5] at H
        have c5b0 : decide (x10_1 < (l0.length : Int)) = true := decide_eq_true c5
        clear c5
        have H' := Aside0.mk H
        clear H
        go_wp2
        go_loopg [11] k1 (fun kq v11 w' => ∃ (x11_2 : Int), v11 = .int .i64 x11_2 ∧ Aside0 (valanceref07_Break.l1 kq l0 a1 a2 a3 x9_1 x10_1 x11_2 = some r) ∧ Aside0 (kq ≤ k1) ∧ Aside0 (Kd.R k41 41 w' w.heap.size (fun _ => True) u9 x9_1) ∧ Aside0 (Below w.heap.size w w'))
        case atStart => exact ⟨(wrap64 (x10_1 + 1)), (by first | rfl | (simp; done) | (simp [*]; done)), H', ⟨Nat.le_refl _⟩, ⟨by (with_reducible repeat (first | apply Kd.R_alloc | apply Kd.R_drewN | apply Kd.R_drew)); exact HO_9.out⟩, ⟨by repeat (first | (with_reducible first | exact HB.out | apply below_alloc | apply pw_below_drewN | apply below_drew1) | exact HB.out)⟩⟩
        case round =>
          clear H'
          try clear c2
          try clear p2
          try clear c5
          try clear c5b0
          try clear p2
          obtain ⟨x11_2, rfl, HA, HK2, HO_9, HB⟩ := hrel
          cases gk with
          | zero => exact absurd HA.out (by simp [valanceref07_Break.l1])
          | succ k2 =>
            have H := HA.out
            clear HA
            simp only [valanceref07_Break.l1] at H
            by_cases c6 : x11_2 < (l0.length : Int)
            · rw [if_pos c6] at H
              have c6b0 : decide (x11_2 < (l0.length : Int)) = true := decide_eq_true c6
              clear c6
              by_cases c7 : (wrap64 (x11_2 - x10_1)) < 64
              · rw [if_pos c7] at H
                have c7b0 : decide ((wrap64 (x11_2 - x10_1)) < 64) = true := decide_eq_true c7
                clear c7
                by_cases c8 : a3 = true
                · subst c8
                  have H1 : (if 0 ≤ x10_1 then (if x10_1 ≤ (wrap64 (x11_2 + 1)) then (if (wrap64 (x11_2 + 1)) ≤ (l0.length : Int) then ((valanceref07_Long.f k2 ((l0.take ((wrap64 (x11_2 + 1)) : Int).toNat).drop (x10_1 : Int).toNat) a2).bind fun t345 => (if t345 ≤ a1 then (valanceref07_Break.l1 k2 l0 a1 a2 true x9_1 x10_1 (wrap64 (x11_2 + 1))) else (if x9_1.length < 8796093022208 then (valanceref07_Break.l0 k2 l0 a1 a2 true (x9_1 ++ [(⟨x10_1, x11_2⟩ : S41)]) x11_2) else (none)))) else (none)) else (none)) else (none)) = some r := by rw [if_pos rfl] at H; exact H
                  clear H
                  have H := H1
                  clear H1
                  by_cases c9 : 0 ≤ x10_1
                  · rw [if_pos c9] at H
                    have c9b0 := eq_true c9
                    have c9b1 : decide (0 ≤ x10_1) = true := decide_eq_true c9
                    clear c9
                    by_cases c10 : x10_1 ≤ (wrap64 (x11_2 + 1))
                    · rw [if_pos c10] at H
                      have c10b0 := eq_true c10
                      have c10b1 : decide (x10_1 ≤ (wrap64 (x11_2 + 1))) = true := decide_eq_true c10
                      by_cases c11 : (wrap64 (x11_2 + 1)) ≤ (l0.length : Int)
                      · rw [if_pos c11] at H
                        have c11b0 := eq_true c11
                        have c11b1 : decide ((wrap64 (x11_2 + 1)) ≤ (l0.length : Int)) = true := decide_eq_true c11
                        replace H := Option.bind_eq_some_iff.mp H
                        obtain ⟨t345, A120, H⟩ := H
                        replace H : (if t345 ≤ a1 then (valanceref07_Break.l1 k2 l0 a1 a2 true x9_1 x10_1 (wrap64 (x11_2 + 1))) else (if x9_1.length < 8796093022208 then (valanceref07_Break.l0 k2 l0 a1 a2 true (x9_1 ++ [(⟨x10_1, x11_2⟩ : S41)]) x11_2) else (none))) = some r := H
                        have A12 := Aside0.mk A120
                        clear A120
                        by_cases c13 : t345 ≤ a1
                        · rw [if_pos c13] at H
                          have c13b0 : decide (t345 ≤ a1) = true := decide_eq_true c13
                          clear c13
                          have H' := Aside0.mk H
                          clear H
                          obtain ⟨i014, hi014, _, hsz14, _⟩ := info_parts info3
                          obtain ⟨A14, hcut14, hA14, hC14⟩ := print_mid_of (P := Try.prog) (Value.int .i64) 0 23 3 .i64 .i64 Try.underlying23 hi014 hsz14 A0 c0 l0 x10_1 (wrap64 (x11_2 + 1)) (of_decide_eq_true (by first | (with_reducible assumption) | assumption)) (by first | omega | exact of_decide_eq_true (by first | (with_reducible assumption) | assumption)) (of_decide_eq_true (by first | (with_reducible assumption) | assumption)) HC0.out
                          have HR344 := Aside0.mk (Kd.C_of_reads (h1 := fun _ => rfl) (hA14 _ (Kd.reads_of_C HR0.out)))
                          have HC344 := Aside0.mk hC14
                          clear hA14 hC14 hi014 hsz14
                          go_wp2_with (first | (go_at_call 28; (try rw [cut_len l0 ((wrap64 (x11_2 + 1))) (x10_1) (of_decide_eq_true (by first | (with_reducible assumption) | assumption))]); (with_reducible refine (valanceref07_Long.calls k2 _ _ ((l0.take ((wrap64 (x11_2 + 1)) : Int).toNat).drop (x10_1 : Int).toNat) a2 t345 _ ?side1 ?side2 A12.out).mono ?_); (case side1 => repeat (first | exact (Kd.C_below HR344.out HB.out) | (with_reducible refine Kd.C_alloc ?_ _) | (with_reducible refine Kd.C_drewN ?_ _) | (with_reducible refine Kd.C_drew ?_))); (case side2 => exact HC344.out); rintro e w' ⟨rfl, ⟨nd, rfl⟩⟩))
                          go_roundg k2
                          case measure => have := HK1.out; have := HK2.out; omega
                          case rel => exact ⟨(wrap64 (x11_2 + 1)), (by first | rfl | (simp; done) | (simp [*]; done)), H', ⟨by have := HK1.out; have := HK2.out; omega⟩, ⟨by (with_reducible repeat (first | apply Kd.R_alloc | apply Kd.R_drewN | apply Kd.R_drew)); exact HO_9.out⟩, ⟨by repeat (first | (with_reducible first | exact HB.out | apply below_alloc | apply pw_below_drewN | apply below_drew1) | exact HB.out)⟩⟩
                        · rw [if_neg c13] at H
                          have c13b0 : decide (t345 ≤ a1) = false := decide_eq_false c13
                          clear c13
                          by_cases c15 : x9_1.length < 8796093022208
                          · rw [if_pos c15] at H
                            have LMc15 := Aside0.mk c15
                            clear c15
                            obtain ⟨y346, hy346⟩ : ∃ y_ : List (S41), y_ = (x9_1 ++ [(⟨x10_1, x11_2⟩ : S41)]) := ⟨_, rfl⟩
                            replace H : (valanceref07_Break.l0 k2 l0 a1 a2 true y346 x11_2) = some r := by first | (rw [hy346]; with_reducible exact H) | (have H2_ := (Option.bind_some _ _).symm.trans H; rw [hy346]; with_reducible exact H2_) | (have H2_ := (Option.bind_some _ _).symm.trans H; with_reducible exact H2_) | with_reducible exact H | (rw [hy346]; exact H) | exact H
                            have Ny346 := Aside0.mk hy346
                            clear hy346
                            have H' := Aside0.mk H
                            clear H
                            obtain ⟨i016, hi016, _, hsz16, _⟩ := info_parts info3
                            obtain ⟨A16, hcut16, hA16, hC16⟩ := print_mid_of (P := Try.prog) (Value.int .i64) 0 23 3 .i64 .i64 Try.underlying23 hi016 hsz16 A0 c0 l0 x10_1 (wrap64 (x11_2 + 1)) (of_decide_eq_true (by first | (with_reducible assumption) | assumption)) (by first | omega | exact of_decide_eq_true (by first | (with_reducible assumption) | assumption)) (of_decide_eq_true (by first | (with_reducible assumption) | assumption)) HC0.out
                            have HR344 := Aside0.mk (Kd.C_of_reads (h1 := fun _ => rfl) (hA16 _ (Kd.reads_of_C HR0.out)))
                            have HC344 := Aside0.mk hC16
                            clear hA16 hC16 hi016 hsz16
                            go_wp2_with (first | (go_at_call 28; (try rw [cut_len l0 ((wrap64 (x11_2 + 1))) (x10_1) (of_decide_eq_true (by first | (with_reducible assumption) | assumption))]); (with_reducible refine (valanceref07_Long.calls k2 _ _ ((l0.take ((wrap64 (x11_2 + 1)) : Int).toNat).drop (x10_1 : Int).toNat) a2 t345 _ ?side1 ?side2 A12.out).mono ?_); (case side1 => repeat (first | exact (Kd.C_below HR344.out HB.out) | (with_reducible refine Kd.C_alloc ?_ _) | (with_reducible refine Kd.C_drewN ?_ _) | (with_reducible refine Kd.C_drew ?_))); (case side2 => exact HC344.out); rintro e w' ⟨rfl, ⟨nd, rfl⟩⟩) | ((with_reducible refine gate_builtin (b := .append) (xs := #[.tmp 45, .tmp 49]) rfl ?_); at_builtin; refine Kd.R_append k41 (w0 := w) w.heap.size rfl (.tmp 45) (.tmp 49) 37 41 (.agg #[(.int .i64 0), (.int .i64 0)]) 16 rfl Try.underlying37 info41 rfl (by decide) (by omega) u9 x9_1 (⟨x10_1, x11_2⟩ : S41) [.int .i64 x10_1, .int .i64 x11_2] (fun _ => True) (fun _ => False) rfl rfl ?aP (fun _ hk => hk.elim) ?aF ?aO ?aB ?aS ?aL ?_; (case aP => exact k41_mkM _ _ _ (⟨x10_1, x11_2⟩ : S41)); (case aB => exact (by repeat (first | (with_reducible first | exact HB.out | apply below_alloc | apply pw_below_drewN | apply below_drew1) | exact HB.out))); (case aF => exact (fun _ _ => trivial)); (case aO => exact (by (with_reducible repeat (first | apply Kd.R_alloc | apply Kd.R_drewN | apply Kd.R_drew)); exact HO_9.out)); (case aS => exact (below_size (by repeat (first | (with_reducible first | exact HB.out | apply below_alloc | apply pw_below_drewN | apply below_drew1) | exact HB.out)))); (case aL => have := LMc15.out; omega); intro v347 w17 ho hb hg hat; rw [← Ny346.out] at ho; have n0_ := Aside0.mk (hb); have n1_ := Aside0.mk (ho); clear HB; clear HO_9; have HB := n0_; have HO348 := n1_; clear n0_ n1_; clear ho hb hg hat))
                            go_roundg k2
                            case measure => have := HK1.out; have := HK2.out; omega
                            case rel => exact ⟨(y346), (x11_2), (by first | rfl | (simp; done) | (simp [*]; done)), H', ⟨by have := HK1.out; have := HK2.out; omega⟩, ⟨by (with_reducible repeat (first | apply Kd.R_alloc | apply Kd.R_drewN | apply Kd.R_drew)); exact HO348.out⟩, ⟨by repeat (first | (with_reducible first | exact HB.out | apply below_alloc | apply pw_below_drewN | apply below_drew1) | exact HB.out)⟩⟩
                          · rw [if_neg c15] at H
                            exact absurd H (by simp)
                      · rw [if_neg c11] at H
                        exact absurd H (by simp)
                    · rw [if_neg c10] at H
                      exact absurd H (by simp)
                  · rw [if_neg c9] at H
                    exact absurd H (by simp)
                · replace c8 := Bool.eq_false_iff.mpr c8
                  subst c8
                  have H1 : (valanceref07_Break.l1 k2 l0 a1 a2 false x9_1 x10_1 (wrap64 (x11_2 + 1))) = some r := by rw [if_neg (show ¬ (false = true) by decide)] at H; exact H
                  clear H
                  have H := H1
                  clear H1
                  have H' := Aside0.mk H
                  clear H
                  go_wp2
                  go_roundg k2
                  case measure => have := HK1.out; have := HK2.out; omega
                  case rel => exact ⟨(wrap64 (x11_2 + 1)), (by first | rfl | (simp; done) | (simp [*]; done)), H', ⟨by have := HK1.out; have := HK2.out; omega⟩, ⟨by (with_reducible repeat (first | apply Kd.R_alloc | apply Kd.R_drewN | apply Kd.R_drew)); exact HO_9.out⟩, ⟨by repeat (first | (with_reducible first | exact HB.out | apply below_alloc | apply pw_below_drewN | apply below_drew1) | exact HB.out)⟩⟩
              · rw [if_neg c7] at H
                have c7b0 : decide ((wrap64 (x11_2 - x10_1)) < 64) = false := decide_eq_false c7
                clear c7
                by_cases c18 : x9_1.length < 8796093022208
                · rw [if_pos c18] at H
                  have LMc18 := Aside0.mk c18
                  clear c18
                  obtain ⟨y349, hy349⟩ : ∃ y_ : List (S41), y_ = (x9_1 ++ [(⟨x10_1, x11_2⟩ : S41)]) := ⟨_, rfl⟩
                  replace H : (valanceref07_Break.l0 k2 l0 a1 a2 a3 y349 x11_2) = some r := by first | (rw [hy349]; with_reducible exact H) | (have H2_ := (Option.bind_some _ _).symm.trans H; rw [hy349]; with_reducible exact H2_) | (have H2_ := (Option.bind_some _ _).symm.trans H; with_reducible exact H2_) | with_reducible exact H | (rw [hy349]; exact H) | exact H
                  have Ny349 := Aside0.mk hy349
                  clear hy349
                  have H' := Aside0.mk H
                  clear H
                  go_wp2_with (first | ((with_reducible refine gate_builtin (b := .append) (xs := #[.tmp 45, .tmp 49]) rfl ?_); at_builtin; refine Kd.R_append k41 (w0 := w) w.heap.size rfl (.tmp 45) (.tmp 49) 37 41 (.agg #[(.int .i64 0), (.int .i64 0)]) 16 rfl Try.underlying37 info41 rfl (by decide) (by omega) u9 x9_1 (⟨x10_1, x11_2⟩ : S41) [.int .i64 x10_1, .int .i64 x11_2] (fun _ => True) (fun _ => False) rfl rfl ?aP (fun _ hk => hk.elim) ?aF ?aO ?aB ?aS ?aL ?_; (case aP => exact k41_mkM _ _ _ (⟨x10_1, x11_2⟩ : S41)); (case aB => exact (by repeat (first | (with_reducible first | exact HB.out | apply below_alloc | apply pw_below_drewN | apply below_drew1) | exact HB.out))); (case aF => exact (fun _ _ => trivial)); (case aO => exact (by (with_reducible repeat (first | apply Kd.R_alloc | apply Kd.R_drewN | apply Kd.R_drew)); exact HO_9.out)); (case aS => exact (below_size (by repeat (first | (with_reducible first | exact HB.out | apply below_alloc | apply pw_below_drewN | apply below_drew1) | exact HB.out)))); (case aL => have := LMc18.out; omega); intro v350 w19 ho hb hg hat; rw [← Ny349.out] at ho; have n0_ := Aside0.mk (hb); have n1_ := Aside0.mk (ho); clear HB; clear HO_9; have HB := n0_; have HO351 := n1_; clear n0_ n1_; clear ho hb hg hat))
                  go_roundg k2
                  case measure => have := HK1.out; have := HK2.out; omega
                  case rel => exact ⟨(y349), (x11_2), (by first | rfl | (simp; done) | (simp [*]; done)), H', ⟨by have := HK1.out; have := HK2.out; omega⟩, ⟨by (with_reducible repeat (first | apply Kd.R_alloc | apply Kd.R_drewN | apply Kd.R_drew)); exact HO351.out⟩, ⟨by repeat (first | (with_reducible first | exact HB.out | apply below_alloc | apply pw_below_drewN | apply below_drew1) | exact HB.out)⟩⟩
                · rw [if_neg c18] at H
                  exact absurd H (by simp)
            · rw [if_neg c6] at H
              have c6b0 : decide (x11_2 < (l0.length : Int)) = false := decide_eq_false c6
              clear c6
              by_cases c20 : x9_1.length < 8796093022208
              · rw [if_pos c20] at H
                have LMc20 := Aside0.mk c20
                clear c20
                obtain ⟨y352, hy352⟩ : ∃ y_ : List (S41), y_ = (x9_1 ++ [(⟨x10_1, x11_2⟩ : S41)]) := ⟨_, rfl⟩
                replace H : (valanceref07_Break.l0 k2 l0 a1 a2 a3 y352 x11_2) = some r := by first | (rw [hy352]; with_reducible exact H) | (have H2_ := (Option.bind_some _ _).symm.trans H; rw [hy352]; with_reducible exact H2_) | (have H2_ := (Option.bind_some _ _).symm.trans H; with_reducible exact H2_) | with_reducible exact H | (rw [hy352]; exact H) | exact H
                have Ny352 := Aside0.mk hy352
                clear hy352
                have H' := Aside0.mk H
                clear H
                go_wp2_with (first | ((with_reducible refine gate_builtin (b := .append) (xs := #[.tmp 45, .tmp 49]) rfl ?_); at_builtin; refine Kd.R_append k41 (w0 := w) w.heap.size rfl (.tmp 45) (.tmp 49) 37 41 (.agg #[(.int .i64 0), (.int .i64 0)]) 16 rfl Try.underlying37 info41 rfl (by decide) (by omega) u9 x9_1 (⟨x10_1, x11_2⟩ : S41) [.int .i64 x10_1, .int .i64 x11_2] (fun _ => True) (fun _ => False) rfl rfl ?aP (fun _ hk => hk.elim) ?aF ?aO ?aB ?aS ?aL ?_; (case aP => exact k41_mkM _ _ _ (⟨x10_1, x11_2⟩ : S41)); (case aB => exact (by repeat (first | (with_reducible first | exact HB.out | apply below_alloc | apply pw_below_drewN | apply below_drew1) | exact HB.out))); (case aF => exact (fun _ _ => trivial)); (case aO => exact (by (with_reducible repeat (first | apply Kd.R_alloc | apply Kd.R_drewN | apply Kd.R_drew)); exact HO_9.out)); (case aS => exact (below_size (by repeat (first | (with_reducible first | exact HB.out | apply below_alloc | apply pw_below_drewN | apply below_drew1) | exact HB.out)))); (case aL => have := LMc20.out; omega); intro v353 w21 ho hb hg hat; rw [← Ny352.out] at ho; have n0_ := Aside0.mk (hb); have n1_ := Aside0.mk (ho); clear HB; clear HO_9; have HB := n0_; have HO354 := n1_; clear n0_ n1_; clear ho hb hg hat))
                go_roundg k2
                case measure => have := HK1.out; have := HK2.out; omega
                case rel => exact ⟨(y352), (x11_2), (by first | rfl | (simp; done) | (simp [*]; done)), H', ⟨by have := HK1.out; have := HK2.out; omega⟩, ⟨by (with_reducible repeat (first | apply Kd.R_alloc | apply Kd.R_drewN | apply Kd.R_drew)); exact HO354.out⟩, ⟨by repeat (first | (with_reducible first | exact HB.out | apply below_alloc | apply pw_below_drewN | apply below_drew1) | exact HB.out)⟩⟩
              · rw [if_neg c20] at H
                exact absurd H (by simp)
      · rw [if_neg c5] at H
        have c5b0 : decide (x10_1 < (l0.length : Int)) = false := decide_eq_false c5
        clear c5
        obtain rfl := Option.some.inj H
        go_wp2
        go_ret
        exact ⟨_, by first | rfl | (simp [errW_none, errW_some] <;> rfl) | (simp [*, errW_none, errW_some] <;> rfl), by (with_reducible repeat (first | apply Kd.R_alloc | apply Kd.R_drewN | apply Kd.R_drew)); exact HO_9.out, by repeat (first | (with_reducible first | exact HB.out | apply below_alloc | apply pw_below_drewN | apply below_drew1) | exact HB.out)⟩

end Go.Proofs.Ytnmcefpnpfaklad.V
