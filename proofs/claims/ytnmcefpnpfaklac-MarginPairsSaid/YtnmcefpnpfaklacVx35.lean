/- What the functions of this seat answer, as plain Lean functions, and that the calls come to just that (written by a program of this repo, over the kit's printer; Lean checks it). -/
import Derived.Test.YtnmcefpnpfaklacVx0
import Derived.Test.YtnmcefpnpfaklacVx20
import Derived.Test.YtnmcefpnpfaklacVx23
namespace Go.Proofs.Ytnmcefpnpfaklac.V
open Go.RowKit Go.Proofs.YtnmcefpnpfaklacW.PrintWords Go.Proofs.YtnmcefpnpfaklacW.PrintLast Go.Proofs.YtnmcefpnpfaklacW.PrintMore
attribute [local go_sem] max2_int min2_int max_two min_two max_three min_three max_four min_four   -- for this text's walks alone
set_option linter.unusedVariables false
set_option linter.unusedSimpArgs false

/-! ### valancelaw06_MarginPairs: function 13 -/
mutual
def valancelaw06_MarginPairs.j0 : Nat → Int → Int → Bool → Int → Bool → Option (Bool)
  | 0, _, _, _, _, _ => none
  | k + 1, x0, x1, x5, x6, x42 => if x42 = true then (if x5 = true then ((margin_Pair.f k x1 x0).bind fun t312 => (if x6 = t312 then ((margin_Collapse.f k (([x0, x1] : List Int))).bind fun t316 => (some (x6 == t316))) else (none))) else (none)) else (if x0 ≥ 0 then (valancelaw06_MarginPairs.j1 k x0 x1 x5 x6 (wrap64 (x0 + x1)) (decide (x1 ≥ 0))) else (valancelaw06_MarginPairs.j1 k x0 x1 x5 x6 (wrap64 (x0 + x1)) false))
def valancelaw06_MarginPairs.j1 : Nat → Int → Int → Bool → Int → Int → Bool → Option (Bool)
  | 0, _, _, _, _, _, _ => none
  | k + 1, x0, x1, x5, x6, x7, x67 => if x67 = true then (if x0 ≤ 0 then (if x1 ≤ 0 then (if x5 = true then (some (x6 == (mn x0 x1))) else (none)) else (if x5 = true then (some (x6 == (mx x0 x1))) else (none))) else (if x5 = true then (some (x6 == (mx x0 x1))) else (none))) else (if x0 ≤ 0 then (if x1 ≤ 0 then (if x5 = true then (some (x6 == (mn x0 x1))) else (none)) else (if x5 = true then (some (x6 == x7)) else (none))) else (if x5 = true then (some (x6 == x7)) else (none)))
end
def valancelaw06_MarginPairs.f (k : Nat) (a0 : Int) (a1 : Int) : Option (Bool) := (valancelaw06_works.f k).bind fun t305 => (if t305 = true then ((margin_Pair.f k a0 a1).bind fun t306 => ((margin_Pair.f k a1 a0).bind fun t307 => (if t306 = t307 then ((margin_Collapse.f k (([a0, a1] : List Int))).bind fun t311 => (if t306 = t311 then (if a0 < (-1073741824) then (valancelaw06_MarginPairs.j0 k a0 a1 t305 t306 true) else (if a0 > 1073741824 then (valancelaw06_MarginPairs.j0 k a0 a1 t305 t306 true) else (if a1 < (-1073741824) then (valancelaw06_MarginPairs.j0 k a0 a1 t305 t306 true) else (valancelaw06_MarginPairs.j0 k a0 a1 t305 t306 (decide (a1 > 1073741824)))))) else (valancelaw06_MarginPairs.j0 k a0 a1 t305 t306 true))) else (valancelaw06_MarginPairs.j0 k a0 a1 t305 t306 true)))) else (none))
theorem valancelaw06_MarginPairs.mono_l : ∀ k, (∀ y0 y1 y2 y3 y4, LeO (valancelaw06_MarginPairs.j0 k y0 y1 y2 y3 y4) (valancelaw06_MarginPairs.j0 (k + 1) y0 y1 y2 y3 y4)) ∧ (∀ y0 y1 y2 y3 y4 y5, LeO (valancelaw06_MarginPairs.j1 k y0 y1 y2 y3 y4 y5) (valancelaw06_MarginPairs.j1 (k + 1) y0 y1 y2 y3 y4 y5))
  | 0 => ⟨fun _ _ _ _ _ r h => by simp [valancelaw06_MarginPairs.j0] at h, fun _ _ _ _ _ _ r h => by simp [valancelaw06_MarginPairs.j1] at h⟩
  | k + 1 => by
    obtain ⟨ih0, ih1⟩ := valancelaw06_MarginPairs.mono_l k
    refine ⟨?_, ?_⟩
    · intro y0 y1 y2 y3 y4
      unfold valancelaw06_MarginPairs.j0
      repeat' first
      | (with_reducible exact ih0 _ _ _ _ _)
      | (with_reducible exact ih1 _ _ _ _ _ _)
      | (with_reducible exact margin_Collapse.mono _ _)
      | (with_reducible exact margin_Pair.mono _ _ _)
      | (with_reducible exact valancelaw06_works.mono _)
      | (with_reducible exact LeO.refl _)
      | (with_reducible exact LeO.none _)
      | (with_reducible refine LeO.ite ?_ ?_)
      | (with_reducible refine LeO.bind ?_ (fun _ => ?_))
      | exact ih0 _ _ _ _ _
      | exact ih1 _ _ _ _ _ _
      | exact margin_Collapse.mono _ _
      | exact margin_Pair.mono _ _ _
      | exact valancelaw06_works.mono _
      | exact LeO.none _
      | refine LeO.ite ?_ ?_
      | refine LeO.bind ?_ (fun _ => ?_)
    · intro y0 y1 y2 y3 y4 y5
      unfold valancelaw06_MarginPairs.j1
      repeat' first
      | (with_reducible exact ih0 _ _ _ _ _)
      | (with_reducible exact ih1 _ _ _ _ _ _)
      | (with_reducible exact margin_Collapse.mono _ _)
      | (with_reducible exact margin_Pair.mono _ _ _)
      | (with_reducible exact valancelaw06_works.mono _)
      | (with_reducible exact LeO.refl _)
      | (with_reducible exact LeO.none _)
      | (with_reducible refine LeO.ite ?_ ?_)
      | (with_reducible refine LeO.bind ?_ (fun _ => ?_))
      | exact ih0 _ _ _ _ _
      | exact ih1 _ _ _ _ _ _
      | exact margin_Collapse.mono _ _
      | exact margin_Pair.mono _ _ _
      | exact valancelaw06_works.mono _
      | exact LeO.none _
      | refine LeO.ite ?_ ?_
      | refine LeO.bind ?_ (fun _ => ?_)
theorem valancelaw06_MarginPairs.mono : ∀ a0 a1 k, LeO (valancelaw06_MarginPairs.f k a0 a1) (valancelaw06_MarginPairs.f (k + 1) a0 a1) := by
  intro a0 a1 k
  obtain ⟨ih0, ih1⟩ := valancelaw06_MarginPairs.mono_l k
  unfold valancelaw06_MarginPairs.f
  repeat' first
      | (with_reducible exact ih0 _ _ _ _ _)
      | (with_reducible exact ih1 _ _ _ _ _ _)
      | (with_reducible exact margin_Collapse.mono _ _)
      | (with_reducible exact margin_Pair.mono _ _ _)
      | (with_reducible exact valancelaw06_works.mono _)
      | (with_reducible exact LeO.refl _)
      | (with_reducible exact LeO.none _)
      | (with_reducible refine LeO.ite ?_ ?_)
      | (with_reducible refine LeO.bind ?_ (fun _ => ?_))
      | exact ih0 _ _ _ _ _
      | exact ih1 _ _ _ _ _ _
      | exact margin_Collapse.mono _ _
      | exact margin_Pair.mono _ _ _
      | exact valancelaw06_works.mono _
      | exact LeO.none _
      | refine LeO.ite ?_ ?_
      | refine LeO.bind ?_ (fun _ => ?_)
set_option maxHeartbeats 8000000 in
set_option maxRecDepth 100000 in
theorem valancelaw06_MarginPairs.calls (k : Nat) (a0 : Int) (a1 : Int) (r : Bool) (w : World) (h : valancelaw06_MarginPairs.f k a0 a1 = some r) :
    Calls Try.prog 13 #[.int .i64 a0, .int .i64 a1] w fun e w' => e = .returned (.bool r) ∧ Below w.heap.size w w' := by
  have HB := Aside0.mk (Below.refl w.heap.size w)
  have H : ((valancelaw06_works.f k).bind fun t305 => (if t305 = true then ((margin_Pair.f k a0 a1).bind fun t306 => ((margin_Pair.f k a1 a0).bind fun t307 => (if t306 = t307 then ((margin_Collapse.f k (([a0, a1] : List Int))).bind fun t311 => (if t306 = t311 then (if a0 < (-1073741824) then (valancelaw06_MarginPairs.j0 k a0 a1 t305 t306 true) else (if a0 > 1073741824 then (valancelaw06_MarginPairs.j0 k a0 a1 t305 t306 true) else (if a1 < (-1073741824) then (valancelaw06_MarginPairs.j0 k a0 a1 t305 t306 true) else (valancelaw06_MarginPairs.j0 k a0 a1 t305 t306 (decide (a1 > 1073741824)))))) else (valancelaw06_MarginPairs.j0 k a0 a1 t305 t306 true))) else (valancelaw06_MarginPairs.j0 k a0 a1 t305 t306 true)))) else (none))) = some r := h
  clear h
  replace H := Option.bind_eq_some_iff.mp H
  obtain ⟨t305, A30, H⟩ := H
  replace H : (if t305 = true then ((margin_Pair.f k a0 a1).bind fun t306 => ((margin_Pair.f k a1 a0).bind fun t307 => (if t306 = t307 then ((margin_Collapse.f k (([a0, a1] : List Int))).bind fun t311 => (if t306 = t311 then (if a0 < (-1073741824) then (valancelaw06_MarginPairs.j0 k a0 a1 t305 t306 true) else (if a0 > 1073741824 then (valancelaw06_MarginPairs.j0 k a0 a1 t305 t306 true) else (if a1 < (-1073741824) then (valancelaw06_MarginPairs.j0 k a0 a1 t305 t306 true) else (valancelaw06_MarginPairs.j0 k a0 a1 t305 t306 (decide (a1 > 1073741824)))))) else (valancelaw06_MarginPairs.j0 k a0 a1 t305 t306 true))) else (valancelaw06_MarginPairs.j0 k a0 a1 t305 t306 true)))) else (none)) = some r := H
  have A3 := Aside0.mk A30
  clear A30
  by_cases c4 : t305 = true
  · subst c4
    have H1 : ((margin_Pair.f k a0 a1).bind fun t306 => ((margin_Pair.f k a1 a0).bind fun t307 => (if t306 = t307 then ((margin_Collapse.f k (([a0, a1] : List Int))).bind fun t311 => (if t306 = t311 then (if a0 < (-1073741824) then (valancelaw06_MarginPairs.j0 k a0 a1 true t306 true) else (if a0 > 1073741824 then (valancelaw06_MarginPairs.j0 k a0 a1 true t306 true) else (if a1 < (-1073741824) then (valancelaw06_MarginPairs.j0 k a0 a1 true t306 true) else (valancelaw06_MarginPairs.j0 k a0 a1 true t306 (decide (a1 > 1073741824)))))) else (valancelaw06_MarginPairs.j0 k a0 a1 true t306 true))) else (valancelaw06_MarginPairs.j0 k a0 a1 true t306 true)))) = some r := by rw [if_pos rfl] at H; exact H
    clear H
    have H := H1
    clear H1
    replace H := Option.bind_eq_some_iff.mp H
    obtain ⟨t306, A50, H⟩ := H
    replace H : ((margin_Pair.f k a1 a0).bind fun t307 => (if t306 = t307 then ((margin_Collapse.f k (([a0, a1] : List Int))).bind fun t311 => (if t306 = t311 then (if a0 < (-1073741824) then (valancelaw06_MarginPairs.j0 k a0 a1 true t306 true) else (if a0 > 1073741824 then (valancelaw06_MarginPairs.j0 k a0 a1 true t306 true) else (if a1 < (-1073741824) then (valancelaw06_MarginPairs.j0 k a0 a1 true t306 true) else (valancelaw06_MarginPairs.j0 k a0 a1 true t306 (decide (a1 > 1073741824)))))) else (valancelaw06_MarginPairs.j0 k a0 a1 true t306 true))) else (valancelaw06_MarginPairs.j0 k a0 a1 true t306 true))) = some r := H
    have A5 := Aside0.mk A50
    clear A50
    have HC6 := Aside0.mk H
    clear H
    go_enter Try.func13, Try.ntmps13
    go_upto_region 5 with (first | ((with_reducible refine gate_callee (f := 26) rfl ?_); refine goesL_ (some 8) rfl rfl Try.func26 (by kernel_rfl) rfl #[] rfl (by (try simp only [List.map_toArray, List.map_cons, List.map_nil]); first | done | rfl | (simp only [List.length_drop, List.length_take]; rfl)) ?_; (with_reducible refine (valancelaw06_works.calls k  true _ A3.out).mono ?_); rintro e w7 ⟨rfl, hb⟩; refine ⟨_, rfl, ?_⟩; have n0_ := Aside0.mk (below_step (by repeat (first | (with_reducible first | exact HB.out | apply below_alloc | apply pw_below_drewN | apply below_drew1) | exact HB.out)) hb); clear HB; have HB := n0_; clear n0_; (try clear hb); (try clear hb2); (try clear hk); (try clear hi)) | ((with_reducible refine gate_callee (f := 31) rfl ?_); refine goesL_ (some 13) rfl rfl Try.func31 (by kernel_rfl) rfl #[.int .i64 a0, .int .i64 a1] rfl (by (try simp only [List.map_toArray, List.map_cons, List.map_nil]); first | done | rfl | (simp only [List.length_drop, List.length_take]; rfl)) ?_; (with_reducible refine (margin_Pair.calls k a0 a1 t306 _ A5.out).mono ?_); rintro e w8 ⟨rfl, hb⟩; refine ⟨_, rfl, ?_⟩; have n0_ := Aside0.mk (below_step (by repeat (first | (with_reducible first | exact HB.out | apply below_alloc | apply pw_below_drewN | apply below_drew1) | exact HB.out)) hb); clear HB; have HB := n0_; clear n0_; (try clear hb); (try clear hb2); (try clear hk); (try clear hi)))
    (try simp only [Act.put, List.setIfInBounds_toArray, List.set_cons_zero, List.set_cons_succ])
    go_cut [42] (fun v42 wc => ∃ (kq : Nat) (x42_5 : Bool), v42 = .bool x42_5 ∧ Aside0 (valancelaw06_MarginPairs.j0 kq a0 a1 true t306 x42_5 = some r) ∧ Aside0 (kq ≤ k) ∧ Aside0 (Below w.heap.size w wc))
    case first =>
      have H := HC6.out
      clear HC6
      replace H := Option.bind_eq_some_iff.mp H
      obtain ⟨t307, A90, H⟩ := H
      replace H : (if t306 = t307 then ((margin_Collapse.f k (([a0, a1] : List Int))).bind fun t311 => (if t306 = t311 then (if a0 < (-1073741824) then (valancelaw06_MarginPairs.j0 k a0 a1 true t306 true) else (if a0 > 1073741824 then (valancelaw06_MarginPairs.j0 k a0 a1 true t306 true) else (if a1 < (-1073741824) then (valancelaw06_MarginPairs.j0 k a0 a1 true t306 true) else (valancelaw06_MarginPairs.j0 k a0 a1 true t306 (decide (a1 > 1073741824)))))) else (valancelaw06_MarginPairs.j0 k a0 a1 true t306 true))) else (valancelaw06_MarginPairs.j0 k a0 a1 true t306 true)) = some r := H
      have A9 := Aside0.mk A90
      clear A90
      by_cases c10 : t306 = t307
      · rw [if_pos c10] at H
        have c10b0 : (t306 == t307) = true := beq_iff_eq.mpr c10
        have c10b1 : (t306 != t307) = false := bne_eq_false_iff_eq.mpr c10
        clear c10
        (first | rw [c10b0] | (simp only [i64_w, i32_w]; rw [c10b0]) | skip)
        obtain ⟨y308, hy308⟩ : ∃ y_ : List Int, y_ = (([a0, a1] : List Int)) := ⟨_, rfl⟩
        replace H : ((margin_Collapse.f k y308).bind fun t311 => (if t306 = t311 then (if a0 < (-1073741824) then (valancelaw06_MarginPairs.j0 k a0 a1 true t306 true) else (if a0 > 1073741824 then (valancelaw06_MarginPairs.j0 k a0 a1 true t306 true) else (if a1 < (-1073741824) then (valancelaw06_MarginPairs.j0 k a0 a1 true t306 true) else (valancelaw06_MarginPairs.j0 k a0 a1 true t306 (decide (a1 > 1073741824)))))) else (valancelaw06_MarginPairs.j0 k a0 a1 true t306 true))) = some r := by first | (rw [hy308]; with_reducible exact H) | (have H2_ := (Option.bind_some _ _).symm.trans H; rw [hy308]; with_reducible exact H2_) | (have H2_ := (Option.bind_some _ _).symm.trans H; with_reducible exact H2_) | with_reducible exact H | (rw [hy308]; exact H) | exact H
        have Ny308 := Aside0.mk hy308
        clear hy308
        replace H := Option.bind_eq_some_iff.mp H
        obtain ⟨t311, A110, H⟩ := H
        replace H : (if t306 = t311 then (if a0 < (-1073741824) then (valancelaw06_MarginPairs.j0 k a0 a1 true t306 true) else (if a0 > 1073741824 then (valancelaw06_MarginPairs.j0 k a0 a1 true t306 true) else (if a1 < (-1073741824) then (valancelaw06_MarginPairs.j0 k a0 a1 true t306 true) else (valancelaw06_MarginPairs.j0 k a0 a1 true t306 (decide (a1 > 1073741824)))))) else (valancelaw06_MarginPairs.j0 k a0 a1 true t306 true)) = some r := H
        have A11 := Aside0.mk A110
        clear A110
        by_cases c12 : t306 = t311
        · rw [if_pos c12] at H
          have c12b0 : (t306 == t311) = true := beq_iff_eq.mpr c12
          have c12b1 : (t306 != t311) = false := bne_eq_false_iff_eq.mpr c12
          clear c12
          by_cases c13 : a0 < (-1073741824)
          · rw [if_pos c13] at H
            have c13b0 : decide (a0 < (-1073741824)) = true := decide_eq_true c13
            clear c13
            have H' := Aside0.mk H
            clear H
            go_wp2_with (first | ((with_reducible refine gate_callee (f := 31) rfl ?_); refine goesL_ (some 17) rfl rfl Try.func31 (by kernel_rfl) rfl #[.int .i64 a1, .int .i64 a0] rfl (by (try simp only [List.map_toArray, List.map_cons, List.map_nil]); first | done | rfl | (simp only [List.length_drop, List.length_take]; rfl)) ?_; (with_reducible refine (margin_Pair.calls k a1 a0 t307 _ A9.out).mono ?_); rintro e w14 ⟨rfl, hb⟩; refine ⟨_, rfl, ?_⟩; have n0_ := Aside0.mk (below_step (by repeat (first | (with_reducible first | exact HB.out | apply below_alloc | apply pw_below_drewN | apply below_drew1) | exact HB.out)) hb); clear HB; have HB := n0_; clear n0_; (try clear hb); (try clear hb2); (try clear hk); (try clear hi)) | ((with_reducible refine gate_dst (N := 23) rfl ?_); (try (refine gate_guard (by rfl) ?_; dsimp only)); refine Kd.R_lit (Kd.int .i64) _ 3 ?hg (N := 23) ?hd (xs := ([a0, a1] : List Int)) (inner := [.int .i64 a0, .int .i64 a1]) (ok := fun _ => True) (okp := fun _ => True) ?hr ?hp (fun _ hk => hk) trivial (Below.refl _ _) (Nat.le_refl _) (by simp) ?_; (case hd => rfl); (case hg => rfl); (case hr => first | (go_simp; done) | (go_simp; rfl)); (case hp => exact (Reps.one (show Kd.M (Kd.int .i64) _ _ _ a0 [.int .i64 a0] from rfl) (Reps.one (show Kd.M (Kd.int .i64) _ _ _ a1 [.int .i64 a1] from rfl) (Reps.none _ _)))); intro v309 w15 ho16 hb hg_ hnew_; clear hg_ hnew_; (first | rw [← Ny308.out] at ho16 | (simp only [Int.reduceToNat] at ho16; rw [← Ny308.out] at ho16)); have n0_ := Aside0.mk (Kd.R_lower ho16 (below_size (by repeat (first | (with_reducible first | exact HB.out | apply below_alloc | apply pw_below_drewN | apply below_drew1) | exact HB.out)))); have n1_ := Aside0.mk (below_step (by repeat (first | (with_reducible first | exact HB.out | apply below_alloc | apply pw_below_drewN | apply below_drew1) | exact HB.out)) hb); clear HB; have HO310 := n0_; have HB := n1_; clear n0_ n1_; clear hb ho16; obtain ⟨Ao17, co17, eo17⟩ := Kd.R_slice HO310.out; subst eo17) | (go_at_call 29; (with_reducible refine (margin_Collapse.calls k _ _ y308 t311 _ ?side1 ?side2 A11.out).mono ?_); (case side1 => repeat (first | exact (Kd.R_reads' HO310.out).2.2 | (with_reducible refine Kd.C_alloc ?_ _) | (with_reducible refine Kd.C_drewN ?_ _) | (with_reducible refine Kd.C_drew ?_))); (case side2 => exact (Kd.R_reads' HO310.out).2.1); rintro e w18 ⟨rfl, hb⟩; have n0_ := Aside0.mk (Kd.R_below (by (with_reducible repeat (first | apply Kd.R_alloc | apply Kd.R_drewN | apply Kd.R_drew)); exact HO310.out) hb); have n1_ := Aside0.mk (below_step (by repeat (first | (with_reducible first | exact HB.out | apply below_alloc | apply pw_below_drewN | apply below_drew1) | exact HB.out)) hb); clear HO310; clear HB; have HO310 := n0_; have HB := n1_; clear n0_ n1_; (try clear hb); (try clear hb2); (try clear hk); (try clear hi)))
            go_meet
            case rel => exact ⟨_, (true), (by first | rfl | (simp; done) | (simp [*]; done)), H', ⟨by first | omega | exact Nat.le_refl _⟩, ⟨by repeat (first | (with_reducible first | exact HB.out | apply below_alloc | apply pw_below_drewN | apply below_drew1) | exact HB.out)⟩⟩
          · rw [if_neg c13] at H
            have c13b0 : decide (a0 < (-1073741824)) = false := decide_eq_false c13
            clear c13
            by_cases c19 : a0 > 1073741824
            · rw [if_pos c19] at H
              have c19b0 : decide (1073741824 < a0) = true := decide_eq_true c19
              clear c19
              have H' := Aside0.mk H
              clear H
              go_wp2_with (first | ((with_reducible refine gate_callee (f := 31) rfl ?_); refine goesL_ (some 17) rfl rfl Try.func31 (by kernel_rfl) rfl #[.int .i64 a1, .int .i64 a0] rfl (by (try simp only [List.map_toArray, List.map_cons, List.map_nil]); first | done | rfl | (simp only [List.length_drop, List.length_take]; rfl)) ?_; (with_reducible refine (margin_Pair.calls k a1 a0 t307 _ A9.out).mono ?_); rintro e w20 ⟨rfl, hb⟩; refine ⟨_, rfl, ?_⟩; have n0_ := Aside0.mk (below_step (by repeat (first | (with_reducible first | exact HB.out | apply below_alloc | apply pw_below_drewN | apply below_drew1) | exact HB.out)) hb); clear HB; have HB := n0_; clear n0_; (try clear hb); (try clear hb2); (try clear hk); (try clear hi)) | ((with_reducible refine gate_dst (N := 23) rfl ?_); (try (refine gate_guard (by rfl) ?_; dsimp only)); refine Kd.R_lit (Kd.int .i64) _ 3 ?hg (N := 23) ?hd (xs := ([a0, a1] : List Int)) (inner := [.int .i64 a0, .int .i64 a1]) (ok := fun _ => True) (okp := fun _ => True) ?hr ?hp (fun _ hk => hk) trivial (Below.refl _ _) (Nat.le_refl _) (by simp) ?_; (case hd => rfl); (case hg => rfl); (case hr => first | (go_simp; done) | (go_simp; rfl)); (case hp => exact (Reps.one (show Kd.M (Kd.int .i64) _ _ _ a0 [.int .i64 a0] from rfl) (Reps.one (show Kd.M (Kd.int .i64) _ _ _ a1 [.int .i64 a1] from rfl) (Reps.none _ _)))); intro v309 w21 ho22 hb hg_ hnew_; clear hg_ hnew_; (first | rw [← Ny308.out] at ho22 | (simp only [Int.reduceToNat] at ho22; rw [← Ny308.out] at ho22)); have n0_ := Aside0.mk (Kd.R_lower ho22 (below_size (by repeat (first | (with_reducible first | exact HB.out | apply below_alloc | apply pw_below_drewN | apply below_drew1) | exact HB.out)))); have n1_ := Aside0.mk (below_step (by repeat (first | (with_reducible first | exact HB.out | apply below_alloc | apply pw_below_drewN | apply below_drew1) | exact HB.out)) hb); clear HB; have HO310 := n0_; have HB := n1_; clear n0_ n1_; clear hb ho22; obtain ⟨Ao23, co23, eo23⟩ := Kd.R_slice HO310.out; subst eo23) | (go_at_call 29; (with_reducible refine (margin_Collapse.calls k _ _ y308 t311 _ ?side1 ?side2 A11.out).mono ?_); (case side1 => repeat (first | exact (Kd.R_reads' HO310.out).2.2 | (with_reducible refine Kd.C_alloc ?_ _) | (with_reducible refine Kd.C_drewN ?_ _) | (with_reducible refine Kd.C_drew ?_))); (case side2 => exact (Kd.R_reads' HO310.out).2.1); rintro e w24 ⟨rfl, hb⟩; have n0_ := Aside0.mk (Kd.R_below (by (with_reducible repeat (first | apply Kd.R_alloc | apply Kd.R_drewN | apply Kd.R_drew)); exact HO310.out) hb); have n1_ := Aside0.mk (below_step (by repeat (first | (with_reducible first | exact HB.out | apply below_alloc | apply pw_below_drewN | apply below_drew1) | exact HB.out)) hb); clear HO310; clear HB; have HO310 := n0_; have HB := n1_; clear n0_ n1_; (try clear hb); (try clear hb2); (try clear hk); (try clear hi)))
              go_meet
              case rel => exact ⟨_, (true), (by first | rfl | (simp; done) | (simp [*]; done)), H', ⟨by first | omega | exact Nat.le_refl _⟩, ⟨by repeat (first | (with_reducible first | exact HB.out | apply below_alloc | apply pw_below_drewN | apply below_drew1) | exact HB.out)⟩⟩
            · rw [if_neg c19] at H
              have c19b0 : decide (1073741824 < a0) = false := decide_eq_false c19
              clear c19
              by_cases c25 : a1 < (-1073741824)
              · rw [if_pos c25] at H
                have c25b0 : decide (a1 < (-1073741824)) = true := decide_eq_true c25
                clear c25
                have H' := Aside0.mk H
                clear H
                go_wp2_with (first | ((with_reducible refine gate_callee (f := 31) rfl ?_); refine goesL_ (some 17) rfl rfl Try.func31 (by kernel_rfl) rfl #[.int .i64 a1, .int .i64 a0] rfl (by (try simp only [List.map_toArray, List.map_cons, List.map_nil]); first | done | rfl | (simp only [List.length_drop, List.length_take]; rfl)) ?_; (with_reducible refine (margin_Pair.calls k a1 a0 t307 _ A9.out).mono ?_); rintro e w26 ⟨rfl, hb⟩; refine ⟨_, rfl, ?_⟩; have n0_ := Aside0.mk (below_step (by repeat (first | (with_reducible first | exact HB.out | apply below_alloc | apply pw_below_drewN | apply below_drew1) | exact HB.out)) hb); clear HB; have HB := n0_; clear n0_; (try clear hb); (try clear hb2); (try clear hk); (try clear hi)) | ((with_reducible refine gate_dst (N := 23) rfl ?_); (try (refine gate_guard (by rfl) ?_; dsimp only)); refine Kd.R_lit (Kd.int .i64) _ 3 ?hg (N := 23) ?hd (xs := ([a0, a1] : List Int)) (inner := [.int .i64 a0, .int .i64 a1]) (ok := fun _ => True) (okp := fun _ => True) ?hr ?hp (fun _ hk => hk) trivial (Below.refl _ _) (Nat.le_refl _) (by simp) ?_; (case hd => rfl); (case hg => rfl); (case hr => first | (go_simp; done) | (go_simp; rfl)); (case hp => exact (Reps.one (show Kd.M (Kd.int .i64) _ _ _ a0 [.int .i64 a0] from rfl) (Reps.one (show Kd.M (Kd.int .i64) _ _ _ a1 [.int .i64 a1] from rfl) (Reps.none _ _)))); intro v309 w27 ho28 hb hg_ hnew_; clear hg_ hnew_; (first | rw [← Ny308.out] at ho28 | (simp only [Int.reduceToNat] at ho28; rw [← Ny308.out] at ho28)); have n0_ := Aside0.mk (Kd.R_lower ho28 (below_size (by repeat (first | (with_reducible first | exact HB.out | apply below_alloc | apply pw_below_drewN | apply below_drew1) | exact HB.out)))); have n1_ := Aside0.mk (below_step (by repeat (first | (with_reducible first | exact HB.out | apply below_alloc | apply pw_below_drewN | apply below_drew1) | exact HB.out)) hb); clear HB; have HO310 := n0_; have HB := n1_; clear n0_ n1_; clear hb ho28; obtain ⟨Ao29, co29, eo29⟩ := Kd.R_slice HO310.out; subst eo29) | (go_at_call 29; (with_reducible refine (margin_Collapse.calls k _ _ y308 t311 _ ?side1 ?side2 A11.out).mono ?_); (case side1 => repeat (first | exact (Kd.R_reads' HO310.out).2.2 | (with_reducible refine Kd.C_alloc ?_ _) | (with_reducible refine Kd.C_drewN ?_ _) | (with_reducible refine Kd.C_drew ?_))); (case side2 => exact (Kd.R_reads' HO310.out).2.1); rintro e w30 ⟨rfl, hb⟩; have n0_ := Aside0.mk (Kd.R_below (by (with_reducible repeat (first | apply Kd.R_alloc | apply Kd.R_drewN | apply Kd.R_drew)); exact HO310.out) hb); have n1_ := Aside0.mk (below_step (by repeat (first | (with_reducible first | exact HB.out | apply below_alloc | apply pw_below_drewN | apply below_drew1) | exact HB.out)) hb); clear HO310; clear HB; have HO310 := n0_; have HB := n1_; clear n0_ n1_; (try clear hb); (try clear hb2); (try clear hk); (try clear hi)))
                go_meet
                case rel => exact ⟨_, (true), (by first | rfl | (simp; done) | (simp [*]; done)), H', ⟨by first | omega | exact Nat.le_refl _⟩, ⟨by repeat (first | (with_reducible first | exact HB.out | apply below_alloc | apply pw_below_drewN | apply below_drew1) | exact HB.out)⟩⟩
              · rw [if_neg c25] at H
                have c25b0 : decide (a1 < (-1073741824)) = false := decide_eq_false c25
                clear c25
                have H' := Aside0.mk H
                clear H
                go_wp2_with (first | ((with_reducible refine gate_callee (f := 31) rfl ?_); refine goesL_ (some 17) rfl rfl Try.func31 (by kernel_rfl) rfl #[.int .i64 a1, .int .i64 a0] rfl (by (try simp only [List.map_toArray, List.map_cons, List.map_nil]); first | done | rfl | (simp only [List.length_drop, List.length_take]; rfl)) ?_; (with_reducible refine (margin_Pair.calls k a1 a0 t307 _ A9.out).mono ?_); rintro e w31 ⟨rfl, hb⟩; refine ⟨_, rfl, ?_⟩; have n0_ := Aside0.mk (below_step (by repeat (first | (with_reducible first | exact HB.out | apply below_alloc | apply pw_below_drewN | apply below_drew1) | exact HB.out)) hb); clear HB; have HB := n0_; clear n0_; (try clear hb); (try clear hb2); (try clear hk); (try clear hi)) | ((with_reducible refine gate_dst (N := 23) rfl ?_); (try (refine gate_guard (by rfl) ?_; dsimp only)); refine Kd.R_lit (Kd.int .i64) _ 3 ?hg (N := 23) ?hd (xs := ([a0, a1] : List Int)) (inner := [.int .i64 a0, .int .i64 a1]) (ok := fun _ => True) (okp := fun _ => True) ?hr ?hp (fun _ hk => hk) trivial (Below.refl _ _) (Nat.le_refl _) (by simp) ?_; (case hd => rfl); (case hg => rfl); (case hr => first | (go_simp; done) | (go_simp; rfl)); (case hp => exact (Reps.one (show Kd.M (Kd.int .i64) _ _ _ a0 [.int .i64 a0] from rfl) (Reps.one (show Kd.M (Kd.int .i64) _ _ _ a1 [.int .i64 a1] from rfl) (Reps.none _ _)))); intro v309 w32 ho33 hb hg_ hnew_; clear hg_ hnew_; (first | rw [← Ny308.out] at ho33 | (simp only [Int.reduceToNat] at ho33; rw [← Ny308.out] at ho33)); have n0_ := Aside0.mk (Kd.R_lower ho33 (below_size (by repeat (first | (with_reducible first | exact HB.out | apply below_alloc | apply pw_below_drewN | apply below_drew1) | exact HB.out)))); have n1_ := Aside0.mk (below_step (by repeat (first | (with_reducible first | exact HB.out | apply below_alloc | apply pw_below_drewN | apply below_drew1) | exact HB.out)) hb); clear HB; have HO310 := n0_; have HB := n1_; clear n0_ n1_; clear hb ho33; obtain ⟨Ao34, co34, eo34⟩ := Kd.R_slice HO310.out; subst eo34) | (go_at_call 29; (with_reducible refine (margin_Collapse.calls k _ _ y308 t311 _ ?side1 ?side2 A11.out).mono ?_); (case side1 => repeat (first | exact (Kd.R_reads' HO310.out).2.2 | (with_reducible refine Kd.C_alloc ?_ _) | (with_reducible refine Kd.C_drewN ?_ _) | (with_reducible refine Kd.C_drew ?_))); (case side2 => exact (Kd.R_reads' HO310.out).2.1); rintro e w35 ⟨rfl, hb⟩; have n0_ := Aside0.mk (Kd.R_below (by (with_reducible repeat (first | apply Kd.R_alloc | apply Kd.R_drewN | apply Kd.R_drew)); exact HO310.out) hb); have n1_ := Aside0.mk (below_step (by repeat (first | (with_reducible first | exact HB.out | apply below_alloc | apply pw_below_drewN | apply below_drew1) | exact HB.out)) hb); clear HO310; clear HB; have HO310 := n0_; have HB := n1_; clear n0_ n1_; (try clear hb); (try clear hb2); (try clear hk); (try clear hi)))
                go_meet
                case rel => exact ⟨_, (decide (a1 > 1073741824)), (by first | rfl | (simp; done) | (simp [*]; done)), H', ⟨by first | omega | exact Nat.le_refl _⟩, ⟨by repeat (first | (with_reducible first | exact HB.out | apply below_alloc | apply pw_below_drewN | apply below_drew1) | exact HB.out)⟩⟩
        · rw [if_neg c12] at H
          have c12b0 : (t306 == t311) = false := beq_eq_false_iff_ne.mpr c12
          have c12b1 : (t306 != t311) = true := bne_iff_ne.mpr c12
          have H' := Aside0.mk H
          clear H
          go_wp2_with (first | ((with_reducible refine gate_callee (f := 31) rfl ?_); refine goesL_ (some 17) rfl rfl Try.func31 (by kernel_rfl) rfl #[.int .i64 a1, .int .i64 a0] rfl (by (try simp only [List.map_toArray, List.map_cons, List.map_nil]); first | done | rfl | (simp only [List.length_drop, List.length_take]; rfl)) ?_; (with_reducible refine (margin_Pair.calls k a1 a0 t307 _ A9.out).mono ?_); rintro e w36 ⟨rfl, hb⟩; refine ⟨_, rfl, ?_⟩; have n0_ := Aside0.mk (below_step (by repeat (first | (with_reducible first | exact HB.out | apply below_alloc | apply pw_below_drewN | apply below_drew1) | exact HB.out)) hb); clear HB; have HB := n0_; clear n0_; (try clear hb); (try clear hb2); (try clear hk); (try clear hi)) | ((with_reducible refine gate_dst (N := 23) rfl ?_); (try (refine gate_guard (by rfl) ?_; dsimp only)); refine Kd.R_lit (Kd.int .i64) _ 3 ?hg (N := 23) ?hd (xs := ([a0, a1] : List Int)) (inner := [.int .i64 a0, .int .i64 a1]) (ok := fun _ => True) (okp := fun _ => True) ?hr ?hp (fun _ hk => hk) trivial (Below.refl _ _) (Nat.le_refl _) (by simp) ?_; (case hd => rfl); (case hg => rfl); (case hr => first | (go_simp; done) | (go_simp; rfl)); (case hp => exact (Reps.one (show Kd.M (Kd.int .i64) _ _ _ a0 [.int .i64 a0] from rfl) (Reps.one (show Kd.M (Kd.int .i64) _ _ _ a1 [.int .i64 a1] from rfl) (Reps.none _ _)))); intro v309 w37 ho38 hb hg_ hnew_; clear hg_ hnew_; (first | rw [← Ny308.out] at ho38 | (simp only [Int.reduceToNat] at ho38; rw [← Ny308.out] at ho38)); have n0_ := Aside0.mk (Kd.R_lower ho38 (below_size (by repeat (first | (with_reducible first | exact HB.out | apply below_alloc | apply pw_below_drewN | apply below_drew1) | exact HB.out)))); have n1_ := Aside0.mk (below_step (by repeat (first | (with_reducible first | exact HB.out | apply below_alloc | apply pw_below_drewN | apply below_drew1) | exact HB.out)) hb); clear HB; have HO310 := n0_; have HB := n1_; clear n0_ n1_; clear hb ho38; obtain ⟨Ao39, co39, eo39⟩ := Kd.R_slice HO310.out; subst eo39) | (go_at_call 29; (with_reducible refine (margin_Collapse.calls k _ _ y308 t311 _ ?side1 ?side2 A11.out).mono ?_); (case side1 => repeat (first | exact (Kd.R_reads' HO310.out).2.2 | (with_reducible refine Kd.C_alloc ?_ _) | (with_reducible refine Kd.C_drewN ?_ _) | (with_reducible refine Kd.C_drew ?_))); (case side2 => exact (Kd.R_reads' HO310.out).2.1); rintro e w40 ⟨rfl, hb⟩; have n0_ := Aside0.mk (Kd.R_below (by (with_reducible repeat (first | apply Kd.R_alloc | apply Kd.R_drewN | apply Kd.R_drew)); exact HO310.out) hb); have n1_ := Aside0.mk (below_step (by repeat (first | (with_reducible first | exact HB.out | apply below_alloc | apply pw_below_drewN | apply below_drew1) | exact HB.out)) hb); clear HO310; clear HB; have HO310 := n0_; have HB := n1_; clear n0_ n1_; (try clear hb); (try clear hb2); (try clear hk); (try clear hi)))
          go_meet
          case rel => exact ⟨_, (true), (by first | rfl | (simp; done) | (simp [*]; done)), H', ⟨by first | omega | exact Nat.le_refl _⟩, ⟨by repeat (first | (with_reducible first | exact HB.out | apply below_alloc | apply pw_below_drewN | apply below_drew1) | exact HB.out)⟩⟩
      · rw [if_neg c10] at H
        have c10b0 : (t306 == t307) = false := beq_eq_false_iff_ne.mpr c10
        have c10b1 : (t306 != t307) = true := bne_iff_ne.mpr c10
        (first | rw [c10b0] | (simp only [i64_w, i32_w]; rw [c10b0]) | skip)
        have H' := Aside0.mk H
        clear H
        go_wp2_with (first | ((with_reducible refine gate_callee (f := 31) rfl ?_); refine goesL_ (some 17) rfl rfl Try.func31 (by kernel_rfl) rfl #[.int .i64 a1, .int .i64 a0] rfl (by (try simp only [List.map_toArray, List.map_cons, List.map_nil]); first | done | rfl | (simp only [List.length_drop, List.length_take]; rfl)) ?_; (with_reducible refine (margin_Pair.calls k a1 a0 t307 _ A9.out).mono ?_); rintro e w41 ⟨rfl, hb⟩; refine ⟨_, rfl, ?_⟩; have n0_ := Aside0.mk (below_step (by repeat (first | (with_reducible first | exact HB.out | apply below_alloc | apply pw_below_drewN | apply below_drew1) | exact HB.out)) hb); clear HB; have HB := n0_; clear n0_; (try clear hb); (try clear hb2); (try clear hk); (try clear hi)))
        go_meet
        case rel => exact ⟨_, (true), (by first | rfl | (simp; done) | (simp [*]; done)), H', ⟨by first | omega | exact Nat.le_refl _⟩, ⟨by repeat (first | (with_reducible first | exact HB.out | apply below_alloc | apply pw_below_drewN | apply below_drew1) | exact HB.out)⟩⟩
    case rest =>
      clear HC6
      try clear c1
      try clear c2
      try clear p2
      try clear c3
      try clear c4
      try clear c10
      try clear c10b0
      try clear c10b1
      try clear c12
      try clear c12b0
      try clear c12b1
      try clear c13
      try clear c13b0
      try clear c19
      try clear c19b0
      try clear c25
      try clear c25b0
      try clear c26
      try clear c31
      obtain ⟨kq, x42_5, rfl, HA, HJ5, HB⟩ := hcut
      cases kq with
      | zero => exact absurd HA.out (by simp [valancelaw06_MarginPairs.j0])
      | succ kj5 =>
        have H := HA.out
        clear HA
        simp only [valancelaw06_MarginPairs.j0] at H
        by_cases c42 : x42_5 = true
        · subst c42
          have H1 : (if true = true then ((margin_Pair.f kj5 a1 a0).bind fun t312 => (if t306 = t312 then ((margin_Collapse.f kj5 (([a0, a1] : List Int))).bind fun t316 => (some (t306 == t316))) else (none))) else (none)) = some r := by rw [if_pos rfl] at H; exact H
          clear H
          have H := H1
          clear H1
          by_cases c43 : true = true
          · clear c43
            have H1 : ((margin_Pair.f kj5 a1 a0).bind fun t312 => (if t306 = t312 then ((margin_Collapse.f kj5 (([a0, a1] : List Int))).bind fun t316 => (some (t306 == t316))) else (none))) = some r := by first | (rw [if_pos rfl] at H; exact H) | (rw [if_pos True.intro] at H; exact H)
            clear H
            have H := H1
            clear H1
            replace H := Option.bind_eq_some_iff.mp H
            obtain ⟨t312, A440, H⟩ := H
            replace H : (if t306 = t312 then ((margin_Collapse.f kj5 (([a0, a1] : List Int))).bind fun t316 => (some (t306 == t316))) else (none)) = some r := H
            have A44 := Aside0.mk A440
            clear A440
            by_cases c45 : t306 = t312
            · rw [if_pos c45] at H
              have c45b0 : (t306 == t312) = true := beq_iff_eq.mpr c45
              have c45b1 : (t306 != t312) = false := bne_eq_false_iff_eq.mpr c45
              clear c45
              obtain ⟨y313, hy313⟩ : ∃ y_ : List Int, y_ = (([a0, a1] : List Int)) := ⟨_, rfl⟩
              replace H : ((margin_Collapse.f kj5 y313).bind fun t316 => (some (t306 == t316))) = some r := by first | (rw [hy313]; with_reducible exact H) | (have H2_ := (Option.bind_some _ _).symm.trans H; rw [hy313]; with_reducible exact H2_) | (have H2_ := (Option.bind_some _ _).symm.trans H; with_reducible exact H2_) | with_reducible exact H | (rw [hy313]; exact H) | exact H
              have Ny313 := Aside0.mk hy313
              clear hy313
              replace H := Option.bind_eq_some_iff.mp H
              obtain ⟨t316, A460, H⟩ := H
              replace H : (some (t306 == t316)) = some r := H
              have A46 := Aside0.mk A460
              clear A460
              obtain rfl := Option.some.inj H
              go_wp2_with (first | (go_at_call 31; (with_reducible refine (margin_Pair.calls kj5 a1 a0 t312 _ A44.out).mono ?_); rintro e w47 ⟨rfl, hb⟩; have n0_ := Aside0.mk (below_step (by repeat (first | (with_reducible first | exact HB.out | apply below_alloc | apply pw_below_drewN | apply below_drew1) | exact HB.out)) hb); clear HB; have HB := n0_; clear n0_; (try clear hb); (try clear hb2); (try clear hk); (try clear hi)) | ((with_reducible refine gate_dst (N := 55) rfl ?_); (try (refine gate_guard (by rfl) ?_; dsimp only)); refine Kd.R_lit (Kd.int .i64) _ 3 ?hg (N := 55) ?hd (xs := ([a0, a1] : List Int)) (inner := [.int .i64 a0, .int .i64 a1]) (ok := fun _ => True) (okp := fun _ => True) ?hr ?hp (fun _ hk => hk) trivial (Below.refl _ _) (Nat.le_refl _) (by simp) ?_; (case hd => rfl); (case hg => rfl); (case hr => first | (go_simp; done) | (go_simp; rfl)); (case hp => exact (Reps.one (show Kd.M (Kd.int .i64) _ _ _ a0 [.int .i64 a0] from rfl) (Reps.one (show Kd.M (Kd.int .i64) _ _ _ a1 [.int .i64 a1] from rfl) (Reps.none _ _)))); intro v314 w48 ho49 hb hg_ hnew_; clear hg_ hnew_; (first | rw [← Ny313.out] at ho49 | (simp only [Int.reduceToNat] at ho49; rw [← Ny313.out] at ho49)); have n0_ := Aside0.mk (Kd.R_lower ho49 (below_size (by repeat (first | (with_reducible first | exact HB.out | apply below_alloc | apply pw_below_drewN | apply below_drew1) | exact HB.out)))); have n1_ := Aside0.mk (below_step (by repeat (first | (with_reducible first | exact HB.out | apply below_alloc | apply pw_below_drewN | apply below_drew1) | exact HB.out)) hb); clear HB; have HO315 := n0_; have HB := n1_; clear n0_ n1_; clear hb ho49; obtain ⟨Ao50, co50, eo50⟩ := Kd.R_slice HO315.out; subst eo50) | (go_at_call 29; (with_reducible refine (margin_Collapse.calls kj5 _ _ y313 t316 _ ?side1 ?side2 A46.out).mono ?_); (case side1 => repeat (first | exact (Kd.R_reads' HO315.out).2.2 | (with_reducible refine Kd.C_alloc ?_ _) | (with_reducible refine Kd.C_drewN ?_ _) | (with_reducible refine Kd.C_drew ?_))); (case side2 => exact (Kd.R_reads' HO315.out).2.1); rintro e w51 ⟨rfl, hb⟩; have n0_ := Aside0.mk (Kd.R_below (by (with_reducible repeat (first | apply Kd.R_alloc | apply Kd.R_drewN | apply Kd.R_drew)); exact HO315.out) hb); have n1_ := Aside0.mk (below_step (by repeat (first | (with_reducible first | exact HB.out | apply below_alloc | apply pw_below_drewN | apply below_drew1) | exact HB.out)) hb); clear HO315; clear HB; have HO315 := n0_; have HB := n1_; clear n0_ n1_; (try clear hb); (try clear hb2); (try clear hk); (try clear hi)))
              go_ret
              exact ⟨by first | rfl | (simp [errW_none, errW_some] <;> rfl) | (simp [*, errW_none, errW_some] <;> rfl), by repeat (first | (with_reducible first | exact HB.out | apply below_alloc | apply pw_below_drewN | apply below_drew1) | exact HB.out)⟩
            · rw [if_neg c45] at H
              exact absurd H (by simp)
          · exact absurd rfl c43
        · replace c42 := Bool.eq_false_iff.mpr c42
          subst c42
          have H1 : (if a0 ≥ 0 then (valancelaw06_MarginPairs.j1 kj5 a0 a1 true t306 (wrap64 (a0 + a1)) (decide (a1 ≥ 0))) else (valancelaw06_MarginPairs.j1 kj5 a0 a1 true t306 (wrap64 (a0 + a1)) false)) = some r := by rw [if_neg (show ¬ (false = true) by decide)] at H; exact H
          clear H
          have H := H1
          clear H1
          have HC52 := Aside0.mk H
          clear H
          go_upto_region 8 with (fail)
          go_cut [67] (fun v67 wc => ∃ (kq : Nat) (x67_51 : Bool), v67 = .bool x67_51 ∧ Aside0 (valancelaw06_MarginPairs.j1 kq a0 a1 true t306 (wrap64 (a0 + a1)) x67_51 = some r) ∧ Aside0 (kq ≤ kj5) ∧ Aside0 (Below w.heap.size w wc))
          case first =>
            have H := HC52.out
            clear HC52
            by_cases c53 : a0 ≥ 0
            · rw [if_pos c53] at H
              have c53b0 : decide (0 ≤ a0) = true := decide_eq_true c53
              clear c53
              (first | rw [c53b0] | (simp only [i64_w, i32_w]; rw [c53b0]) | skip)
              have H' := Aside0.mk H
              clear H
              go_wp2
              go_meet
              case rel => exact ⟨_, (decide (a1 ≥ 0)), (by first | rfl | (simp; done) | (simp [*]; done)), H', ⟨by have := HJ5.out; first | omega | exact Nat.le_refl _⟩, ⟨by repeat (first | (with_reducible first | exact HB.out | apply below_alloc | apply pw_below_drewN | apply below_drew1) | exact HB.out)⟩⟩
            · rw [if_neg c53] at H
              have c53b0 : decide (0 ≤ a0) = false := decide_eq_false c53
              clear c53
              (first | rw [c53b0] | (simp only [i64_w, i32_w]; rw [c53b0]) | skip)
              have H' := Aside0.mk H
              clear H
              go_wp2
              go_meet
              case rel => exact ⟨_, (false), (by first | rfl | (simp; done) | (simp [*]; done)), H', ⟨by have := HJ5.out; first | omega | exact Nat.le_refl _⟩, ⟨by repeat (first | (with_reducible first | exact HB.out | apply below_alloc | apply pw_below_drewN | apply below_drew1) | exact HB.out)⟩⟩
          case rest =>
            clear HC52
            try clear c1
            try clear c2
            try clear p2
            try clear c3
            try clear c4
            try clear c5
            try clear p6
            try clear c10
            try clear c10b0
            try clear c10b1
            try clear c12
            try clear c12b0
            try clear c12b1
            try clear c13
            try clear c13b0
            try clear c19
            try clear c19b0
            try clear c25
            try clear c25b0
            try clear c26
            try clear c31
            try clear c42
            try clear c43
            try clear c45
            try clear c45b0
            try clear c45b1
            try clear c53
            try clear c53b0
            try clear p2
            obtain ⟨kq, x67_51, rfl, HA, HJ51, HB⟩ := hcut
            cases kq with
            | zero => exact absurd HA.out (by simp [valancelaw06_MarginPairs.j1])
            | succ kj51 =>
              have H := HA.out
              clear HA
              simp only [valancelaw06_MarginPairs.j1] at H
              by_cases c54 : x67_51 = true
              · subst c54
                have H1 : (if a0 ≤ 0 then (if a1 ≤ 0 then (if true = true then (some (t306 == (mn a0 a1))) else (none)) else (if true = true then (some (t306 == (mx a0 a1))) else (none))) else (if true = true then (some (t306 == (mx a0 a1))) else (none))) = some r := by rw [if_pos rfl] at H; exact H
                clear H
                have H := H1
                clear H1
                obtain ⟨ji55, hji55⟩ : ∃ j_ : Int, (mx a0 a1) = j_ := ⟨_, rfl⟩
                replace H : (if a0 ≤ 0 then (if a1 ≤ 0 then (if true = true then (some (t306 == (mn a0 a1))) else (none)) else (if true = true then (some (t306 == (ji55))) else (none))) else (if true = true then (some (t306 == (ji55))) else (none))) = some r := by first | (rw [hji55] at H; exact H) | (simp only [hji55] at H ⊢; exact H)
                have hji55_ : (if a0 < a1 then a1 else a0) = ji55 := hji55
                by_cases c56 : a0 ≤ 0
                · rw [if_pos c56] at H
                  have c56b0 : decide (a0 ≤ 0) = true := decide_eq_true c56
                  clear c56
                  by_cases c57 : a1 ≤ 0
                  · rw [if_pos c57] at H
                    have c57b0 : decide (a1 ≤ 0) = true := decide_eq_true c57
                    clear c57
                    obtain ⟨ji58, hji58⟩ : ∃ j_ : Int, (mn a0 a1) = j_ := ⟨_, rfl⟩
                    replace H : (if true = true then (some (t306 == (ji58))) else (none)) = some r := by first | (rw [hji58] at H; exact H) | (simp only [hji58] at H ⊢; exact H)
                    have hji58_ : (if a1 < a0 then a1 else a0) = ji58 := hji58
                    by_cases c59 : true = true
                    · clear c59
                      have H1 : (some (t306 == (ji58))) = some r := by first | (rw [if_pos rfl] at H; exact H) | (rw [if_pos True.intro] at H; exact H)
                      clear H
                      have H := H1
                      clear H1
                      obtain rfl := Option.some.inj H
                      go_wp2
                      go_ret
                      exact ⟨by first | rfl | (simp [errW_none, errW_some] <;> rfl) | (simp only [← hji55, ← hji58]; first | rfl | (simp [errW_none, errW_some] <;> rfl)) | (simp [*, errW_none, errW_some] <;> rfl), by repeat (first | (with_reducible first | exact HB.out | apply below_alloc | apply pw_below_drewN | apply below_drew1) | exact HB.out)⟩
                    · exact absurd rfl c59
                  · rw [if_neg c57] at H
                    have c57b0 : decide (a1 ≤ 0) = false := decide_eq_false c57
                    clear c57
                    by_cases c60 : true = true
                    · clear c60
                      have H1 : (some (t306 == (ji55))) = some r := by first | (rw [if_pos rfl] at H; exact H) | (rw [if_pos True.intro] at H; exact H)
                      clear H
                      have H := H1
                      clear H1
                      obtain rfl := Option.some.inj H
                      go_wp2
                      go_ret
                      exact ⟨by first | rfl | (simp [errW_none, errW_some] <;> rfl) | (simp only [← hji55]; first | rfl | (simp [errW_none, errW_some] <;> rfl)) | (simp [*, errW_none, errW_some] <;> rfl), by repeat (first | (with_reducible first | exact HB.out | apply below_alloc | apply pw_below_drewN | apply below_drew1) | exact HB.out)⟩
                    · exact absurd rfl c60
                · rw [if_neg c56] at H
                  have c56b0 : decide (a0 ≤ 0) = false := decide_eq_false c56
                  clear c56
                  by_cases c61 : true = true
                  · clear c61
                    have H1 : (some (t306 == (ji55))) = some r := by first | (rw [if_pos rfl] at H; exact H) | (rw [if_pos True.intro] at H; exact H)
                    clear H
                    have H := H1
                    clear H1
                    obtain rfl := Option.some.inj H
                    go_wp2
                    go_ret
                    exact ⟨by first | rfl | (simp [errW_none, errW_some] <;> rfl) | (simp only [← hji55]; first | rfl | (simp [errW_none, errW_some] <;> rfl)) | (simp [*, errW_none, errW_some] <;> rfl), by repeat (first | (with_reducible first | exact HB.out | apply below_alloc | apply pw_below_drewN | apply below_drew1) | exact HB.out)⟩
                  · exact absurd rfl c61
              · replace c54 := Bool.eq_false_iff.mpr c54
                subst c54
                have H1 : (if a0 ≤ 0 then (if a1 ≤ 0 then (if true = true then (some (t306 == (mn a0 a1))) else (none)) else (if true = true then (some (t306 == (wrap64 (a0 + a1)))) else (none))) else (if true = true then (some (t306 == (wrap64 (a0 + a1)))) else (none))) = some r := by rw [if_neg (show ¬ (false = true) by decide)] at H; exact H
                clear H
                have H := H1
                clear H1
                by_cases c62 : a0 ≤ 0
                · rw [if_pos c62] at H
                  have c62b0 : decide (a0 ≤ 0) = true := decide_eq_true c62
                  clear c62
                  by_cases c63 : a1 ≤ 0
                  · rw [if_pos c63] at H
                    have c63b0 : decide (a1 ≤ 0) = true := decide_eq_true c63
                    clear c63
                    obtain ⟨ji64, hji64⟩ : ∃ j_ : Int, (mn a0 a1) = j_ := ⟨_, rfl⟩
                    replace H : (if true = true then (some (t306 == (ji64))) else (none)) = some r := by first | (rw [hji64] at H; exact H) | (simp only [hji64] at H ⊢; exact H)
                    have hji64_ : (if a1 < a0 then a1 else a0) = ji64 := hji64
                    by_cases c65 : true = true
                    · clear c65
                      have H1 : (some (t306 == (ji64))) = some r := by first | (rw [if_pos rfl] at H; exact H) | (rw [if_pos True.intro] at H; exact H)
                      clear H
                      have H := H1
                      clear H1
                      obtain rfl := Option.some.inj H
                      go_wp2
                      go_ret
                      exact ⟨by first | rfl | (simp [errW_none, errW_some] <;> rfl) | (simp only [← hji64]; first | rfl | (simp [errW_none, errW_some] <;> rfl)) | (simp [*, errW_none, errW_some] <;> rfl), by repeat (first | (with_reducible first | exact HB.out | apply below_alloc | apply pw_below_drewN | apply below_drew1) | exact HB.out)⟩
                    · exact absurd rfl c65
                  · rw [if_neg c63] at H
                    have c63b0 : decide (a1 ≤ 0) = false := decide_eq_false c63
                    clear c63
                    by_cases c66 : true = true
                    · clear c66
                      have H1 : (some (t306 == (wrap64 (a0 + a1)))) = some r := by first | (rw [if_pos rfl] at H; exact H) | (rw [if_pos True.intro] at H; exact H)
                      clear H
                      have H := H1
                      clear H1
                      obtain rfl := Option.some.inj H
                      go_wp2
                      go_ret
                      exact ⟨by first | rfl | (simp [errW_none, errW_some] <;> rfl) | (simp [*, errW_none, errW_some] <;> rfl), by repeat (first | (with_reducible first | exact HB.out | apply below_alloc | apply pw_below_drewN | apply below_drew1) | exact HB.out)⟩
                    · exact absurd rfl c66
                · rw [if_neg c62] at H
                  have c62b0 : decide (a0 ≤ 0) = false := decide_eq_false c62
                  clear c62
                  by_cases c67 : true = true
                  · clear c67
                    have H1 : (some (t306 == (wrap64 (a0 + a1)))) = some r := by first | (rw [if_pos rfl] at H; exact H) | (rw [if_pos True.intro] at H; exact H)
                    clear H
                    have H := H1
                    clear H1
                    obtain rfl := Option.some.inj H
                    go_wp2
                    go_ret
                    exact ⟨by first | rfl | (simp [errW_none, errW_some] <;> rfl) | (simp [*, errW_none, errW_some] <;> rfl), by repeat (first | (with_reducible first | exact HB.out | apply below_alloc | apply pw_below_drewN | apply below_drew1) | exact HB.out)⟩
                  · exact absurd rfl c67
  · replace c4 := Bool.eq_false_iff.mpr c4
    subst c4
    have H1 : (none) = some r := by rw [if_neg (show ¬ (false = true) by decide)] at H; exact H
    clear H
    have H := H1
    clear H1
    exact absurd H (by simp)

/-- THE ONE PURE STATEMENT of valancelaw06_MarginPairs: yours. -/
def valancelaw06_MarginPairs.Pure : Prop := ∀ (a0 : Int) (a1 : Int), (Lit.int .i64 a0).wf = true → (Lit.int .i64 a1).wf = true → ∃ k, valancelaw06_MarginPairs.f k a0 a1 = some true
theorem valancelaw06_MarginPairs.walk (P : valancelaw06_MarginPairs.Pure) (a0 : Int) (a1 : Int) (w : World) (w0 : (Lit.int .i64 a0).wf = true) (w1 : (Lit.int .i64 a1).wf = true) :
    Calls Try.prog 13 #[.int .i64 a0, .int .i64 a1] w fun e w' => e = .returned (.bool true) ∧ Below w.heap.size w w' := by
  obtain ⟨k, h⟩ := P a0 a1 w0 w1
  refine (valancelaw06_MarginPairs.calls k a0 a1 true w h).mono ?_
  rintro e w' ⟨rfl, hd⟩
  exact ⟨rfl, hd⟩

end Go.Proofs.Ytnmcefpnpfaklac.V
