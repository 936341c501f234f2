/- What the functions of this seat answer, as plain Lean functions, and that the calls come to just that (written by a program of this repo, over the kit's printer; Lean checks it). -/
import Derived.Test.YtnmcefpnpfaklaaVx0
import Derived.Test.YtnmcefpnpfaklaaVx26
import Derived.Test.YtnmcefpnpfaklaaVx27
import Derived.Test.YtnmcefpnpfaklaaVx28
namespace Go.Proofs.Ytnmcefpnpfaklaa.V
open Go.RowKit Go.Proofs.Ytnmcefpnpfaklaa.Flt Go.Proofs.YtnmcefpnpfaklaaW.PrintWords Go.Proofs.YtnmcefpnpfaklaaW.PrintLast Go.Proofs.YtnmcefpnpfaklaaW.PrintMore
attribute [local go_sem high] run_eql_vpt2 run_neq_vpt2 eqGuard_vpt2 vpt2_zero run_add_vpt2
attribute [local go_sem] max2_int min2_int max_two min_two max_three min_three max_four min_four   -- for this text's walks alone
set_option linter.unusedVariables false
set_option linter.unusedSimpArgs false

/-! ### valancelaw02_PointSums: function 10 -/
def valancelaw02_PointSums.j0 : Nat → Bool → VPt → VPt → Bool → Option (Bool)
  | 0, _, _, _, _ => none
  | k + 1, x9, x10, x11, x12 => (point_Add.f x10 x11).bind fun t203 => (if x9 = true then ((point_Add.f x11 x10).bind fun t204 => (if (veq2 t203 t204) = true then ((point_Sub.f x10 x10).bind fun t205 => (if (veq2 t205 vp0) = true then ((point_Add.f x10 vp0).bind fun t206 => (if (veq2 t206 x10) = true then (if x12 = true then ((point_Sub.f t203 x11).bind fun t207 => (if (veq2 t207 x10) = true then (if vsm2 x10 x11 = true then (some (veq2 t203 (vsum2 x10 x11))) else (none)) else (none))) else (some true)) else (none))) else (none))) else (none))) else (none))
def valancelaw02_PointSums.f (k : Nat) (a0 : Int) (a1 : Int) (a2 : Int) (a3 : Int) : Option (Bool) := (valancelaw02_works.f).bind fun t200 => (if t200 = true then ((point_Of.f a0 a1).bind fun t201 => ((point_Of.f a2 a3).bind fun t202 => (if a0 ≥ (-1073741824) then (if a0 ≤ 1073741824 then (if a1 ≥ (-1073741824) then (if a1 ≤ 1073741824 then (if a2 ≥ (-1073741824) then (if a2 ≤ 1073741824 then (if a3 ≥ (-1073741824) then (valancelaw02_PointSums.j0 k t200 t201 t202 (decide (a3 ≤ 1073741824))) else (valancelaw02_PointSums.j0 k t200 t201 t202 false)) else (valancelaw02_PointSums.j0 k t200 t201 t202 false)) else (valancelaw02_PointSums.j0 k t200 t201 t202 false)) else (valancelaw02_PointSums.j0 k t200 t201 t202 false)) else (valancelaw02_PointSums.j0 k t200 t201 t202 false)) else (valancelaw02_PointSums.j0 k t200 t201 t202 false)) else (valancelaw02_PointSums.j0 k t200 t201 t202 false)))) else (none))
theorem valancelaw02_PointSums.mono_l : ∀ k, (∀ y0 y1 y2 y3, LeO (valancelaw02_PointSums.j0 k y0 y1 y2 y3) (valancelaw02_PointSums.j0 (k + 1) y0 y1 y2 y3))
  | 0 => fun _ _ _ _ r h => by simp [valancelaw02_PointSums.j0] at h
  | k + 1 => by
    have ih0 := valancelaw02_PointSums.mono_l k
    · intro y0 y1 y2 y3
      unfold valancelaw02_PointSums.j0
      repeat' first
      | (with_reducible exact ih0 _ _ _ _)
      | (with_reducible exact LeO.refl _)
      | (with_reducible exact LeO.none _)
      | (with_reducible refine LeO.ite ?_ ?_)
      | (with_reducible refine LeO.bind ?_ (fun _ => ?_))
      | exact ih0 _ _ _ _
      | exact LeO.none _
      | refine LeO.ite ?_ ?_
      | refine LeO.bind ?_ (fun _ => ?_)
theorem valancelaw02_PointSums.mono : ∀ a0 a1 a2 a3 k, LeO (valancelaw02_PointSums.f k a0 a1 a2 a3) (valancelaw02_PointSums.f (k + 1) a0 a1 a2 a3) := by
  intro a0 a1 a2 a3 k
  have ih0 := valancelaw02_PointSums.mono_l k
  unfold valancelaw02_PointSums.f
  repeat' first
      | (with_reducible exact ih0 _ _ _ _)
      | (with_reducible exact LeO.refl _)
      | (with_reducible exact LeO.none _)
      | (with_reducible refine LeO.ite ?_ ?_)
      | (with_reducible refine LeO.bind ?_ (fun _ => ?_))
      | exact ih0 _ _ _ _
      | exact LeO.none _
      | refine LeO.ite ?_ ?_
      | refine LeO.bind ?_ (fun _ => ?_)
set_option maxHeartbeats 8000000 in
set_option maxRecDepth 100000 in
theorem valancelaw02_PointSums.calls (k : Nat) (a0 : Int) (a1 : Int) (a2 : Int) (a3 : Int) (r : Bool) (w : World) (h : valancelaw02_PointSums.f k a0 a1 a2 a3 = some r) :
    Calls Try.prog 10 #[.int .i64 a0, .int .i64 a1, .int .i64 a2, .int .i64 a3] w fun e w' => e = .returned (.bool r) ∧ Below w.heap.size w w' := by
  have HB := Aside0.mk (Below.refl w.heap.size w)
  have H : ((valancelaw02_works.f).bind fun t200 => (if t200 = true then ((point_Of.f a0 a1).bind fun t201 => ((point_Of.f a2 a3).bind fun t202 => (if a0 ≥ (-1073741824) then (if a0 ≤ 1073741824 then (if a1 ≥ (-1073741824) then (if a1 ≤ 1073741824 then (if a2 ≥ (-1073741824) then (if a2 ≤ 1073741824 then (if a3 ≥ (-1073741824) then (valancelaw02_PointSums.j0 k t200 t201 t202 (decide (a3 ≤ 1073741824))) else (valancelaw02_PointSums.j0 k t200 t201 t202 false)) else (valancelaw02_PointSums.j0 k t200 t201 t202 false)) else (valancelaw02_PointSums.j0 k t200 t201 t202 false)) else (valancelaw02_PointSums.j0 k t200 t201 t202 false)) else (valancelaw02_PointSums.j0 k t200 t201 t202 false)) else (valancelaw02_PointSums.j0 k t200 t201 t202 false)) else (valancelaw02_PointSums.j0 k t200 t201 t202 false)))) else (none))) = some r := h
  clear h
  replace H := Option.bind_eq_some_iff.mp H
  obtain ⟨t200, A50, H⟩ := H
  replace H : (if t200 = true then ((point_Of.f a0 a1).bind fun t201 => ((point_Of.f a2 a3).bind fun t202 => (if a0 ≥ (-1073741824) then (if a0 ≤ 1073741824 then (if a1 ≥ (-1073741824) then (if a1 ≤ 1073741824 then (if a2 ≥ (-1073741824) then (if a2 ≤ 1073741824 then (if a3 ≥ (-1073741824) then (valancelaw02_PointSums.j0 k t200 t201 t202 (decide (a3 ≤ 1073741824))) else (valancelaw02_PointSums.j0 k t200 t201 t202 false)) else (valancelaw02_PointSums.j0 k t200 t201 t202 false)) else (valancelaw02_PointSums.j0 k t200 t201 t202 false)) else (valancelaw02_PointSums.j0 k t200 t201 t202 false)) else (valancelaw02_PointSums.j0 k t200 t201 t202 false)) else (valancelaw02_PointSums.j0 k t200 t201 t202 false)) else (valancelaw02_PointSums.j0 k t200 t201 t202 false)))) else (none)) = some r := H
  have A5 := Aside0.mk A50
  clear A50
  by_cases c6 : t200 = true
  · subst c6
    have H1 : ((point_Of.f a0 a1).bind fun t201 => ((point_Of.f a2 a3).bind fun t202 => (if a0 ≥ (-1073741824) then (if a0 ≤ 1073741824 then (if a1 ≥ (-1073741824) then (if a1 ≤ 1073741824 then (if a2 ≥ (-1073741824) then (if a2 ≤ 1073741824 then (if a3 ≥ (-1073741824) then (valancelaw02_PointSums.j0 k true t201 t202 (decide (a3 ≤ 1073741824))) else (valancelaw02_PointSums.j0 k true t201 t202 false)) else (valancelaw02_PointSums.j0 k true t201 t202 false)) else (valancelaw02_PointSums.j0 k true t201 t202 false)) else (valancelaw02_PointSums.j0 k true t201 t202 false)) else (valancelaw02_PointSums.j0 k true t201 t202 false)) else (valancelaw02_PointSums.j0 k true t201 t202 false)) else (valancelaw02_PointSums.j0 k true t201 t202 false)))) = some r := by rw [if_pos rfl] at H; exact H
    clear H
    have H := H1
    clear H1
    replace H := Option.bind_eq_some_iff.mp H
    obtain ⟨t201, A70, H⟩ := H
    replace H : ((point_Of.f a2 a3).bind fun t202 => (if a0 ≥ (-1073741824) then (if a0 ≤ 1073741824 then (if a1 ≥ (-1073741824) then (if a1 ≤ 1073741824 then (if a2 ≥ (-1073741824) then (if a2 ≤ 1073741824 then (if a3 ≥ (-1073741824) then (valancelaw02_PointSums.j0 k true t201 t202 (decide (a3 ≤ 1073741824))) else (valancelaw02_PointSums.j0 k true t201 t202 false)) else (valancelaw02_PointSums.j0 k true t201 t202 false)) else (valancelaw02_PointSums.j0 k true t201 t202 false)) else (valancelaw02_PointSums.j0 k true t201 t202 false)) else (valancelaw02_PointSums.j0 k true t201 t202 false)) else (valancelaw02_PointSums.j0 k true t201 t202 false)) else (valancelaw02_PointSums.j0 k true t201 t202 false))) = some r := H
    have A7 := Aside0.mk A70
    clear A70
    replace H := Option.bind_eq_some_iff.mp H
    obtain ⟨t202, A80, H⟩ := H
    replace H : (if a0 ≥ (-1073741824) then (if a0 ≤ 1073741824 then (if a1 ≥ (-1073741824) then (if a1 ≤ 1073741824 then (if a2 ≥ (-1073741824) then (if a2 ≤ 1073741824 then (if a3 ≥ (-1073741824) then (valancelaw02_PointSums.j0 k true t201 t202 (decide (a3 ≤ 1073741824))) else (valancelaw02_PointSums.j0 k true t201 t202 false)) else (valancelaw02_PointSums.j0 k true t201 t202 false)) else (valancelaw02_PointSums.j0 k true t201 t202 false)) else (valancelaw02_PointSums.j0 k true t201 t202 false)) else (valancelaw02_PointSums.j0 k true t201 t202 false)) else (valancelaw02_PointSums.j0 k true t201 t202 false)) else (valancelaw02_PointSums.j0 k true t201 t202 false)) = some r := H
    have A8 := Aside0.mk A80
    clear A80
    have HC9 := Aside0.mk H
    clear H
    go_enter Try.func10, Try.ntmps10
    go_upto_region 6 with (first | ((with_reducible refine gate_callee (f := 23) rfl ?_); refine goesL_ (some 14) rfl rfl Try.func23 (by kernel_rfl) rfl #[] rfl (by (try simp only [List.map_toArray, List.map_cons, List.map_nil]); first | done | rfl | (simp only [List.length_drop, List.length_take]; rfl)) ?_; (with_reducible refine (valancelaw02_works.calls  true _ A5.out).mono ?_); rintro e w10 ⟨rfl, hb⟩; refine ⟨_, rfl, ?_⟩; have n0_ := Aside0.mk (below_step (by repeat (first | (with_reducible first | exact HB.out | apply below_alloc | apply pw_below_drewN | apply below_drew1) | exact HB.out)) hb); clear HB; have HB := n0_; clear n0_; (try clear hb); (try clear hb2); (try clear hk); (try clear hi)) | ((with_reducible refine gate_callee (f := 24) rfl ?_); refine goesL_ (some 19) rfl rfl Try.func24 (by kernel_rfl) rfl #[.int .i64 a0, .int .i64 a1] rfl (by (try simp only [List.map_toArray, List.map_cons, List.map_nil]); first | done | rfl | (simp only [List.length_drop, List.length_take]; rfl)) ?_; (with_reducible refine (point_Of.calls a0 a1 t201 _ A7.out).mono ?_); rintro e w11 ⟨rfl, hb⟩; refine ⟨_, rfl, ?_⟩; have n0_ := Aside0.mk (below_step (by repeat (first | (with_reducible first | exact HB.out | apply below_alloc | apply pw_below_drewN | apply below_drew1) | exact HB.out)) hb); clear HB; have HB := n0_; clear n0_; (try clear hb); (try clear hb2); (try clear hk); (try clear hi)) | ((with_reducible refine gate_callee (f := 24) rfl ?_); refine goesL_ (some 22) rfl rfl Try.func24 (by kernel_rfl) rfl #[.int .i64 a2, .int .i64 a3] rfl (by (try simp only [List.map_toArray, List.map_cons, List.map_nil]); first | done | rfl | (simp only [List.length_drop, List.length_take]; rfl)) ?_; (with_reducible refine (point_Of.calls a2 a3 t202 _ A8.out).mono ?_); rintro e w12 ⟨rfl, hb⟩; refine ⟨_, rfl, ?_⟩; have n0_ := Aside0.mk (below_step (by repeat (first | (with_reducible first | exact HB.out | apply below_alloc | apply pw_below_drewN | apply below_drew1) | exact HB.out)) hb); clear HB; have HB := n0_; clear n0_; (try clear hb); (try clear hb2); (try clear hk); (try clear hi)))
    (try simp only [Act.put, List.setIfInBounds_toArray, List.set_cons_zero, List.set_cons_succ])
    go_cut [12] (fun v12 wc => ∃ (kq : Nat) (x12_8 : Bool), v12 = .bool x12_8 ∧ Aside0 (valancelaw02_PointSums.j0 kq true t201 t202 x12_8 = some r) ∧ Aside0 (kq ≤ k) ∧ Aside0 (Below w.heap.size w wc))
    case first =>
      have H := HC9.out
      clear HC9
      by_cases c13 : a0 ≥ (-1073741824)
      · rw [if_pos c13] at H
        have c13b0 : decide ((-1073741824) ≤ a0) = true := decide_eq_true c13
        clear c13
        (first | rw [c13b0] | (simp only [i64_w, i32_w]; rw [c13b0]) | skip)
        by_cases c14 : a0 ≤ 1073741824
        · rw [if_pos c14] at H
          have c14b0 : decide (a0 ≤ 1073741824) = true := decide_eq_true c14
          clear c14
          by_cases c15 : a1 ≥ (-1073741824)
          · rw [if_pos c15] at H
            have c15b0 : decide ((-1073741824) ≤ a1) = true := decide_eq_true c15
            clear c15
            by_cases c16 : a1 ≤ 1073741824
            · rw [if_pos c16] at H
              have c16b0 : decide (a1 ≤ 1073741824) = true := decide_eq_true c16
              clear c16
              by_cases c17 : a2 ≥ (-1073741824)
              · rw [if_pos c17] at H
                have c17b0 : decide ((-1073741824) ≤ a2) = true := decide_eq_true c17
                clear c17
                by_cases c18 : a2 ≤ 1073741824
                · rw [if_pos c18] at H
                  have c18b0 : decide (a2 ≤ 1073741824) = true := decide_eq_true c18
                  clear c18
                  by_cases c19 : a3 ≥ (-1073741824)
                  · rw [if_pos c19] at H
                    have c19b0 : decide ((-1073741824) ≤ a3) = true := decide_eq_true c19
                    clear c19
                    have H' := Aside0.mk H
                    clear H
                    go_wp2
                    go_meet
                    case rel => exact ⟨_, (decide (a3 ≤ 1073741824)), (by first | rfl | (simp; done) | (simp [*]; done)), H', ⟨by first | omega | exact Nat.le_refl _⟩, ⟨by repeat (first | (with_reducible first | exact HB.out | apply below_alloc | apply pw_below_drewN | apply below_drew1) | exact HB.out)⟩⟩
                  · rw [if_neg c19] at H
                    have c19b0 : decide ((-1073741824) ≤ a3) = false := decide_eq_false c19
                    clear c19
                    have H' := Aside0.mk H
                    clear H
                    go_wp2
                    go_meet
                    case rel => exact ⟨_, (false), (by first | rfl | (simp; done) | (simp [*]; done)), H', ⟨by first | omega | exact Nat.le_refl _⟩, ⟨by repeat (first | (with_reducible first | exact HB.out | apply below_alloc | apply pw_below_drewN | apply below_drew1) | exact HB.out)⟩⟩
                · rw [if_neg c18] at H
                  have c18b0 : decide (a2 ≤ 1073741824) = false := decide_eq_false c18
                  clear c18
                  have H' := Aside0.mk H
                  clear H
                  go_wp2
                  go_meet
                  case rel => exact ⟨_, (false), (by first | rfl | (simp; done) | (simp [*]; done)), H', ⟨by first | omega | exact Nat.le_refl _⟩, ⟨by repeat (first | (with_reducible first | exact HB.out | apply below_alloc | apply pw_below_drewN | apply below_drew1) | exact HB.out)⟩⟩
              · rw [if_neg c17] at H
                have c17b0 : decide ((-1073741824) ≤ a2) = false := decide_eq_false c17
                clear c17
                have H' := Aside0.mk H
                clear H
                go_wp2
                go_meet
                case rel => exact ⟨_, (false), (by first | rfl | (simp; done) | (simp [*]; done)), H', ⟨by first | omega | exact Nat.le_refl _⟩, ⟨by repeat (first | (with_reducible first | exact HB.out | apply below_alloc | apply pw_below_drewN | apply below_drew1) | exact HB.out)⟩⟩
            · rw [if_neg c16] at H
              have c16b0 : decide (a1 ≤ 1073741824) = false := decide_eq_false c16
              clear c16
              have H' := Aside0.mk H
              clear H
              go_wp2
              go_meet
              case rel => exact ⟨_, (false), (by first | rfl | (simp; done) | (simp [*]; done)), H', ⟨by first | omega | exact Nat.le_refl _⟩, ⟨by repeat (first | (with_reducible first | exact HB.out | apply below_alloc | apply pw_below_drewN | apply below_drew1) | exact HB.out)⟩⟩
          · rw [if_neg c15] at H
            have c15b0 : decide ((-1073741824) ≤ a1) = false := decide_eq_false c15
            clear c15
            have H' := Aside0.mk H
            clear H
            go_wp2
            go_meet
            case rel => exact ⟨_, (false), (by first | rfl | (simp; done) | (simp [*]; done)), H', ⟨by first | omega | exact Nat.le_refl _⟩, ⟨by repeat (first | (with_reducible first | exact HB.out | apply below_alloc | apply pw_below_drewN | apply below_drew1) | exact HB.out)⟩⟩
        · rw [if_neg c14] at H
          have c14b0 : decide (a0 ≤ 1073741824) = false := decide_eq_false c14
          clear c14
          have H' := Aside0.mk H
          clear H
          go_wp2
          go_meet
          case rel => exact ⟨_, (false), (by first | rfl | (simp; done) | (simp [*]; done)), H', ⟨by first | omega | exact Nat.le_refl _⟩, ⟨by repeat (first | (with_reducible first | exact HB.out | apply below_alloc | apply pw_below_drewN | apply below_drew1) | exact HB.out)⟩⟩
      · rw [if_neg c13] at H
        have c13b0 : decide ((-1073741824) ≤ a0) = false := decide_eq_false c13
        clear c13
        (first | rw [c13b0] | (simp only [i64_w, i32_w]; rw [c13b0]) | skip)
        have H' := Aside0.mk H
        clear H
        go_wp2
        go_meet
        case rel => exact ⟨_, (false), (by first | rfl | (simp; done) | (simp [*]; done)), H', ⟨by first | omega | exact Nat.le_refl _⟩, ⟨by repeat (first | (with_reducible first | exact HB.out | apply below_alloc | apply pw_below_drewN | apply below_drew1) | exact HB.out)⟩⟩
    case rest =>
      clear HC9
      try clear c1
      try clear c2
      try clear p2
      try clear c6
      try clear c10
      try clear c13
      try clear c13b0
      try clear c14
      try clear c14b0
      try clear c15
      try clear c15b0
      try clear c16
      try clear c16b0
      try clear c17
      try clear c17b0
      try clear c18
      try clear c18b0
      try clear c19
      try clear c19b0
      obtain ⟨kq, x12_8, rfl, HA, HJ8, HB⟩ := hcut
      cases kq with
      | zero => exact absurd HA.out (by simp [valancelaw02_PointSums.j0])
      | succ kj8 =>
        have H := HA.out
        clear HA
        simp only [valancelaw02_PointSums.j0] at H
        replace H := Option.bind_eq_some_iff.mp H
        obtain ⟨t203, A200, H⟩ := H
        replace H : (if true = true then ((point_Add.f t202 t201).bind fun t204 => (if (veq2 t203 t204) = true then ((point_Sub.f t201 t201).bind fun t205 => (if (veq2 t205 vp0) = true then ((point_Add.f t201 vp0).bind fun t206 => (if (veq2 t206 t201) = true then (if x12_8 = true then ((point_Sub.f t203 t202).bind fun t207 => (if (veq2 t207 t201) = true then (if vsm2 t201 t202 = true then (some (veq2 t203 (vsum2 t201 t202))) else (none)) else (none))) else (some true)) else (none))) else (none))) else (none))) else (none)) = some r := H
        have A20 := Aside0.mk A200
        clear A200
        by_cases c21 : true = true
        · clear c21
          have H1 : ((point_Add.f t202 t201).bind fun t204 => (if (veq2 t203 t204) = true then ((point_Sub.f t201 t201).bind fun t205 => (if (veq2 t205 vp0) = true then ((point_Add.f t201 vp0).bind fun t206 => (if (veq2 t206 t201) = true then (if x12_8 = true then ((point_Sub.f t203 t202).bind fun t207 => (if (veq2 t207 t201) = true then (if vsm2 t201 t202 = true then (some (veq2 t203 (vsum2 t201 t202))) else (none)) else (none))) else (some true)) else (none))) else (none))) else (none))) = some r := by first | (rw [if_pos rfl] at H; exact H) | (rw [if_pos True.intro] at H; exact H)
          clear H
          have H := H1
          clear H1
          replace H := Option.bind_eq_some_iff.mp H
          obtain ⟨t204, A220, H⟩ := H
          replace H : (if (veq2 t203 t204) = true then ((point_Sub.f t201 t201).bind fun t205 => (if (veq2 t205 vp0) = true then ((point_Add.f t201 vp0).bind fun t206 => (if (veq2 t206 t201) = true then (if x12_8 = true then ((point_Sub.f t203 t202).bind fun t207 => (if (veq2 t207 t201) = true then (if vsm2 t201 t202 = true then (some (veq2 t203 (vsum2 t201 t202))) else (none)) else (none))) else (some true)) else (none))) else (none))) else (none)) = some r := H
          have A22 := Aside0.mk A220
          clear A220
          by_cases c23 : (veq2 t203 t204) = true
          · rw [if_pos c23] at H
            have c23b0 : (veq2 t203 t204) = true := c23
            clear c23
            replace H := Option.bind_eq_some_iff.mp H
            obtain ⟨t205, A240, H⟩ := H
            replace H : (if (veq2 t205 vp0) = true then ((point_Add.f t201 vp0).bind fun t206 => (if (veq2 t206 t201) = true then (if x12_8 = true then ((point_Sub.f t203 t202).bind fun t207 => (if (veq2 t207 t201) = true then (if vsm2 t201 t202 = true then (some (veq2 t203 (vsum2 t201 t202))) else (none)) else (none))) else (some true)) else (none))) else (none)) = some r := H
            have A24 := Aside0.mk A240
            clear A240
            by_cases c25 : (veq2 t205 vp0) = true
            · rw [if_pos c25] at H
              have c25b0 : (veq2 t205 vp0) = true := c25
              clear c25
              replace H := Option.bind_eq_some_iff.mp H
              obtain ⟨t206, A260, H⟩ := H
              replace H : (if (veq2 t206 t201) = true then (if x12_8 = true then ((point_Sub.f t203 t202).bind fun t207 => (if (veq2 t207 t201) = true then (if vsm2 t201 t202 = true then (some (veq2 t203 (vsum2 t201 t202))) else (none)) else (none))) else (some true)) else (none)) = some r := H
              have A26 := Aside0.mk A260
              clear A260
              by_cases c27 : (veq2 t206 t201) = true
              · rw [if_pos c27] at H
                have c27b0 : (veq2 t206 t201) = true := c27
                clear c27
                by_cases c28 : x12_8 = true
                · subst c28
                  have H1 : ((point_Sub.f t203 t202).bind fun t207 => (if (veq2 t207 t201) = true then (if vsm2 t201 t202 = true then (some (veq2 t203 (vsum2 t201 t202))) else (none)) else (none))) = some r := by first | (rw [if_pos rfl] at H; exact H) | (rw [if_pos True.intro] at H; exact H)
                  clear H
                  have H := H1
                  clear H1
                  replace H := Option.bind_eq_some_iff.mp H
                  obtain ⟨t207, A290, H⟩ := H
                  replace H : (if (veq2 t207 t201) = true then (if vsm2 t201 t202 = true then (some (veq2 t203 (vsum2 t201 t202))) else (none)) else (none)) = some r := H
                  have A29 := Aside0.mk A290
                  clear A290
                  by_cases c30 : (veq2 t207 t201) = true
                  · rw [if_pos c30] at H
                    have c30b0 : (veq2 t207 t201) = true := c30
                    clear c30
                    by_cases c31 : vsm2 t201 t202 = true
                    · rw [if_pos c31] at H
                      have c31b0 := eq_true c31
                      have c31b1 : decide (vsm2 t201 t202 = true) = true := decide_eq_true c31
                      clear c31
                      obtain rfl := Option.some.inj H
                      go_wp2_with (first | ((with_reducible refine gate_callee (f := 25) rfl ?_); refine goesL_ (some 55) rfl rfl Try.func25 (by kernel_rfl) rfl #[vpt2 t201, vpt2 t202] rfl (by (try simp only [List.map_toArray, List.map_cons, List.map_nil]); first | done | rfl | (simp only [List.length_drop, List.length_take]; rfl)) ?_; (with_reducible refine (point_Add.calls t201 t202 t203 _ A20.out).mono ?_); rintro e w32 ⟨rfl, hb⟩; refine ⟨_, rfl, ?_⟩; have n0_ := Aside0.mk (below_step (by repeat (first | (with_reducible first | exact HB.out | apply below_alloc | apply pw_below_drewN | apply below_drew1) | exact HB.out)) hb); clear HB; have HB := n0_; clear n0_; (try clear hb); (try clear hb2); (try clear hk); (try clear hi)) | (go_at_call 25; (with_reducible refine (point_Add.calls t202 t201 t204 _ A22.out).mono ?_); rintro e w33 ⟨rfl, hb⟩; have n0_ := Aside0.mk (below_step (by repeat (first | (with_reducible first | exact HB.out | apply below_alloc | apply pw_below_drewN | apply below_drew1) | exact HB.out)) hb); clear HB; have HB := n0_; clear n0_; (try clear hb); (try clear hb2); (try clear hk); (try clear hi)) | (go_at_call 26; (with_reducible refine (point_Sub.calls t201 t201 t205 _ A24.out).mono ?_); rintro e w34 ⟨rfl, hb⟩; have n0_ := Aside0.mk (below_step (by repeat (first | (with_reducible first | exact HB.out | apply below_alloc | apply pw_below_drewN | apply below_drew1) | exact HB.out)) hb); clear HB; have HB := n0_; clear n0_; (try clear hb); (try clear hb2); (try clear hk); (try clear hi)) | (go_at_call 25; (with_reducible refine (point_Add.calls t201 vp0 t206 _ A26.out).mono ?_); rintro e w35 ⟨rfl, hb⟩; have n0_ := Aside0.mk (below_step (by repeat (first | (with_reducible first | exact HB.out | apply below_alloc | apply pw_below_drewN | apply below_drew1) | exact HB.out)) hb); clear HB; have HB := n0_; clear n0_; (try clear hb); (try clear hb2); (try clear hk); (try clear hi)) | (go_at_call 26; (with_reducible refine (point_Sub.calls t203 t202 t207 _ A29.out).mono ?_); rintro e w36 ⟨rfl, hb⟩; have n0_ := Aside0.mk (below_step (by repeat (first | (with_reducible first | exact HB.out | apply below_alloc | apply pw_below_drewN | apply below_drew1) | exact HB.out)) hb); clear HB; have HB := n0_; clear n0_; (try clear hb); (try clear hb2); (try clear hk); (try clear hi)))
                      go_ret
                      exact ⟨by first | rfl | (simp [errW_none, errW_some] <;> rfl) | (simp [*, errW_none, errW_some] <;> rfl), by repeat (first | (with_reducible first | exact HB.out | apply below_alloc | apply pw_below_drewN | apply below_drew1) | exact HB.out)⟩
                    · rw [if_neg c31] at H
                      exact absurd H (by simp)
                  · rw [if_neg c30] at H
                    exact absurd H (by simp)
                · replace c28 := Bool.eq_false_iff.mpr c28
                  subst c28
                  have H1 : (some true) = some r := by rw [if_neg (show ¬ (false = true) by decide)] at H; exact H
                  clear H
                  have H := H1
                  clear H1
                  obtain rfl := Option.some.inj H
                  go_wp2_with (first | ((with_reducible refine gate_callee (f := 25) rfl ?_); refine goesL_ (some 55) rfl rfl Try.func25 (by kernel_rfl) rfl #[vpt2 t201, vpt2 t202] rfl (by (try simp only [List.map_toArray, List.map_cons, List.map_nil]); first | done | rfl | (simp only [List.length_drop, List.length_take]; rfl)) ?_; (with_reducible refine (point_Add.calls t201 t202 t203 _ A20.out).mono ?_); rintro e w37 ⟨rfl, hb⟩; refine ⟨_, rfl, ?_⟩; have n0_ := Aside0.mk (below_step (by repeat (first | (with_reducible first | exact HB.out | apply below_alloc | apply pw_below_drewN | apply below_drew1) | exact HB.out)) hb); clear HB; have HB := n0_; clear n0_; (try clear hb); (try clear hb2); (try clear hk); (try clear hi)) | (go_at_call 25; (with_reducible refine (point_Add.calls t202 t201 t204 _ A22.out).mono ?_); rintro e w38 ⟨rfl, hb⟩; have n0_ := Aside0.mk (below_step (by repeat (first | (with_reducible first | exact HB.out | apply below_alloc | apply pw_below_drewN | apply below_drew1) | exact HB.out)) hb); clear HB; have HB := n0_; clear n0_; (try clear hb); (try clear hb2); (try clear hk); (try clear hi)) | (go_at_call 26; (with_reducible refine (point_Sub.calls t201 t201 t205 _ A24.out).mono ?_); rintro e w39 ⟨rfl, hb⟩; have n0_ := Aside0.mk (below_step (by repeat (first | (with_reducible first | exact HB.out | apply below_alloc | apply pw_below_drewN | apply below_drew1) | exact HB.out)) hb); clear HB; have HB := n0_; clear n0_; (try clear hb); (try clear hb2); (try clear hk); (try clear hi)) | (go_at_call 25; (with_reducible refine (point_Add.calls t201 vp0 t206 _ A26.out).mono ?_); rintro e w40 ⟨rfl, hb⟩; have n0_ := Aside0.mk (below_step (by repeat (first | (with_reducible first | exact HB.out | apply below_alloc | apply pw_below_drewN | apply below_drew1) | exact HB.out)) hb); clear HB; have HB := n0_; clear n0_; (try clear hb); (try clear hb2); (try clear hk); (try clear hi)))
                  go_ret
                  exact ⟨by first | rfl | (simp [errW_none, errW_some] <;> rfl) | (simp [*, errW_none, errW_some] <;> rfl), by repeat (first | (with_reducible first | exact HB.out | apply below_alloc | apply pw_below_drewN | apply below_drew1) | exact HB.out)⟩
              · rw [if_neg c27] at H
                exact absurd H (by simp)
            · rw [if_neg c25] at H
              exact absurd H (by simp)
          · rw [if_neg c23] at H
            exact absurd H (by simp)
        · exact absurd rfl c21
  · replace c6 := Bool.eq_false_iff.mpr c6
    subst c6
    have H1 : (none) = some r := by rw [if_neg (show ¬ (false = true) by decide)] at H; exact H
    clear H
    have H := H1
    clear H1
    exact absurd H (by simp)

/-- THE ONE PURE STATEMENT of valancelaw02_PointSums: yours. -/
def valancelaw02_PointSums.Pure : Prop := ∀ (a0 : Int) (a1 : Int) (a2 : Int) (a3 : Int), (Lit.int .i64 a0).wf = true → (Lit.int .i64 a1).wf = true → (Lit.int .i64 a2).wf = true → (Lit.int .i64 a3).wf = true → ∃ k, valancelaw02_PointSums.f k a0 a1 a2 a3 = some true
theorem valancelaw02_PointSums.walk (P : valancelaw02_PointSums.Pure) (a0 : Int) (a1 : Int) (a2 : Int) (a3 : Int) (w : World) (w0 : (Lit.int .i64 a0).wf = true) (w1 : (Lit.int .i64 a1).wf = true) (w2 : (Lit.int .i64 a2).wf = true) (w3 : (Lit.int .i64 a3).wf = true) :
    Calls Try.prog 10 #[.int .i64 a0, .int .i64 a1, .int .i64 a2, .int .i64 a3] w fun e w' => e = .returned (.bool true) ∧ Below w.heap.size w w' := by
  obtain ⟨k, h⟩ := P a0 a1 a2 a3 w0 w1 w2 w3
  refine (valancelaw02_PointSums.calls k a0 a1 a2 a3 true w h).mono ?_
  rintro e w' ⟨rfl, hd⟩
  exact ⟨rfl, hd⟩

end Go.Proofs.Ytnmcefpnpfaklaa.V
