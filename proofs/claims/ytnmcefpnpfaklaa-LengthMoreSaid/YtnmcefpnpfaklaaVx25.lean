/- What the functions of this seat answer, as plain Lean functions, and that the calls come to just that (written by a program of this repo, over the kit's printer; Lean checks it). -/
import Derived.Test.YtnmcefpnpfaklaaVx0
import Derived.Test.YtnmcefpnpfaklaaVx8
import Derived.Test.YtnmcefpnpfaklaaVx9
namespace Go.Proofs.Ytnmcefpnpfaklaa.V
open Go.RowKit Go.Proofs.YtnmcefpnpfaklaaW.PrintWords Go.Proofs.YtnmcefpnpfaklaaW.PrintLast Go.Proofs.YtnmcefpnpfaklaaW.PrintMore
attribute [local go_sem] max2_int min2_int max_two min_two max_three min_three max_four min_four   -- for this text's walks alone
set_option linter.unusedVariables false
set_option linter.unusedSimpArgs false

/-! ### valancelaw05_LengthMore: function 9 -/
def valancelaw05_LengthMore.j0 : Nat → Int → Int → Int → Int → Int → Bool → Bool → Option (Bool)
  | 0, _, _, _, _, _, _, _ => none
  | k + 1, x0, x1, x2, x3, x4, x11, x47 => if x47 = true then (some x11) else ((length_Limit.f x0 1 x1 1 x2 x4).bind fun t208 => ((length_Limit.f x0 1 (wrap64 (x1 + x3)) 1 x2 x4).bind fun t209 => ((length_Limit.f x0 1 x1 1 (wrap64 (x2 + x3)) x4).bind fun t210 => (if x11 = true then (if t208 ≤ t209 then (if t208 ≤ t210 then ((length_Limit.f x0 0 0 0 0 x4).bind fun t211 => (some (t211 == (mx x0 0)))) else (none)) else (none)) else (none)))))
def valancelaw05_LengthMore.f (k : Nat) (a0 : Int) (a1 : Int) (a2 : Int) (a3 : Int) (a4 : Int) : Option (Bool) := (valancelaw05_works.f).bind fun t207 => (if t207 = true then (if a0 < (-1073741824) then (valancelaw05_LengthMore.j0 k a0 a1 a2 a3 a4 t207 true) else (if a0 > 1073741824 then (valancelaw05_LengthMore.j0 k a0 a1 a2 a3 a4 t207 true) else (if a1 < (-1073741824) then (valancelaw05_LengthMore.j0 k a0 a1 a2 a3 a4 t207 true) else (if a1 > 1073741824 then (valancelaw05_LengthMore.j0 k a0 a1 a2 a3 a4 t207 true) else (if a2 < (-1073741824) then (valancelaw05_LengthMore.j0 k a0 a1 a2 a3 a4 t207 true) else (if a2 > 1073741824 then (valancelaw05_LengthMore.j0 k a0 a1 a2 a3 a4 t207 true) else (if a3 < 0 then (valancelaw05_LengthMore.j0 k a0 a1 a2 a3 a4 t207 true) else (valancelaw05_LengthMore.j0 k a0 a1 a2 a3 a4 t207 (decide (a3 > 1073741824)))))))))) else (none))
theorem valancelaw05_LengthMore.mono_l : ∀ k, (∀ y0 y1 y2 y3 y4 y5 y6, LeO (valancelaw05_LengthMore.j0 k y0 y1 y2 y3 y4 y5 y6) (valancelaw05_LengthMore.j0 (k + 1) y0 y1 y2 y3 y4 y5 y6))
  | 0 => fun _ _ _ _ _ _ _ r h => by simp [valancelaw05_LengthMore.j0] at h
  | k + 1 => by
    have ih0 := valancelaw05_LengthMore.mono_l k
    · intro y0 y1 y2 y3 y4 y5 y6
      unfold valancelaw05_LengthMore.j0
      repeat' first
      | (with_reducible exact ih0 _ _ _ _ _ _ _)
      | (with_reducible exact LeO.refl _)
      | (with_reducible exact LeO.none _)
      | (with_reducible refine LeO.ite ?_ ?_)
      | (with_reducible refine LeO.bind ?_ (fun _ => ?_))
      | exact ih0 _ _ _ _ _ _ _
      | exact LeO.none _
      | refine LeO.ite ?_ ?_
      | refine LeO.bind ?_ (fun _ => ?_)
theorem valancelaw05_LengthMore.mono : ∀ a0 a1 a2 a3 a4 k, LeO (valancelaw05_LengthMore.f k a0 a1 a2 a3 a4) (valancelaw05_LengthMore.f (k + 1) a0 a1 a2 a3 a4) := by
  intro a0 a1 a2 a3 a4 k
  have ih0 := valancelaw05_LengthMore.mono_l k
  unfold valancelaw05_LengthMore.f
  repeat' first
      | (with_reducible exact ih0 _ _ _ _ _ _ _)
      | (with_reducible exact LeO.refl _)
      | (with_reducible exact LeO.none _)
      | (with_reducible refine LeO.ite ?_ ?_)
      | (with_reducible refine LeO.bind ?_ (fun _ => ?_))
      | exact ih0 _ _ _ _ _ _ _
      | exact LeO.none _
      | refine LeO.ite ?_ ?_
      | refine LeO.bind ?_ (fun _ => ?_)
set_option maxHeartbeats 8000000 in
set_option maxRecDepth 100000 in
theorem valancelaw05_LengthMore.calls (k : Nat) (a0 : Int) (a1 : Int) (a2 : Int) (a3 : Int) (a4 : Int) (r : Bool) (w : World) (h : valancelaw05_LengthMore.f k a0 a1 a2 a3 a4 = some r) :
    Calls Try.prog 9 #[.int .i64 a0, .int .i64 a1, .int .i64 a2, .int .i64 a3, .int .i64 a4] w fun e w' => e = .returned (.bool r) ∧ Below w.heap.size w w' := by
  have hu24 := Try.underlying24
  have HB := Aside0.mk (Below.refl w.heap.size w)
  have H : ((valancelaw05_works.f).bind fun t207 => (if t207 = true then (if a0 < (-1073741824) then (valancelaw05_LengthMore.j0 k a0 a1 a2 a3 a4 t207 true) else (if a0 > 1073741824 then (valancelaw05_LengthMore.j0 k a0 a1 a2 a3 a4 t207 true) else (if a1 < (-1073741824) then (valancelaw05_LengthMore.j0 k a0 a1 a2 a3 a4 t207 true) else (if a1 > 1073741824 then (valancelaw05_LengthMore.j0 k a0 a1 a2 a3 a4 t207 true) else (if a2 < (-1073741824) then (valancelaw05_LengthMore.j0 k a0 a1 a2 a3 a4 t207 true) else (if a2 > 1073741824 then (valancelaw05_LengthMore.j0 k a0 a1 a2 a3 a4 t207 true) else (if a3 < 0 then (valancelaw05_LengthMore.j0 k a0 a1 a2 a3 a4 t207 true) else (valancelaw05_LengthMore.j0 k a0 a1 a2 a3 a4 t207 (decide (a3 > 1073741824)))))))))) else (none))) = some r := h
  clear h
  replace H := Option.bind_eq_some_iff.mp H
  obtain ⟨t207, A60, H⟩ := H
  replace H : (if t207 = true then (if a0 < (-1073741824) then (valancelaw05_LengthMore.j0 k a0 a1 a2 a3 a4 t207 true) else (if a0 > 1073741824 then (valancelaw05_LengthMore.j0 k a0 a1 a2 a3 a4 t207 true) else (if a1 < (-1073741824) then (valancelaw05_LengthMore.j0 k a0 a1 a2 a3 a4 t207 true) else (if a1 > 1073741824 then (valancelaw05_LengthMore.j0 k a0 a1 a2 a3 a4 t207 true) else (if a2 < (-1073741824) then (valancelaw05_LengthMore.j0 k a0 a1 a2 a3 a4 t207 true) else (if a2 > 1073741824 then (valancelaw05_LengthMore.j0 k a0 a1 a2 a3 a4 t207 true) else (if a3 < 0 then (valancelaw05_LengthMore.j0 k a0 a1 a2 a3 a4 t207 true) else (valancelaw05_LengthMore.j0 k a0 a1 a2 a3 a4 t207 (decide (a3 > 1073741824)))))))))) else (none)) = some r := H
  have A6 := Aside0.mk A60
  clear A60
  by_cases c7 : t207 = true
  · subst c7
    have H1 : (if a0 < (-1073741824) then (valancelaw05_LengthMore.j0 k a0 a1 a2 a3 a4 true true) else (if a0 > 1073741824 then (valancelaw05_LengthMore.j0 k a0 a1 a2 a3 a4 true true) else (if a1 < (-1073741824) then (valancelaw05_LengthMore.j0 k a0 a1 a2 a3 a4 true true) else (if a1 > 1073741824 then (valancelaw05_LengthMore.j0 k a0 a1 a2 a3 a4 true true) else (if a2 < (-1073741824) then (valancelaw05_LengthMore.j0 k a0 a1 a2 a3 a4 true true) else (if a2 > 1073741824 then (valancelaw05_LengthMore.j0 k a0 a1 a2 a3 a4 true true) else (if a3 < 0 then (valancelaw05_LengthMore.j0 k a0 a1 a2 a3 a4 true true) else (valancelaw05_LengthMore.j0 k a0 a1 a2 a3 a4 true (decide (a3 > 1073741824)))))))))) = some r := by rw [if_pos rfl] at H; exact H
    clear H
    have H := H1
    clear H1
    have HC8 := Aside0.mk H
    clear H
    go_enter Try.func9, Try.ntmps9
    go_upto_region 4 with (first | ((with_reducible refine gate_callee (f := 12) rfl ?_); refine goesL_ (some 15) rfl rfl Try.func12 (by kernel_rfl) rfl #[] rfl (by (try simp only [List.map_toArray, List.map_cons, List.map_nil]); first | done | rfl | (simp only [List.length_drop, List.length_take]; rfl)) ?_; (with_reducible refine (valancelaw05_works.calls  true _ A6.out).mono ?_); rintro e w9 ⟨rfl, hb⟩; refine ⟨_, rfl, ?_⟩; have n0_ := Aside0.mk (below_step (by repeat (first | (with_reducible first | exact HB.out | apply below_alloc | apply pw_below_drewN | apply below_drew1) | exact HB.out)) hb); clear HB; have HB := n0_; clear n0_; (try clear hb); (try clear hb2); (try clear hk); (try clear hi)))
    (try simp only [Act.put, List.setIfInBounds_toArray, List.set_cons_zero, List.set_cons_succ])
    go_cut [47] (fun v47 wc => ∃ (kq : Nat) (x47_7 : Bool), v47 = .bool x47_7 ∧ Aside0 (valancelaw05_LengthMore.j0 kq a0 a1 a2 a3 a4 true x47_7 = some r) ∧ Aside0 (kq ≤ k) ∧ Aside0 (Below w.heap.size w wc))
    case first =>
      have H := HC8.out
      clear HC8
      by_cases c10 : a0 < (-1073741824)
      · rw [if_pos c10] at H
        have c10b0 : decide (a0 < (-1073741824)) = true := decide_eq_true c10
        clear c10
        (first | rw [c10b0] | (simp only [i64_w, i32_w]; rw [c10b0]) | skip)
        have H' := Aside0.mk H
        clear H
        go_wp2
        go_meet
        case rel => exact ⟨_, (true), (by first | rfl | (simp; done) | (simp [*]; done)), H', ⟨by first | omega | exact Nat.le_refl _⟩, ⟨by repeat (first | (with_reducible first | exact HB.out | apply below_alloc | apply pw_below_drewN | apply below_drew1) | exact HB.out)⟩⟩
      · rw [if_neg c10] at H
        have c10b0 : decide (a0 < (-1073741824)) = false := decide_eq_false c10
        clear c10
        (first | rw [c10b0] | (simp only [i64_w, i32_w]; rw [c10b0]) | skip)
        by_cases c11 : a0 > 1073741824
        · rw [if_pos c11] at H
          have c11b0 : decide (1073741824 < a0) = true := decide_eq_true c11
          clear c11
          have H' := Aside0.mk H
          clear H
          go_wp2
          go_meet
          case rel => exact ⟨_, (true), (by first | rfl | (simp; done) | (simp [*]; done)), H', ⟨by first | omega | exact Nat.le_refl _⟩, ⟨by repeat (first | (with_reducible first | exact HB.out | apply below_alloc | apply pw_below_drewN | apply below_drew1) | exact HB.out)⟩⟩
        · rw [if_neg c11] at H
          have c11b0 : decide (1073741824 < a0) = false := decide_eq_false c11
          clear c11
          by_cases c12 : a1 < (-1073741824)
          · rw [if_pos c12] at H
            have c12b0 : decide (a1 < (-1073741824)) = true := decide_eq_true c12
            clear c12
            have H' := Aside0.mk H
            clear H
            go_wp2
            go_meet
            case rel => exact ⟨_, (true), (by first | rfl | (simp; done) | (simp [*]; done)), H', ⟨by first | omega | exact Nat.le_refl _⟩, ⟨by repeat (first | (with_reducible first | exact HB.out | apply below_alloc | apply pw_below_drewN | apply below_drew1) | exact HB.out)⟩⟩
          · rw [if_neg c12] at H
            have c12b0 : decide (a1 < (-1073741824)) = false := decide_eq_false c12
            clear c12
            by_cases c13 : a1 > 1073741824
            · rw [if_pos c13] at H
              have c13b0 : decide (1073741824 < a1) = true := decide_eq_true c13
              clear c13
              have H' := Aside0.mk H
              clear H
              go_wp2
              go_meet
              case rel => exact ⟨_, (true), (by first | rfl | (simp; done) | (simp [*]; done)), H', ⟨by first | omega | exact Nat.le_refl _⟩, ⟨by repeat (first | (with_reducible first | exact HB.out | apply below_alloc | apply pw_below_drewN | apply below_drew1) | exact HB.out)⟩⟩
            · rw [if_neg c13] at H
              have c13b0 : decide (1073741824 < a1) = false := decide_eq_false c13
              clear c13
              by_cases c14 : a2 < (-1073741824)
              · rw [if_pos c14] at H
                have c14b0 : decide (a2 < (-1073741824)) = true := decide_eq_true c14
                clear c14
                have H' := Aside0.mk H
                clear H
                go_wp2
                go_meet
                case rel => exact ⟨_, (true), (by first | rfl | (simp; done) | (simp [*]; done)), H', ⟨by first | omega | exact Nat.le_refl _⟩, ⟨by repeat (first | (with_reducible first | exact HB.out | apply below_alloc | apply pw_below_drewN | apply below_drew1) | exact HB.out)⟩⟩
              · rw [if_neg c14] at H
                have c14b0 : decide (a2 < (-1073741824)) = false := decide_eq_false c14
                clear c14
                by_cases c15 : a2 > 1073741824
                · rw [if_pos c15] at H
                  have c15b0 : decide (1073741824 < a2) = true := decide_eq_true c15
                  clear c15
                  have H' := Aside0.mk H
                  clear H
                  go_wp2
                  go_meet
                  case rel => exact ⟨_, (true), (by first | rfl | (simp; done) | (simp [*]; done)), H', ⟨by first | omega | exact Nat.le_refl _⟩, ⟨by repeat (first | (with_reducible first | exact HB.out | apply below_alloc | apply pw_below_drewN | apply below_drew1) | exact HB.out)⟩⟩
                · rw [if_neg c15] at H
                  have c15b0 : decide (1073741824 < a2) = false := decide_eq_false c15
                  clear c15
                  by_cases c16 : a3 < 0
                  · rw [if_pos c16] at H
                    have c16b0 : decide (a3 < 0) = true := decide_eq_true c16
                    clear c16
                    have H' := Aside0.mk H
                    clear H
                    go_wp2
                    go_meet
                    case rel => exact ⟨_, (true), (by first | rfl | (simp; done) | (simp [*]; done)), H', ⟨by first | omega | exact Nat.le_refl _⟩, ⟨by repeat (first | (with_reducible first | exact HB.out | apply below_alloc | apply pw_below_drewN | apply below_drew1) | exact HB.out)⟩⟩
                  · rw [if_neg c16] at H
                    have c16b0 : decide (a3 < 0) = false := decide_eq_false c16
                    clear c16
                    have H' := Aside0.mk H
                    clear H
                    go_wp2
                    go_meet
                    case rel => exact ⟨_, (decide (a3 > 1073741824)), (by first | rfl | (simp; done) | (simp [*]; done)), H', ⟨by first | omega | exact Nat.le_refl _⟩, ⟨by repeat (first | (with_reducible first | exact HB.out | apply below_alloc | apply pw_below_drewN | apply below_drew1) | exact HB.out)⟩⟩
    case rest =>
      clear HC8
      try clear c1
      try clear p2
      try clear c7
      try clear c9
      try clear c10
      try clear c10b0
      try clear c11
      try clear c11b0
      try clear c12
      try clear c12b0
      try clear c13
      try clear c13b0
      try clear c14
      try clear c14b0
      try clear c15
      try clear c15b0
      try clear c16
      try clear c16b0
      obtain ⟨kq, x47_7, rfl, HA, HJ7, HB⟩ := hcut
      cases kq with
      | zero => exact absurd HA.out (by simp [valancelaw05_LengthMore.j0])
      | succ kj7 =>
        have H := HA.out
        clear HA
        simp only [valancelaw05_LengthMore.j0] at H
        by_cases c17 : x47_7 = true
        · subst c17
          have H1 : (some true) = some r := by rw [if_pos rfl] at H; exact H
          clear H
          have H := H1
          clear H1
          obtain rfl := Option.some.inj H
          go_wp2
          go_ret
          exact ⟨by first | rfl | (simp [errW_none, errW_some] <;> rfl) | (simp [*, errW_none, errW_some] <;> rfl), by repeat (first | (with_reducible first | exact HB.out | apply below_alloc | apply pw_below_drewN | apply below_drew1) | exact HB.out)⟩
        · replace c17 := Bool.eq_false_iff.mpr c17
          subst c17
          have H1 : ((length_Limit.f a0 1 a1 1 a2 a4).bind fun t208 => ((length_Limit.f a0 1 (wrap64 (a1 + a3)) 1 a2 a4).bind fun t209 => ((length_Limit.f a0 1 a1 1 (wrap64 (a2 + a3)) a4).bind fun t210 => (if true = true then (if t208 ≤ t209 then (if t208 ≤ t210 then ((length_Limit.f a0 0 0 0 0 a4).bind fun t211 => (some (t211 == (mx a0 0)))) else (none)) else (none)) else (none))))) = some r := by rw [if_neg (show ¬ (false = true) by decide)] at H; exact H
          clear H
          have H := H1
          clear H1
          replace H := Option.bind_eq_some_iff.mp H
          obtain ⟨t208, A180, H⟩ := H
          replace H : ((length_Limit.f a0 1 (wrap64 (a1 + a3)) 1 a2 a4).bind fun t209 => ((length_Limit.f a0 1 a1 1 (wrap64 (a2 + a3)) a4).bind fun t210 => (if true = true then (if t208 ≤ t209 then (if t208 ≤ t210 then ((length_Limit.f a0 0 0 0 0 a4).bind fun t211 => (some (t211 == (mx a0 0)))) else (none)) else (none)) else (none)))) = some r := H
          have A18 := Aside0.mk A180
          clear A180
          replace H := Option.bind_eq_some_iff.mp H
          obtain ⟨t209, A190, H⟩ := H
          replace H : ((length_Limit.f a0 1 a1 1 (wrap64 (a2 + a3)) a4).bind fun t210 => (if true = true then (if t208 ≤ t209 then (if t208 ≤ t210 then ((length_Limit.f a0 0 0 0 0 a4).bind fun t211 => (some (t211 == (mx a0 0)))) else (none)) else (none)) else (none))) = some r := H
          have A19 := Aside0.mk A190
          clear A190
          replace H := Option.bind_eq_some_iff.mp H
          obtain ⟨t210, A200, H⟩ := H
          replace H : (if true = true then (if t208 ≤ t209 then (if t208 ≤ t210 then ((length_Limit.f a0 0 0 0 0 a4).bind fun t211 => (some (t211 == (mx a0 0)))) else (none)) else (none)) else (none)) = some r := H
          have A20 := Aside0.mk A200
          clear A200
          by_cases c21 : true = true
          · clear c21
            have H1 : (if t208 ≤ t209 then (if t208 ≤ t210 then ((length_Limit.f a0 0 0 0 0 a4).bind fun t211 => (some (t211 == (mx a0 0)))) else (none)) else (none)) = some r := by first | (rw [if_pos rfl] at H; exact H) | (rw [if_pos True.intro] at H; exact H)
            clear H
            have H := H1
            clear H1
            by_cases c22 : t208 ≤ t209
            · rw [if_pos c22] at H
              have c22b0 : decide (t208 ≤ t209) = true := decide_eq_true c22
              clear c22
              by_cases c23 : t208 ≤ t210
              · rw [if_pos c23] at H
                have c23b0 : decide (t208 ≤ t210) = true := decide_eq_true c23
                clear c23
                replace H := Option.bind_eq_some_iff.mp H
                obtain ⟨t211, A240, H⟩ := H
                replace H : (some (t211 == (mx a0 0))) = some r := H
                have A24 := Aside0.mk A240
                clear A240
                obtain ⟨ji25, hji25⟩ : ∃ j_ : Int, (mx a0 0) = j_ := ⟨_, rfl⟩
                replace H : (some (t211 == (ji25))) = some r := by first | (rw [hji25] at H; exact H) | (simp only [hji25] at H ⊢; exact H)
                (try rw [hji25] at A18)
                (try rw [hji25] at A19)
                (try rw [hji25] at A20)
                (try rw [hji25] at A24)
                have hji25_ : (if a0 < 0 then 0 else a0) = ji25 := hji25
                obtain rfl := Option.some.inj H
                go_wp2_with (first | ((with_reducible refine gate_callee (f := 21) rfl ?_); refine goesL_ (some 55) rfl rfl Try.func21 (by kernel_rfl) rfl #[.int .i64 a0, .agg #[.int .i64 1, .int .i64 a1], .agg #[.int .i64 1, .int .i64 a2], .int .i64 a4] rfl (by (try simp only [List.map_toArray, List.map_cons, List.map_nil]); first | done | rfl | (simp only [List.length_drop, List.length_take]; rfl)) ?_; (with_reducible refine (length_Limit.calls a0 1 a1 1 a2 a4 t208 _ A18.out).mono ?_); rintro e w26 ⟨rfl, hb⟩; refine ⟨_, rfl, ?_⟩; have n0_ := Aside0.mk (below_step (by repeat (first | (with_reducible first | exact HB.out | apply below_alloc | apply pw_below_drewN | apply below_drew1) | exact HB.out)) hb); clear HB; have HB := n0_; clear n0_; (try clear hb); (try clear hb2); (try clear hk); (try clear hi)) | ((with_reducible refine gate_callee (f := 21) rfl ?_); refine goesL_ (some 64) rfl rfl Try.func21 (by kernel_rfl) rfl #[.int .i64 a0, .agg #[.int .i64 1, .int .i64 (wrap64 (a1 + a3))], .agg #[.int .i64 1, .int .i64 a2], .int .i64 a4] rfl (by (try simp only [List.map_toArray, List.map_cons, List.map_nil]); first | done | rfl | (simp only [List.length_drop, List.length_take]; rfl)) ?_; (with_reducible refine (length_Limit.calls a0 1 (wrap64 (a1 + a3)) 1 a2 a4 t209 _ A19.out).mono ?_); rintro e w27 ⟨rfl, hb⟩; refine ⟨_, rfl, ?_⟩; have n0_ := Aside0.mk (below_step (by repeat (first | (with_reducible first | exact HB.out | apply below_alloc | apply pw_below_drewN | apply below_drew1) | exact HB.out)) hb); clear HB; have HB := n0_; clear n0_; (try clear hb); (try clear hb2); (try clear hk); (try clear hi)) | ((with_reducible refine gate_callee (f := 21) rfl ?_); refine goesL_ (some 73) rfl rfl Try.func21 (by kernel_rfl) rfl #[.int .i64 a0, .agg #[.int .i64 1, .int .i64 a1], .agg #[.int .i64 1, .int .i64 (wrap64 (a2 + a3))], .int .i64 a4] rfl (by (try simp only [List.map_toArray, List.map_cons, List.map_nil]); first | done | rfl | (simp only [List.length_drop, List.length_take]; rfl)) ?_; (with_reducible refine (length_Limit.calls a0 1 a1 1 (wrap64 (a2 + a3)) a4 t210 _ A20.out).mono ?_); rintro e w28 ⟨rfl, hb⟩; refine ⟨_, rfl, ?_⟩; have n0_ := Aside0.mk (below_step (by repeat (first | (with_reducible first | exact HB.out | apply below_alloc | apply pw_below_drewN | apply below_drew1) | exact HB.out)) hb); clear HB; have HB := n0_; clear n0_; (try clear hb); (try clear hb2); (try clear hk); (try clear hi)) | (go_at_call 21; (with_reducible refine (length_Limit.calls a0 0 0 0 0 a4 t211 _ A24.out).mono ?_); rintro e w29 ⟨rfl, hb⟩; have n0_ := Aside0.mk (below_step (by repeat (first | (with_reducible first | exact HB.out | apply below_alloc | apply pw_below_drewN | apply below_drew1) | exact HB.out)) hb); clear HB; have HB := n0_; clear n0_; (try clear hb); (try clear hb2); (try clear hk); (try clear hi)))
                go_ret
                exact ⟨by first | rfl | (simp [errW_none, errW_some] <;> rfl) | (simp only [← hji25]; first | rfl | (simp [errW_none, errW_some] <;> rfl)) | (simp [*, errW_none, errW_some] <;> rfl), by repeat (first | (with_reducible first | exact HB.out | apply below_alloc | apply pw_below_drewN | apply below_drew1) | exact HB.out)⟩
              · rw [if_neg c23] at H
                exact absurd H (by simp)
            · rw [if_neg c22] at H
              exact absurd H (by simp)
          · exact absurd rfl c21
  · replace c7 := Bool.eq_false_iff.mpr c7
    subst c7
    have H1 : (none) = some r := by rw [if_neg (show ¬ (false = true) by decide)] at H; exact H
    clear H
    have H := H1
    clear H1
    exact absurd H (by simp)

/-- THE ONE PURE STATEMENT of valancelaw05_LengthMore: yours. -/
def valancelaw05_LengthMore.Pure : Prop := ∀ (a0 : Int) (a1 : Int) (a2 : Int) (a3 : Int) (a4 : Int), (Lit.int .i64 a0).wf = true → (Lit.int .i64 a1).wf = true → (Lit.int .i64 a2).wf = true → (Lit.int .i64 a3).wf = true → (Lit.int .i64 a4).wf = true → ∃ k, valancelaw05_LengthMore.f k a0 a1 a2 a3 a4 = some true
theorem valancelaw05_LengthMore.walk (P : valancelaw05_LengthMore.Pure) (a0 : Int) (a1 : Int) (a2 : Int) (a3 : Int) (a4 : Int) (w : World) (w0 : (Lit.int .i64 a0).wf = true) (w1 : (Lit.int .i64 a1).wf = true) (w2 : (Lit.int .i64 a2).wf = true) (w3 : (Lit.int .i64 a3).wf = true) (w4 : (Lit.int .i64 a4).wf = true) :
    Calls Try.prog 9 #[.int .i64 a0, .int .i64 a1, .int .i64 a2, .int .i64 a3, .int .i64 a4] w fun e w' => e = .returned (.bool true) ∧ Below w.heap.size w w' := by
  obtain ⟨k, h⟩ := P a0 a1 a2 a3 a4 w0 w1 w2 w3 w4
  refine (valancelaw05_LengthMore.calls k a0 a1 a2 a3 a4 true w h).mono ?_
  rintro e w' ⟨rfl, hd⟩
  exact ⟨rfl, hd⟩

end Go.Proofs.Ytnmcefpnpfaklaa.V
