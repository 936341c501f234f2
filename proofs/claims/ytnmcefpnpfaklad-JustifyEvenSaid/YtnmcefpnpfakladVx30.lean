/- What the functions of this seat answer, as plain Lean functions, and that the calls come to just that (written by a program of this repo, over the kit's printer; Lean checks it). -/
import Derived.Test.YtnmcefpnpfakladVx0
import Derived.Test.YtnmcefpnpfakladVx4
import Derived.Test.YtnmcefpnpfakladVx11
import Derived.Test.YtnmcefpnpfakladVx14
namespace Go.Proofs.Ytnmcefpnpfaklad.V
open Go.RowKit Go.Proofs.YtnmcefpnpfakladW.PrintWords Go.Proofs.YtnmcefpnpfakladW.PrintLast Go.Proofs.YtnmcefpnpfakladW.PrintMore
attribute [local go_sem] max2_int min2_int max_two min_two max_three min_three max_four min_four   -- for this text's walks alone
set_option linter.unusedVariables false
set_option linter.unusedSimpArgs false

/-! ### valancelaw09_JustifyEven: function 7 -/
mutual
def valancelaw09_JustifyEven.j0 : Nat → List Int → Int → Bool → Bool → Option (Bool)
  | 0, _, _, _, _ => none
  | k + 1, x0, x1, x5, x32 => if x32 = true then (some x5) else (valancelaw09_JustifyEven.l0 k x0 x1 x5 0)
def valancelaw09_JustifyEven.l0 : Nat → List Int → Int → Bool → Int → Option (Bool)
  | 0, _, _, _, _ => none
  | k + 1, x0, x1, x5, x6 => if x6 < (x0.length : Int) then (if 0 ≤ x6 then (if (rd x0 x6) < 0 then (some x5) else (if (rd x0 x6) > 1048576 then (some x5) else (valancelaw09_JustifyEven.l0 k x0 x1 x5 (wrap64 (x6 + 1))))) else (none)) else ((lines_Long.f k x0 0).bind fun t279 => (if (wrap64 (x1 - t279)) < 0 then (some x5) else ((justify_Starts.f k 5 x0 x1 0).bind fun t280 => ((justify_Starts.f k 4 x0 x1 0).bind fun t283 => (valancelaw09_JustifyEven.l1 k x0 x5 (wrap64 (x1 - t279)) t280 t283 (x0.length : Int) 0)))))
def valancelaw09_JustifyEven.l1 : Nat → List Int → Bool → Int → List Int → List Int → Int → Int → Option (Bool)
  | 0, _, _, _, _, _, _, _ => none
  | k + 1, x0, x5, x7, x8, x9, x10, x11 => if x11 < x10 then (if 0 ≤ x11 then (if x11 < (x8.length : Int) then (if x11 < (x9.length : Int) then (if x11 > 0 then (if 0 ≤ (wrap64 (x11 - 1)) then (if (wrap64 (x11 - 1)) < (x8.length : Int) then (if (wrap64 (x11 - 1)) < (x0.length : Int) then (if (wrap64 (x11 - 1)) < (x9.length : Int) then (if (wrap64 (x10 + 1)) = 0 then (none) else (if (wrap64 ((wrap64 ((rd x8 x11) - (rd x8 (wrap64 (x11 - 1))))) - (rd x0 (wrap64 (x11 - 1))))) < (wrap64 (Int.tdiv x7 (wrap64 (x10 + 1)))) then (none) else (if (wrap64 ((wrap64 ((rd x8 x11) - (rd x8 (wrap64 (x11 - 1))))) - (rd x0 (wrap64 (x11 - 1))))) > (wrap64 ((wrap64 (Int.tdiv x7 (wrap64 (x10 + 1)))) + 1)) then (none) else (if x10 = 0 then (none) else (if (wrap64 ((wrap64 ((rd x9 x11) - (rd x9 (wrap64 (x11 - 1))))) - (rd x0 (wrap64 (x11 - 1))))) < (wrap64 (Int.tdiv x7 x10)) then (none) else (if (wrap64 ((wrap64 ((rd x9 x11) - (rd x9 (wrap64 (x11 - 1))))) - (rd x0 (wrap64 (x11 - 1))))) > (wrap64 ((wrap64 (Int.tdiv x7 x10)) + 1)) then (none) else (if x11 = 0 then (if (wrap64 (2 * x10)) = 0 then (none) else (if (wrap64 ((wrap64 ((rd x9 x11) - (rd x9 (wrap64 (x11 - 1))))) - (rd x0 (wrap64 (x11 - 1))))) < (wrap64 (Int.tdiv x7 (wrap64 (2 * x10)))) then (none) else (if (wrap64 ((wrap64 ((rd x9 x11) - (rd x9 (wrap64 (x11 - 1))))) - (rd x0 (wrap64 (x11 - 1))))) > (wrap64 ((wrap64 (Int.tdiv x7 (wrap64 (2 * x10)))) + 1)) then (none) else (valancelaw09_JustifyEven.l1 k x0 x5 x7 x8 x9 x10 (wrap64 (x11 + 1)))))) else (valancelaw09_JustifyEven.l1 k x0 x5 x7 x8 x9 x10 (wrap64 (x11 + 1)))))))))) else (none)) else (none)) else (none)) else (none)) else (if (wrap64 (x10 + 1)) = 0 then (none) else (if (rd x8 x11) < (wrap64 (Int.tdiv x7 (wrap64 (x10 + 1)))) then (none) else (if (rd x8 x11) > (wrap64 ((wrap64 (Int.tdiv x7 (wrap64 (x10 + 1)))) + 1)) then (none) else (if x11 = 0 then (if (wrap64 (2 * x10)) = 0 then (none) else (if (rd x9 x11) < (wrap64 (Int.tdiv x7 (wrap64 (2 * x10)))) then (none) else (if (rd x9 x11) > (wrap64 ((wrap64 (Int.tdiv x7 (wrap64 (2 * x10)))) + 1)) then (none) else (valancelaw09_JustifyEven.l1 k x0 x5 x7 x8 x9 x10 (wrap64 (x11 + 1)))))) else (valancelaw09_JustifyEven.l1 k x0 x5 x7 x8 x9 x10 (wrap64 (x11 + 1)))))))) else (none)) else (none)) else (none)) else (some x5)
end
def valancelaw09_JustifyEven.f (k : Nat) (l0 : List Int) (a1 : Int) : Option (Bool) := (valancelaw09_works.f k).bind fun t276 => (if t276 = true then (if (l0.length : Int) < 1 then (valancelaw09_JustifyEven.j0 k l0 a1 t276 true) else (if (l0.length : Int) > 64 then (valancelaw09_JustifyEven.j0 k l0 a1 t276 true) else (if a1 < 0 then (valancelaw09_JustifyEven.j0 k l0 a1 t276 true) else (valancelaw09_JustifyEven.j0 k l0 a1 t276 (decide (a1 > 1073741824)))))) else (none))
theorem valancelaw09_JustifyEven.mono_l : ∀ k, (∀ y0 y1 y2 y3, LeO (valancelaw09_JustifyEven.j0 k y0 y1 y2 y3) (valancelaw09_JustifyEven.j0 (k + 1) y0 y1 y2 y3)) ∧ (∀ y0 y1 y2 y3, LeO (valancelaw09_JustifyEven.l0 k y0 y1 y2 y3) (valancelaw09_JustifyEven.l0 (k + 1) y0 y1 y2 y3)) ∧ (∀ y0 y1 y2 y3 y4 y5 y6, LeO (valancelaw09_JustifyEven.l1 k y0 y1 y2 y3 y4 y5 y6) (valancelaw09_JustifyEven.l1 (k + 1) y0 y1 y2 y3 y4 y5 y6))
  | 0 => ⟨fun _ _ _ _ r h => by simp [valancelaw09_JustifyEven.j0] at h, fun _ _ _ _ r h => by simp [valancelaw09_JustifyEven.l0] at h, fun _ _ _ _ _ _ _ r h => by simp [valancelaw09_JustifyEven.l1] at h⟩
  | k + 1 => by
    obtain ⟨ih0, ih1, ih2⟩ := valancelaw09_JustifyEven.mono_l k
    refine ⟨?_, ?_, ?_⟩
    · intro y0 y1 y2 y3
      unfold valancelaw09_JustifyEven.j0
      repeat' first
      | (with_reducible exact ih0 _ _ _ _)
      | (with_reducible exact ih1 _ _ _ _)
      | (with_reducible exact ih2 _ _ _ _ _ _ _)
      | (with_reducible exact justify_Starts.mono _ _ _ _ _)
      | (with_reducible exact lines_Long.mono _ _ _)
      | (with_reducible exact valancelaw09_works.mono _)
      | (with_reducible exact LeO.refl _)
      | (with_reducible exact LeO.none _)
      | (with_reducible refine LeO.ite ?_ ?_)
      | (with_reducible refine LeO.bind ?_ (fun _ => ?_))
      | exact ih0 _ _ _ _
      | exact ih1 _ _ _ _
      | exact ih2 _ _ _ _ _ _ _
      | exact justify_Starts.mono _ _ _ _ _
      | exact lines_Long.mono _ _ _
      | exact valancelaw09_works.mono _
      | exact LeO.none _
      | refine LeO.ite ?_ ?_
      | refine LeO.bind ?_ (fun _ => ?_)
    · intro y0 y1 y2 y3
      unfold valancelaw09_JustifyEven.l0
      repeat' first
      | (with_reducible exact ih0 _ _ _ _)
      | (with_reducible exact ih1 _ _ _ _)
      | (with_reducible exact ih2 _ _ _ _ _ _ _)
      | (with_reducible exact justify_Starts.mono _ _ _ _ _)
      | (with_reducible exact lines_Long.mono _ _ _)
      | (with_reducible exact valancelaw09_works.mono _)
      | (with_reducible exact LeO.refl _)
      | (with_reducible exact LeO.none _)
      | (with_reducible refine LeO.ite ?_ ?_)
      | (with_reducible refine LeO.bind ?_ (fun _ => ?_))
      | exact ih0 _ _ _ _
      | exact ih1 _ _ _ _
      | exact ih2 _ _ _ _ _ _ _
      | exact justify_Starts.mono _ _ _ _ _
      | exact lines_Long.mono _ _ _
      | exact valancelaw09_works.mono _
      | exact LeO.none _
      | refine LeO.ite ?_ ?_
      | refine LeO.bind ?_ (fun _ => ?_)
    · intro y0 y1 y2 y3 y4 y5 y6
      unfold valancelaw09_JustifyEven.l1
      repeat' first
      | (with_reducible exact ih0 _ _ _ _)
      | (with_reducible exact ih1 _ _ _ _)
      | (with_reducible exact ih2 _ _ _ _ _ _ _)
      | (with_reducible exact justify_Starts.mono _ _ _ _ _)
      | (with_reducible exact lines_Long.mono _ _ _)
      | (with_reducible exact valancelaw09_works.mono _)
      | (with_reducible exact LeO.refl _)
      | (with_reducible exact LeO.none _)
      | (with_reducible refine LeO.ite ?_ ?_)
      | (with_reducible refine LeO.bind ?_ (fun _ => ?_))
      | exact ih0 _ _ _ _
      | exact ih1 _ _ _ _
      | exact ih2 _ _ _ _ _ _ _
      | exact justify_Starts.mono _ _ _ _ _
      | exact lines_Long.mono _ _ _
      | exact valancelaw09_works.mono _
      | exact LeO.none _
      | refine LeO.ite ?_ ?_
      | refine LeO.bind ?_ (fun _ => ?_)
theorem valancelaw09_JustifyEven.mono : ∀ a0 a1 k, LeO (valancelaw09_JustifyEven.f k a0 a1) (valancelaw09_JustifyEven.f (k + 1) a0 a1) := by
  intro a0 a1 k
  obtain ⟨ih0, ih1, ih2⟩ := valancelaw09_JustifyEven.mono_l k
  unfold valancelaw09_JustifyEven.f
  repeat' first
      | (with_reducible exact ih0 _ _ _ _)
      | (with_reducible exact ih1 _ _ _ _)
      | (with_reducible exact ih2 _ _ _ _ _ _ _)
      | (with_reducible exact justify_Starts.mono _ _ _ _ _)
      | (with_reducible exact lines_Long.mono _ _ _)
      | (with_reducible exact valancelaw09_works.mono _)
      | (with_reducible exact LeO.refl _)
      | (with_reducible exact LeO.none _)
      | (with_reducible refine LeO.ite ?_ ?_)
      | (with_reducible refine LeO.bind ?_ (fun _ => ?_))
      | exact ih0 _ _ _ _
      | exact ih1 _ _ _ _
      | exact ih2 _ _ _ _ _ _ _
      | exact justify_Starts.mono _ _ _ _ _
      | exact lines_Long.mono _ _ _
      | exact valancelaw09_works.mono _
      | exact LeO.none _
      | refine LeO.ite ?_ ?_
      | refine LeO.bind ?_ (fun _ => ?_)
set_option maxHeartbeats 8000000 in
set_option maxRecDepth 100000 in
theorem valancelaw09_JustifyEven.calls (k : Nat) (A0 : Option Addr) (c0 : Nat) (l0 : List Int) (a1 : Int) (r : Bool) (w : World) (hr0 : Kd.C (Kd.int .i64) w A0 l0.length l0) (hc0 : l0.length ≤ c0) (h : valancelaw09_JustifyEven.f k l0 a1 = some r) :
    Calls Try.prog 7 #[.slice A0 l0.length c0, .int .i64 a1] w fun e w' => e = .returned (.bool r) ∧ Below w.heap.size w w' := by
  have HR0 := Aside0.mk hr0
  have HC0 := Aside0.mk hc0
  clear hr0 hc0
  have HB := Aside0.mk (Below.refl w.heap.size w)
  have H : ((valancelaw09_works.f k).bind fun t276 => (if t276 = true then (if (l0.length : Int) < 1 then (valancelaw09_JustifyEven.j0 k l0 a1 t276 true) else (if (l0.length : Int) > 64 then (valancelaw09_JustifyEven.j0 k l0 a1 t276 true) else (if a1 < 0 then (valancelaw09_JustifyEven.j0 k l0 a1 t276 true) else (valancelaw09_JustifyEven.j0 k l0 a1 t276 (decide (a1 > 1073741824)))))) else (none))) = some r := h
  clear h
  replace H := Option.bind_eq_some_iff.mp H
  obtain ⟨t276, A30, H⟩ := H
  replace H : (if t276 = true then (if (l0.length : Int) < 1 then (valancelaw09_JustifyEven.j0 k l0 a1 t276 true) else (if (l0.length : Int) > 64 then (valancelaw09_JustifyEven.j0 k l0 a1 t276 true) else (if a1 < 0 then (valancelaw09_JustifyEven.j0 k l0 a1 t276 true) else (valancelaw09_JustifyEven.j0 k l0 a1 t276 (decide (a1 > 1073741824)))))) else (none)) = some r := H
  have A3 := Aside0.mk A30
  clear A30
  by_cases c4 : t276 = true
  · subst c4
    have H1 : (if (l0.length : Int) < 1 then (valancelaw09_JustifyEven.j0 k l0 a1 true true) else (if (l0.length : Int) > 64 then (valancelaw09_JustifyEven.j0 k l0 a1 true true) else (if a1 < 0 then (valancelaw09_JustifyEven.j0 k l0 a1 true true) else (valancelaw09_JustifyEven.j0 k l0 a1 true (decide (a1 > 1073741824)))))) = some r := by rw [if_pos rfl] at H; exact H
    clear H
    have H := H1
    clear H1
    have HC5 := Aside0.mk H
    clear H
    go_enter Try.func7, Try.ntmps7
    go_upto_region 4 with (first | (go_at_call 15; (with_reducible refine (valancelaw09_works.calls k  true _ A3.out).mono ?_); rintro e w6 ⟨rfl, hb⟩; have n0_ := Aside0.mk (below_step (by repeat (first | (with_reducible first | exact HB.out | apply below_alloc | apply pw_below_drewN | apply below_drew1) | exact HB.out)) hb); clear HB; have HB := n0_; clear n0_; (try clear hb); (try clear hb2); (try clear hk); (try clear hi)))
    repeat (go_quiet (first | (go_at_call 15; (with_reducible refine (valancelaw09_works.calls k  true _ A3.out).mono ?_); rintro e w6 ⟨rfl, hb⟩; have n0_ := Aside0.mk (below_step (by repeat (first | (with_reducible first | exact HB.out | apply below_alloc | apply pw_below_drewN | apply below_drew1) | exact HB.out)) hb); clear HB; have HB := n0_; clear n0_; (try clear hb); (try clear hb2); (try clear hk); (try clear hi))); go_upto_region 4 with (first | (go_at_call 15; (with_reducible refine (valancelaw09_works.calls k  true _ A3.out).mono ?_); rintro e w6 ⟨rfl, hb⟩; have n0_ := Aside0.mk (below_step (by repeat (first | (with_reducible first | exact HB.out | apply below_alloc | apply pw_below_drewN | apply below_drew1) | exact HB.out)) hb); clear HB; have HB := n0_; clear n0_; (try clear hb); (try clear hb2); (try clear hk); (try clear hi))))
    (try simp only [Act.put, List.setIfInBounds_toArray, List.set_cons_zero, List.set_cons_succ])
    go_cut [32] (fun v32 wc => ∃ (kq : Nat) (x32_4 : Bool), v32 = .bool x32_4 ∧ Aside0 (valancelaw09_JustifyEven.j0 kq l0 a1 true x32_4 = some r) ∧ Aside0 (kq ≤ k) ∧ Aside0 (Below w.heap.size w wc))
    case first =>
      have H := HC5.out
      clear HC5
      by_cases c7 : (l0.length : Int) < 1
      · rw [if_pos c7] at H
        have c7b0 : decide ((l0.length : Int) < 1) = true := decide_eq_true c7
        have c7b1 : decide (l0.length < 1) = true := decide_eq_true (by omega)
        clear c7
        (first | rw [c7b0] | (simp only [i64_w, i32_w]; rw [c7b0]) | skip)
        have H' := Aside0.mk H
        clear H
        go_wp2
        repeat (go_quiet (fail); try go_wp2)
        go_meet
        case rel => exact ⟨_, (true), (by first | rfl | (simp; done) | (simp [*]; done)), H', ⟨by first | omega | exact Nat.le_refl _⟩, ⟨by repeat (first | (with_reducible first | exact HB.out | apply below_alloc | apply pw_below_drewN | apply below_drew1) | exact HB.out)⟩⟩
      · rw [if_neg c7] at H
        have c7b0 : decide ((l0.length : Int) < 1) = false := decide_eq_false c7
        have c7b1 : decide (l0.length < 1) = false := decide_eq_false (by omega)
        clear c7
        (first | rw [c7b0] | (simp only [i64_w, i32_w]; rw [c7b0]) | skip)
        by_cases c8 : (l0.length : Int) > 64
        · rw [if_pos c8] at H
          have c8b0 : decide (64 < (l0.length : Int)) = true := decide_eq_true c8
          have c8b1 : decide (64 < l0.length) = true := decide_eq_true (by omega)
          clear c8
          have H' := Aside0.mk H
          clear H
          go_wp2
          repeat (go_quiet (fail); try go_wp2)
          go_meet
          case rel => exact ⟨_, (true), (by first | rfl | (simp; done) | (simp [*]; done)), H', ⟨by first | omega | exact Nat.le_refl _⟩, ⟨by repeat (first | (with_reducible first | exact HB.out | apply below_alloc | apply pw_below_drewN | apply below_drew1) | exact HB.out)⟩⟩
        · rw [if_neg c8] at H
          have c8b0 : decide (64 < (l0.length : Int)) = false := decide_eq_false c8
          have c8b1 : decide (64 < l0.length) = false := decide_eq_false (by omega)
          clear c8
          by_cases c9 : a1 < 0
          · rw [if_pos c9] at H
            have c9b0 : decide (a1 < 0) = true := decide_eq_true c9
            clear c9
            have H' := Aside0.mk H
            clear H
            go_wp2
            repeat (go_quiet (fail); try go_wp2)
            go_meet
            case rel => exact ⟨_, (true), (by first | rfl | (simp; done) | (simp [*]; done)), H', ⟨by first | omega | exact Nat.le_refl _⟩, ⟨by repeat (first | (with_reducible first | exact HB.out | apply below_alloc | apply pw_below_drewN | apply below_drew1) | exact HB.out)⟩⟩
          · rw [if_neg c9] at H
            have c9b0 : decide (a1 < 0) = false := decide_eq_false c9
            clear c9
            have H' := Aside0.mk H
            clear H
            go_wp2
            repeat (go_quiet (fail); try go_wp2)
            go_meet
            case rel => exact ⟨_, (decide (a1 > 1073741824)), (by first | rfl | (simp; done) | (simp [*]; done)), H', ⟨by first | omega | exact Nat.le_refl _⟩, ⟨by repeat (first | (with_reducible first | exact HB.out | apply below_alloc | apply pw_below_drewN | apply below_drew1) | exact HB.out)⟩⟩
    case rest =>
      clear HC5
      try clear p2
      try clear c4
      try clear c7
      try clear c7b0
      try clear c7b1
      try clear c8
      try clear c8b0
      try clear c8b1
      try clear c9
      try clear c9b0
      obtain ⟨kq, x32_4, rfl, HA, HJ4, HB⟩ := hcut
      cases kq with
      | zero => exact absurd HA.out (by simp [valancelaw09_JustifyEven.j0])
      | succ kj4 =>
        have H := HA.out
        clear HA
        simp only [valancelaw09_JustifyEven.j0] at H
        by_cases c10 : x32_4 = true
        · subst c10
          have H1 : (some true) = some r := by rw [if_pos rfl] at H; exact H
          clear H
          have H := H1
          clear H1
          obtain rfl := Option.some.inj H
          go_wp2
          repeat (go_quiet (fail); try go_wp2)
          go_ret
          exact ⟨by first | rfl | (simp [errW_none, errW_some] <;> rfl) | (simp [*, errW_none, errW_some] <;> rfl), by repeat (first | (with_reducible first | exact HB.out | apply below_alloc | apply pw_below_drewN | apply below_drew1) | exact HB.out)⟩
        · replace c10 := Bool.eq_false_iff.mpr c10
          subst c10
          have H1 : (valancelaw09_JustifyEven.l0 kj4 l0 a1 true 0) = some r := by rw [if_neg (show ¬ (false = true) by decide)] at H; exact H
          clear H
          have H := H1
          clear H1
          have H' := Aside0.mk H
          clear H
          go_wp2
          repeat (go_quiet (fail); try go_wp2)
          go_loopg [6] kj4 (fun kq v6 w' => ∃ (x6_2 : Int), v6 = .int .i64 x6_2 ∧ Aside0 (valancelaw09_JustifyEven.l0 kq l0 a1 true x6_2 = some r) ∧ Aside0 (kq ≤ kj4) ∧ Aside0 (Below w.heap.size w w'))
          case atStart => exact ⟨(0), (by first | rfl | (simp; done) | (simp [*]; done)), H', ⟨Nat.le_refl _⟩, ⟨by repeat (first | (with_reducible first | exact HB.out | apply below_alloc | apply pw_below_drewN | apply below_drew1) | exact HB.out)⟩⟩
          case round =>
            clear H'
            try clear c1
            try clear p2
            try clear c4
            try clear c7
            try clear c7b0
            try clear c7b1
            try clear c8
            try clear c8b0
            try clear c8b1
            try clear c9
            try clear c9b0
            try clear c10
            try clear p2
            obtain ⟨x6_2, rfl, HA, HK2, HB⟩ := hrel
            cases gk with
            | zero => exact absurd HA.out (by simp [valancelaw09_JustifyEven.l0])
            | succ k2 =>
              have H := HA.out
              clear HA
              simp only [valancelaw09_JustifyEven.l0] at H
              by_cases c11 : x6_2 < (l0.length : Int)
              · rw [if_pos c11] at H
                have c11b0 : decide (x6_2 < (l0.length : Int)) = true := decide_eq_true c11
                clear c11
                by_cases c12 : 0 ≤ x6_2
                · rw [if_pos c12] at H
                  have c12b0 : decide (0 ≤ x6_2) = true := decide_eq_true c12
                  clear c12
                  by_cases c13 : (rd l0 x6_2) < 0
                  · rw [if_pos c13] at H
                    have c13b0 : decide ((rd l0 x6_2) < 0) = true := decide_eq_true c13
                    clear c13
                    obtain rfl := Option.some.inj H
                    have p277 : 0 ≤ (x6_2 : Int) := of_decide_eq_true (by first | (with_reducible assumption) | assumption)
                    have q277 : x6_2 < (l0.length : Int) := of_decide_eq_true (by first | (with_reducible assumption) | assumption)
                    obtain ⟨ad277, e277, hx277_0⟩ := Kd.at_int HR0.out x6_2 p277 q277
                    cases e277
                    replace hx277_0 := (HB.out.cell (World.block_lt_of_cell? w _ hx277_0)).trans hx277_0
                    replace p277 := eq_true p277
                    replace q277 := eq_true q277
                    go_wp2
                    repeat (go_quiet (fail); try go_wp2)
                    go_ret
                    exact ⟨by first | rfl | (simp [errW_none, errW_some] <;> rfl) | (simp [*, errW_none, errW_some] <;> rfl), by repeat (first | (with_reducible first | exact HB.out | apply below_alloc | apply pw_below_drewN | apply below_drew1) | exact HB.out)⟩
                  · rw [if_neg c13] at H
                    have c13b0 : decide ((rd l0 x6_2) < 0) = false := decide_eq_false c13
                    clear c13
                    by_cases c14 : (rd l0 x6_2) > 1048576
                    · rw [if_pos c14] at H
                      have c14b0 : decide (1048576 < (rd l0 x6_2)) = true := decide_eq_true c14
                      clear c14
                      obtain rfl := Option.some.inj H
                      have p277 : 0 ≤ (x6_2 : Int) := of_decide_eq_true (by first | (with_reducible assumption) | assumption)
                      have q277 : x6_2 < (l0.length : Int) := of_decide_eq_true (by first | (with_reducible assumption) | assumption)
                      obtain ⟨ad277, e277, hx277_0⟩ := Kd.at_int HR0.out x6_2 p277 q277
                      cases e277
                      replace hx277_0 := (HB.out.cell (World.block_lt_of_cell? w _ hx277_0)).trans hx277_0
                      replace p277 := eq_true p277
                      replace q277 := eq_true q277
                      have p278 : 0 ≤ (x6_2 : Int) := of_decide_eq_true (by first | (with_reducible assumption) | assumption)
                      have q278 : x6_2 < (l0.length : Int) := of_decide_eq_true (by first | (with_reducible assumption) | assumption)
                      obtain ⟨ad278, e278, hx278_0⟩ := Kd.at_int HR0.out x6_2 p278 q278
                      obtain rfl : ad277 = ad278 := (by injection e278)
                      replace hx278_0 := (HB.out.cell (World.block_lt_of_cell? w _ hx278_0)).trans hx278_0
                      replace p278 := eq_true p278
                      replace q278 := eq_true q278
                      go_wp2
                      repeat (go_quiet (fail); try go_wp2)
                      go_ret
                      exact ⟨by first | rfl | (simp [errW_none, errW_some] <;> rfl) | (simp [*, errW_none, errW_some] <;> rfl), by repeat (first | (with_reducible first | exact HB.out | apply below_alloc | apply pw_below_drewN | apply below_drew1) | exact HB.out)⟩
                    · rw [if_neg c14] at H
                      have c14b0 : decide (1048576 < (rd l0 x6_2)) = false := decide_eq_false c14
                      clear c14
                      have H' := Aside0.mk H
                      clear H
                      have p277 : 0 ≤ (x6_2 : Int) := of_decide_eq_true (by first | (with_reducible assumption) | assumption)
                      have q277 : x6_2 < (l0.length : Int) := of_decide_eq_true (by first | (with_reducible assumption) | assumption)
                      obtain ⟨ad277, e277, hx277_0⟩ := Kd.at_int HR0.out x6_2 p277 q277
                      cases e277
                      replace hx277_0 := (HB.out.cell (World.block_lt_of_cell? w _ hx277_0)).trans hx277_0
                      replace p277 := eq_true p277
                      replace q277 := eq_true q277
                      have p278 : 0 ≤ (x6_2 : Int) := of_decide_eq_true (by first | (with_reducible assumption) | assumption)
                      have q278 : x6_2 < (l0.length : Int) := of_decide_eq_true (by first | (with_reducible assumption) | assumption)
                      obtain ⟨ad278, e278, hx278_0⟩ := Kd.at_int HR0.out x6_2 p278 q278
                      obtain rfl : ad277 = ad278 := (by injection e278)
                      replace hx278_0 := (HB.out.cell (World.block_lt_of_cell? w _ hx278_0)).trans hx278_0
                      replace p278 := eq_true p278
                      replace q278 := eq_true q278
                      go_wp2
                      repeat (go_quiet (fail); try go_wp2)
                      go_roundg k2
                      case measure => have := HJ4.out; have := HK2.out; omega
                      case rel => exact ⟨(wrap64 (x6_2 + 1)), (by first | rfl | (simp; done) | (simp [*]; done)), H', ⟨by have := HJ4.out; have := HK2.out; omega⟩, ⟨by repeat (first | (with_reducible first | exact HB.out | apply below_alloc | apply pw_below_drewN | apply below_drew1) | exact HB.out)⟩⟩
                · rw [if_neg c12] at H
                  exact absurd H (by simp)
              · rw [if_neg c11] at H
                have c11b0 : decide (x6_2 < (l0.length : Int)) = false := decide_eq_false c11
                clear c11
                replace H := Option.bind_eq_some_iff.mp H
                obtain ⟨t279, A150, H⟩ := H
                replace H : (if (wrap64 (a1 - t279)) < 0 then (some true) else ((justify_Starts.f k2 5 l0 a1 0).bind fun t280 => ((justify_Starts.f k2 4 l0 a1 0).bind fun t283 => (valancelaw09_JustifyEven.l1 k2 l0 true (wrap64 (a1 - t279)) t280 t283 (l0.length : Int) 0)))) = some r := H
                have A15 := Aside0.mk A150
                clear A150
                by_cases c16 : (wrap64 (a1 - t279)) < 0
                · rw [if_pos c16] at H
                  have c16b0 : decide ((wrap64 (a1 - t279)) < 0) = true := decide_eq_true c16
                  clear c16
                  obtain rfl := Option.some.inj H
                  go_wp2_with (first | (go_at_call 23; (with_reducible refine (lines_Long.calls k2 _ _ l0 0 t279 _ ?side1 ?side2 A15.out).mono ?_); (case side1 => repeat (first | exact (Kd.C_below HR0.out HB.out) | (with_reducible refine Kd.C_alloc ?_ _) | (with_reducible refine Kd.C_drewN ?_ _) | (with_reducible refine Kd.C_drew ?_))); (case side2 => exact HC0.out); rintro e w17 ⟨rfl, hb⟩; have n0_ := Aside0.mk (below_step (by repeat (first | (with_reducible first | exact HB.out | apply below_alloc | apply pw_below_drewN | apply below_drew1) | exact HB.out)) hb); clear HB; have HB := n0_; clear n0_; (try clear hb); (try clear hb2); (try clear hk); (try clear hi)))
                  repeat (go_quiet (first | (go_at_call 23; (with_reducible refine (lines_Long.calls k2 _ _ l0 0 t279 _ ?side1 ?side2 A15.out).mono ?_); (case side1 => repeat (first | exact (Kd.C_below HR0.out HB.out) | (with_reducible refine Kd.C_alloc ?_ _) | (with_reducible refine Kd.C_drewN ?_ _) | (with_reducible refine Kd.C_drew ?_))); (case side2 => exact HC0.out); rintro e w17 ⟨rfl, hb⟩; have n0_ := Aside0.mk (below_step (by repeat (first | (with_reducible first | exact HB.out | apply below_alloc | apply pw_below_drewN | apply below_drew1) | exact HB.out)) hb); clear HB; have HB := n0_; clear n0_; (try clear hb); (try clear hb2); (try clear hk); (try clear hi))); try go_wp2_with (first | (go_at_call 23; (with_reducible refine (lines_Long.calls k2 _ _ l0 0 t279 _ ?side1 ?side2 A15.out).mono ?_); (case side1 => repeat (first | exact (Kd.C_below HR0.out HB.out) | (with_reducible refine Kd.C_alloc ?_ _) | (with_reducible refine Kd.C_drewN ?_ _) | (with_reducible refine Kd.C_drew ?_))); (case side2 => exact HC0.out); rintro e w17 ⟨rfl, hb⟩; have n0_ := Aside0.mk (below_step (by repeat (first | (with_reducible first | exact HB.out | apply below_alloc | apply pw_below_drewN | apply below_drew1) | exact HB.out)) hb); clear HB; have HB := n0_; clear n0_; (try clear hb); (try clear hb2); (try clear hk); (try clear hi))))
                  go_ret
                  exact ⟨by first | rfl | (simp [errW_none, errW_some] <;> rfl) | (simp [*, errW_none, errW_some] <;> rfl), by repeat (first | (with_reducible first | exact HB.out | apply below_alloc | apply pw_below_drewN | apply below_drew1) | exact HB.out)⟩
                · rw [if_neg c16] at H
                  have c16b0 : decide ((wrap64 (a1 - t279)) < 0) = false := decide_eq_false c16
                  clear c16
                  replace H := Option.bind_eq_some_iff.mp H
                  obtain ⟨t280, A180, H⟩ := H
                  replace H : ((justify_Starts.f k2 4 l0 a1 0).bind fun t283 => (valancelaw09_JustifyEven.l1 k2 l0 true (wrap64 (a1 - t279)) t280 t283 (l0.length : Int) 0)) = some r := H
                  have A18 := Aside0.mk A180
                  clear A180
                  replace H := Option.bind_eq_some_iff.mp H
                  obtain ⟨t283, A190, H⟩ := H
                  replace H : (valancelaw09_JustifyEven.l1 k2 l0 true (wrap64 (a1 - t279)) t280 t283 (l0.length : Int) 0) = some r := H
                  have A19 := Aside0.mk A190
                  clear A190
                  have H' := Aside0.mk H
                  clear H
                  go_wp2_with (first | (go_at_call 23; (with_reducible refine (lines_Long.calls k2 _ _ l0 0 t279 _ ?side1 ?side2 A15.out).mono ?_); (case side1 => repeat (first | exact (Kd.C_below HR0.out HB.out) | (with_reducible refine Kd.C_alloc ?_ _) | (with_reducible refine Kd.C_drewN ?_ _) | (with_reducible refine Kd.C_drew ?_))); (case side2 => exact HC0.out); rintro e w20 ⟨rfl, hb⟩; have n0_ := Aside0.mk (below_step (by repeat (first | (with_reducible first | exact HB.out | apply below_alloc | apply pw_below_drewN | apply below_drew1) | exact HB.out)) hb); clear HB; have HB := n0_; clear n0_; (try clear hb); (try clear hb2); (try clear hk); (try clear hi)) | (go_at_call 16; (with_reducible refine (justify_Starts.calls k2 5 _ _ l0 a1 0 t280 _ ?side1 ?side2 A18.out).mono ?_); (case side1 => repeat (first | exact (Kd.C_below HR0.out HB.out) | (with_reducible refine Kd.C_alloc ?_ _) | (with_reducible refine Kd.C_drewN ?_ _) | (with_reducible refine Kd.C_drew ?_))); (case side2 => exact HC0.out); rintro e w21 ⟨v281, rfl, ho0, hb⟩; have n0_ := Aside0.mk (Kd.R_lower ho0 (below_size (by repeat (first | (with_reducible first | exact HB.out | apply below_alloc | apply pw_below_drewN | apply below_drew1) | exact HB.out)))); have n1_ := Aside0.mk (below_step (by repeat (first | (with_reducible first | exact HB.out | apply below_alloc | apply pw_below_drewN | apply below_drew1) | exact HB.out)) hb); clear HB; have HO282 := n0_; have HB := n1_; clear n0_ n1_; (try clear hb); (try clear hb2); (try clear hk); (try clear hi); (try clear ho0)) | (go_at_call 16; (with_reducible refine (justify_Starts.calls k2 4 _ _ l0 a1 0 t283 _ ?side1 ?side2 A19.out).mono ?_); (case side1 => repeat (first | exact (Kd.C_below HR0.out HB.out) | (with_reducible refine Kd.C_alloc ?_ _) | (with_reducible refine Kd.C_drewN ?_ _) | (with_reducible refine Kd.C_drew ?_))); (case side2 => exact HC0.out); rintro e w22 ⟨v284, rfl, ho0, hb⟩; have n0_ := Aside0.mk (Kd.R_elder' (by (with_reducible repeat (first | apply Kd.R_alloc | apply Kd.R_drewN | apply Kd.R_drew)); exact HO282.out) (Kd.R_base ho0) hb); have n1_ := Aside0.mk (Kd.R_lower (Kd.R_new' ho0 (Kd.R_lt (by (with_reducible repeat (first | apply Kd.R_alloc | apply Kd.R_drewN | apply Kd.R_drew)); exact HO282.out))) (below_size (by repeat (first | (with_reducible first | exact HB.out | apply below_alloc | apply pw_below_drewN | apply below_drew1) | exact HB.out)))); have n2_ := Aside0.mk (below_step (by repeat (first | (with_reducible first | exact HB.out | apply below_alloc | apply pw_below_drewN | apply below_drew1) | exact HB.out)) hb); clear HO282; clear HB; have HO282 := n0_; have HO285 := n1_; have HB := n2_; clear n0_ n1_ n2_; (try clear hb); (try clear hb2); (try clear hk); (try clear hi); (try clear ho0)))
                  repeat (go_quiet (first | (go_at_call 23; (with_reducible refine (lines_Long.calls k2 _ _ l0 0 t279 _ ?side1 ?side2 A15.out).mono ?_); (case side1 => repeat (first | exact (Kd.C_below HR0.out HB.out) | (with_reducible refine Kd.C_alloc ?_ _) | (with_reducible refine Kd.C_drewN ?_ _) | (with_reducible refine Kd.C_drew ?_))); (case side2 => exact HC0.out); rintro e w20 ⟨rfl, hb⟩; have n0_ := Aside0.mk (below_step (by repeat (first | (with_reducible first | exact HB.out | apply below_alloc | apply pw_below_drewN | apply below_drew1) | exact HB.out)) hb); clear HB; have HB := n0_; clear n0_; (try clear hb); (try clear hb2); (try clear hk); (try clear hi)) | (go_at_call 16; (with_reducible refine (justify_Starts.calls k2 5 _ _ l0 a1 0 t280 _ ?side1 ?side2 A18.out).mono ?_); (case side1 => repeat (first | exact (Kd.C_below HR0.out HB.out) | (with_reducible refine Kd.C_alloc ?_ _) | (with_reducible refine Kd.C_drewN ?_ _) | (with_reducible refine Kd.C_drew ?_))); (case side2 => exact HC0.out); rintro e w21 ⟨v281, rfl, ho0, hb⟩; have n0_ := Aside0.mk (Kd.R_lower ho0 (below_size (by repeat (first | (with_reducible first | exact HB.out | apply below_alloc | apply pw_below_drewN | apply below_drew1) | exact HB.out)))); have n1_ := Aside0.mk (below_step (by repeat (first | (with_reducible first | exact HB.out | apply below_alloc | apply pw_below_drewN | apply below_drew1) | exact HB.out)) hb); clear HB; have HO282 := n0_; have HB := n1_; clear n0_ n1_; (try clear hb); (try clear hb2); (try clear hk); (try clear hi); (try clear ho0)) | (go_at_call 16; (with_reducible refine (justify_Starts.calls k2 4 _ _ l0 a1 0 t283 _ ?side1 ?side2 A19.out).mono ?_); (case side1 => repeat (first | exact (Kd.C_below HR0.out HB.out) | (with_reducible refine Kd.C_alloc ?_ _) | (with_reducible refine Kd.C_drewN ?_ _) | (with_reducible refine Kd.C_drew ?_))); (case side2 => exact HC0.out); rintro e w22 ⟨v284, rfl, ho0, hb⟩; have n0_ := Aside0.mk (Kd.R_elder' (by (with_reducible repeat (first | apply Kd.R_alloc | apply Kd.R_drewN | apply Kd.R_drew)); exact HO282.out) (Kd.R_base ho0) hb); have n1_ := Aside0.mk (Kd.R_lower (Kd.R_new' ho0 (Kd.R_lt (by (with_reducible repeat (first | apply Kd.R_alloc | apply Kd.R_drewN | apply Kd.R_drew)); exact HO282.out))) (below_size (by repeat (first | (with_reducible first | exact HB.out | apply below_alloc | apply pw_below_drewN | apply below_drew1) | exact HB.out)))); have n2_ := Aside0.mk (below_step (by repeat (first | (with_reducible first | exact HB.out | apply below_alloc | apply pw_below_drewN | apply below_drew1) | exact HB.out)) hb); clear HO282; clear HB; have HO282 := n0_; have HO285 := n1_; have HB := n2_; clear n0_ n1_ n2_; (try clear hb); (try clear hb2); (try clear hk); (try clear hi); (try clear ho0))); try go_wp2_with (first | (go_at_call 23; (with_reducible refine (lines_Long.calls k2 _ _ l0 0 t279 _ ?side1 ?side2 A15.out).mono ?_); (case side1 => repeat (first | exact (Kd.C_below HR0.out HB.out) | (with_reducible refine Kd.C_alloc ?_ _) | (with_reducible refine Kd.C_drewN ?_ _) | (with_reducible refine Kd.C_drew ?_))); (case side2 => exact HC0.out); rintro e w20 ⟨rfl, hb⟩; have n0_ := Aside0.mk (below_step (by repeat (first | (with_reducible first | exact HB.out | apply below_alloc | apply pw_below_drewN | apply below_drew1) | exact HB.out)) hb); clear HB; have HB := n0_; clear n0_; (try clear hb); (try clear hb2); (try clear hk); (try clear hi)) | (go_at_call 16; (with_reducible refine (justify_Starts.calls k2 5 _ _ l0 a1 0 t280 _ ?side1 ?side2 A18.out).mono ?_); (case side1 => repeat (first | exact (Kd.C_below HR0.out HB.out) | (with_reducible refine Kd.C_alloc ?_ _) | (with_reducible refine Kd.C_drewN ?_ _) | (with_reducible refine Kd.C_drew ?_))); (case side2 => exact HC0.out); rintro e w21 ⟨v281, rfl, ho0, hb⟩; have n0_ := Aside0.mk (Kd.R_lower ho0 (below_size (by repeat (first | (with_reducible first | exact HB.out | apply below_alloc | apply pw_below_drewN | apply below_drew1) | exact HB.out)))); have n1_ := Aside0.mk (below_step (by repeat (first | (with_reducible first | exact HB.out | apply below_alloc | apply pw_below_drewN | apply below_drew1) | exact HB.out)) hb); clear HB; have HO282 := n0_; have HB := n1_; clear n0_ n1_; (try clear hb); (try clear hb2); (try clear hk); (try clear hi); (try clear ho0)) | (go_at_call 16; (with_reducible refine (justify_Starts.calls k2 4 _ _ l0 a1 0 t283 _ ?side1 ?side2 A19.out).mono ?_); (case side1 => repeat (first | exact (Kd.C_below HR0.out HB.out) | (with_reducible refine Kd.C_alloc ?_ _) | (with_reducible refine Kd.C_drewN ?_ _) | (with_reducible refine Kd.C_drew ?_))); (case side2 => exact HC0.out); rintro e w22 ⟨v284, rfl, ho0, hb⟩; have n0_ := Aside0.mk (Kd.R_elder' (by (with_reducible repeat (first | apply Kd.R_alloc | apply Kd.R_drewN | apply Kd.R_drew)); exact HO282.out) (Kd.R_base ho0) hb); have n1_ := Aside0.mk (Kd.R_lower (Kd.R_new' ho0 (Kd.R_lt (by (with_reducible repeat (first | apply Kd.R_alloc | apply Kd.R_drewN | apply Kd.R_drew)); exact HO282.out))) (below_size (by repeat (first | (with_reducible first | exact HB.out | apply below_alloc | apply pw_below_drewN | apply below_drew1) | exact HB.out)))); have n2_ := Aside0.mk (below_step (by repeat (first | (with_reducible first | exact HB.out | apply below_alloc | apply pw_below_drewN | apply below_drew1) | exact HB.out)) hb); clear HO282; clear HB; have HO282 := n0_; have HO285 := n1_; have HB := n2_; clear n0_ n1_ n2_; (try clear hb); (try clear hb2); (try clear hk); (try clear hi); (try clear ho0))))
                  go_loopg [11] k2 (fun kq v11 w' => ∃ (x11_3 : Int), v11 = .int .i64 x11_3 ∧ Aside0 (valancelaw09_JustifyEven.l1 kq l0 true (wrap64 (a1 - t279)) t280 t283 (l0.length : Int) x11_3 = some r) ∧ Aside0 (kq ≤ k2) ∧ Aside0 (Kd.R (Kd.int .i64) 3 w' w.heap.size (fun k_ => some k_ ≠ (v284 : Value).ownBlock) v281 t280) ∧ Aside0 (Kd.R (Kd.int .i64) 3 w' w.heap.size (fun k_ => some k_ ≠ (v281 : Value).ownBlock) v284 t283) ∧ Aside0 (Below w.heap.size w w'))
                  case atStart => exact ⟨(0), (by first | rfl | (simp; done) | (simp [*]; done)), H', ⟨Nat.le_refl _⟩, ⟨by (with_reducible repeat (first | apply Kd.R_alloc | apply Kd.R_drewN | apply Kd.R_drew)); exact Kd.R_mono HO282.out (fun _ hk => hk.2)⟩, ⟨by (with_reducible repeat (first | apply Kd.R_alloc | apply Kd.R_drewN | apply Kd.R_drew)); exact Kd.R_mono HO285.out (fun _ hk => hk.2)⟩, ⟨by repeat (first | (with_reducible first | exact HB.out | apply below_alloc | apply pw_below_drewN | apply below_drew1) | exact HB.out)⟩⟩
                  case round =>
                    clear H'
                    try clear c1
                    try clear p2
                    try clear q2
                    try clear hx2
                    try clear c4
                    try clear p6
                    try clear c7
                    try clear c7b0
                    try clear c7b1
                    try clear c8
                    try clear c8b0
                    try clear c8b1
                    try clear c9
                    try clear c9b0
                    try clear c10
                    try clear c11
                    try clear c11b0
                    try clear c12
                    try clear c12b0
                    try clear c13
                    try clear c13b0
                    try clear c14
                    try clear c14b0
                    try clear c16
                    try clear c16b0
                    try clear hx277_0
                    try clear hx278_0
                    try clear p2
                    try clear p277
                    try clear p278
                    try clear q277
                    try clear q278
                    obtain ⟨x11_3, rfl, HA, HK3, HO_8, HO_9, HB⟩ := hrel
                    cases gk with
                    | zero => exact absurd HA.out (by simp [valancelaw09_JustifyEven.l1])
                    | succ k3 =>
                      have H := HA.out
                      clear HA
                      simp only [valancelaw09_JustifyEven.l1] at H
                      by_cases c23 : x11_3 < (l0.length : Int)
                      · rw [if_pos c23] at H
                        have c23b0 : decide (x11_3 < (l0.length : Int)) = true := decide_eq_true c23
                        clear c23
                        by_cases c24 : 0 ≤ x11_3
                        · rw [if_pos c24] at H
                          have c24b0 : decide (0 ≤ x11_3) = true := decide_eq_true c24
                          clear c24
                          by_cases c25 : x11_3 < (t280.length : Int)
                          · rw [if_pos c25] at H
                            have c25b0 : decide (x11_3 < (t280.length : Int)) = true := decide_eq_true c25
                            clear c25
                            by_cases c26 : x11_3 < (t283.length : Int)
                            · rw [if_pos c26] at H
                              have c26b0 : decide (x11_3 < (t283.length : Int)) = true := decide_eq_true c26
                              clear c26
                              by_cases c27 : x11_3 > 0
                              · rw [if_pos c27] at H
                                have c27b0 : decide (0 < x11_3) = true := decide_eq_true c27
                                clear c27
                                obtain ⟨ji28, hji28⟩ : ∃ j_ : Int, (wrap64 (x11_3 - 1)) = j_ := ⟨_, rfl⟩
                                replace H : (if 0 ≤ (ji28) then (if (ji28) < (t280.length : Int) then (if (ji28) < (l0.length : Int) then (if (ji28) < (t283.length : Int) then (if (wrap64 ((l0.length : Int) + 1)) = 0 then (none) else (if (wrap64 ((wrap64 ((rd t280 x11_3) - (rd t280 (ji28)))) - (rd l0 (ji28)))) < (wrap64 (Int.tdiv (wrap64 (a1 - t279)) (wrap64 ((l0.length : Int) + 1)))) then (none) else (if (wrap64 ((wrap64 ((rd t280 x11_3) - (rd t280 (ji28)))) - (rd l0 (ji28)))) > (wrap64 ((wrap64 (Int.tdiv (wrap64 (a1 - t279)) (wrap64 ((l0.length : Int) + 1)))) + 1)) then (none) else (if (l0.length : Int) = 0 then (none) else (if (wrap64 ((wrap64 ((rd t283 x11_3) - (rd t283 (ji28)))) - (rd l0 (ji28)))) < (wrap64 (Int.tdiv (wrap64 (a1 - t279)) (l0.length : Int))) then (none) else (if (wrap64 ((wrap64 ((rd t283 x11_3) - (rd t283 (ji28)))) - (rd l0 (ji28)))) > (wrap64 ((wrap64 (Int.tdiv (wrap64 (a1 - t279)) (l0.length : Int))) + 1)) then (none) else (if x11_3 = 0 then (if (wrap64 (2 * (l0.length : Int))) = 0 then (none) else (if (wrap64 ((wrap64 ((rd t283 x11_3) - (rd t283 (ji28)))) - (rd l0 (ji28)))) < (wrap64 (Int.tdiv (wrap64 (a1 - t279)) (wrap64 (2 * (l0.length : Int))))) then (none) else (if (wrap64 ((wrap64 ((rd t283 x11_3) - (rd t283 (ji28)))) - (rd l0 (ji28)))) > (wrap64 ((wrap64 (Int.tdiv (wrap64 (a1 - t279)) (wrap64 (2 * (l0.length : Int))))) + 1)) then (none) else (valancelaw09_JustifyEven.l1 k3 l0 true (wrap64 (a1 - t279)) t280 t283 (l0.length : Int) (wrap64 (x11_3 + 1)))))) else (valancelaw09_JustifyEven.l1 k3 l0 true (wrap64 (a1 - t279)) t280 t283 (l0.length : Int) (wrap64 (x11_3 + 1)))))))))) else (none)) else (none)) else (none)) else (none)) = some r := by first | (rw [hji28] at H; exact H) | (simp only [hji28] at H ⊢; exact H)
                                have hji28w : (IntKind.i64.wrap (x11_3 - 1)) = ji28 := (i64_w _).trans hji28
                                by_cases c29 : 0 ≤ (ji28)
                                · rw [if_pos c29] at H
                                  have c29b0 : decide (0 ≤ (ji28)) = true := decide_eq_true c29
                                  clear c29
                                  by_cases c30 : (ji28) < (t280.length : Int)
                                  · rw [if_pos c30] at H
                                    have c30b0 : decide ((ji28) < (t280.length : Int)) = true := decide_eq_true c30
                                    clear c30
                                    by_cases c31 : (ji28) < (l0.length : Int)
                                    · rw [if_pos c31] at H
                                      have c31b0 : decide ((ji28) < (l0.length : Int)) = true := decide_eq_true c31
                                      clear c31
                                      by_cases c32 : (ji28) < (t283.length : Int)
                                      · rw [if_pos c32] at H
                                        have c32b0 : decide ((ji28) < (t283.length : Int)) = true := decide_eq_true c32
                                        clear c32
                                        by_cases c33 : (wrap64 ((l0.length : Int) + 1)) = 0
                                        · rw [if_pos c33] at H
                                          exact absurd H (by simp)
                                        · rw [if_neg c33] at H
                                          have c33b0 : ((wrap64 ((l0.length : Int) + 1)) == 0) = false := beq_eq_false_iff_ne.mpr c33
                                          have c33b1 : ((wrap64 ((l0.length : Int) + 1)) != 0) = true := bne_iff_ne.mpr c33
                                          by_cases c34 : (wrap64 ((wrap64 ((rd t280 x11_3) - (rd t280 (ji28)))) - (rd l0 (ji28)))) < (wrap64 (Int.tdiv (wrap64 (a1 - t279)) (wrap64 ((l0.length : Int) + 1))))
                                          · rw [if_pos c34] at H
                                            exact absurd H (by simp)
                                          · rw [if_neg c34] at H
                                            have c34b0 : decide ((wrap64 ((wrap64 ((rd t280 x11_3) - (rd t280 (ji28)))) - (rd l0 (ji28)))) < (wrap64 (Int.tdiv (wrap64 (a1 - t279)) (wrap64 ((l0.length : Int) + 1))))) = false := decide_eq_false c34
                                            clear c34
                                            by_cases c35 : (wrap64 ((wrap64 ((rd t280 x11_3) - (rd t280 (ji28)))) - (rd l0 (ji28)))) > (wrap64 ((wrap64 (Int.tdiv (wrap64 (a1 - t279)) (wrap64 ((l0.length : Int) + 1)))) + 1))
                                            · rw [if_pos c35] at H
                                              exact absurd H (by simp)
                                            · rw [if_neg c35] at H
                                              have c35b0 : decide ((wrap64 ((wrap64 (Int.tdiv (wrap64 (a1 - t279)) (wrap64 ((l0.length : Int) + 1)))) + 1)) < (wrap64 ((wrap64 ((rd t280 x11_3) - (rd t280 (ji28)))) - (rd l0 (ji28))))) = false := decide_eq_false c35
                                              clear c35
                                              by_cases c36 : (l0.length : Int) = 0
                                              · rw [if_pos c36] at H
                                                exact absurd H (by simp)
                                              · rw [if_neg c36] at H
                                                have c36b0 : ((l0.length : Int) == 0) = false := beq_eq_false_iff_ne.mpr c36
                                                have c36b1 : ((l0.length : Int) != 0) = true := bne_iff_ne.mpr c36
                                                have c36b2 : ¬ (l0 = []) := fun h_ => c36 (by rw [h_]; rfl)
                                                by_cases c37 : (wrap64 ((wrap64 ((rd t283 x11_3) - (rd t283 (ji28)))) - (rd l0 (ji28)))) < (wrap64 (Int.tdiv (wrap64 (a1 - t279)) (l0.length : Int)))
                                                · rw [if_pos c37] at H
                                                  exact absurd H (by simp)
                                                · rw [if_neg c37] at H
                                                  have c37b0 : decide ((wrap64 ((wrap64 ((rd t283 x11_3) - (rd t283 (ji28)))) - (rd l0 (ji28)))) < (wrap64 (Int.tdiv (wrap64 (a1 - t279)) (l0.length : Int)))) = false := decide_eq_false c37
                                                  clear c37
                                                  by_cases c38 : (wrap64 ((wrap64 ((rd t283 x11_3) - (rd t283 (ji28)))) - (rd l0 (ji28)))) > (wrap64 ((wrap64 (Int.tdiv (wrap64 (a1 - t279)) (l0.length : Int))) + 1))
                                                  · rw [if_pos c38] at H
                                                    exact absurd H (by simp)
                                                  · rw [if_neg c38] at H
                                                    have c38b0 : decide ((wrap64 ((wrap64 (Int.tdiv (wrap64 (a1 - t279)) (l0.length : Int))) + 1)) < (wrap64 ((wrap64 ((rd t283 x11_3) - (rd t283 (ji28)))) - (rd l0 (ji28))))) = false := decide_eq_false c38
                                                    clear c38
                                                    by_cases c39 : x11_3 = 0
                                                    · rw [if_pos c39] at H
                                                      have c39b0 : (x11_3 == 0) = true := beq_iff_eq.mpr c39
                                                      have c39b1 : (x11_3 != 0) = false := bne_eq_false_iff_eq.mpr c39
                                                      clear c39
                                                      by_cases c40 : (wrap64 (2 * (l0.length : Int))) = 0
                                                      · rw [if_pos c40] at H
                                                        exact absurd H (by simp)
                                                      · rw [if_neg c40] at H
                                                        have c40b0 : ((wrap64 (2 * (l0.length : Int))) == 0) = false := beq_eq_false_iff_ne.mpr c40
                                                        have c40b1 : ((wrap64 (2 * (l0.length : Int))) != 0) = true := bne_iff_ne.mpr c40
                                                        by_cases c41 : (wrap64 ((wrap64 ((rd t283 x11_3) - (rd t283 (ji28)))) - (rd l0 (ji28)))) < (wrap64 (Int.tdiv (wrap64 (a1 - t279)) (wrap64 (2 * (l0.length : Int)))))
                                                        · rw [if_pos c41] at H
                                                          exact absurd H (by simp)
                                                        · rw [if_neg c41] at H
                                                          have c41b0 : decide ((wrap64 ((wrap64 ((rd t283 x11_3) - (rd t283 (ji28)))) - (rd l0 (ji28)))) < (wrap64 (Int.tdiv (wrap64 (a1 - t279)) (wrap64 (2 * (l0.length : Int)))))) = false := decide_eq_false c41
                                                          clear c41
                                                          by_cases c42 : (wrap64 ((wrap64 ((rd t283 x11_3) - (rd t283 (ji28)))) - (rd l0 (ji28)))) > (wrap64 ((wrap64 (Int.tdiv (wrap64 (a1 - t279)) (wrap64 (2 * (l0.length : Int))))) + 1))
                                                          · rw [if_pos c42] at H
                                                            exact absurd H (by simp)
                                                          · rw [if_neg c42] at H
                                                            have c42b0 : decide ((wrap64 ((wrap64 (Int.tdiv (wrap64 (a1 - t279)) (wrap64 (2 * (l0.length : Int))))) + 1)) < (wrap64 ((wrap64 ((rd t283 x11_3) - (rd t283 (ji28)))) - (rd l0 (ji28))))) = false := decide_eq_false c42
                                                            clear c42
                                                            have H' := Aside0.mk H
                                                            clear H
                                                            obtain ⟨Ao43, co43, eo43⟩ := Kd.R_slice HO_8.out
                                                            subst eo43
                                                            have p286 : 0 ≤ (x11_3 : Int) := of_decide_eq_true (by first | (with_reducible assumption) | assumption)
                                                            have q286 : x11_3 < (t280.length : Int) := of_decide_eq_true (by first | (with_reducible assumption) | assumption)
                                                            obtain ⟨ad286, e286, hx286_0⟩ := Kd.at_int (Kd.R_reads' HO_8.out).2.2 x11_3 p286 q286
                                                            cases e286
                                                            replace p286 := eq_true p286
                                                            replace q286 := eq_true q286
                                                            obtain ⟨Ao44, co44, eo44⟩ := Kd.R_slice HO_9.out
                                                            subst eo44
                                                            have p287 : 0 ≤ (x11_3 : Int) := of_decide_eq_true (by first | (with_reducible assumption) | assumption)
                                                            have q287 : x11_3 < (t283.length : Int) := of_decide_eq_true (by first | (with_reducible assumption) | assumption)
                                                            obtain ⟨ad287, e287, hx287_0⟩ := Kd.at_int (Kd.R_reads' HO_9.out).2.2 x11_3 p287 q287
                                                            cases e287
                                                            replace p287 := eq_true p287
                                                            replace q287 := eq_true q287
                                                            have p288 : 0 ≤ (x11_3 : Int) := of_decide_eq_true (by first | (with_reducible assumption) | assumption)
                                                            have q288 : x11_3 < (t280.length : Int) := of_decide_eq_true (by first | (with_reducible assumption) | assumption)
                                                            obtain ⟨ad288, e288, hx288_0⟩ := Kd.at_int (Kd.R_reads' HO_8.out).2.2 x11_3 p288 q288
                                                            obtain rfl : ad286 = ad288 := (by injection e288)
                                                            replace p288 := eq_true p288
                                                            replace q288 := eq_true q288
                                                            have p289 : 0 ≤ ((ji28) : Int) := of_decide_eq_true (by first | (with_reducible assumption) | assumption)
                                                            have q289 : (ji28) < (t280.length : Int) := of_decide_eq_true (by first | (with_reducible assumption) | assumption)
                                                            obtain ⟨ad289, e289, hx289_0⟩ := Kd.at_int (Kd.R_reads' HO_8.out).2.2 (ji28) p289 q289
                                                            obtain rfl : ad286 = ad289 := (by injection e289)
                                                            replace p289 := eq_true p289
                                                            replace q289 := eq_true q289
                                                            have p290 : 0 ≤ ((ji28) : Int) := of_decide_eq_true (by first | (with_reducible assumption) | assumption)
                                                            have q290 : (ji28) < (l0.length : Int) := of_decide_eq_true (by first | (with_reducible assumption) | assumption)
                                                            obtain ⟨ad290, e290, hx290_0⟩ := Kd.at_int HR0.out (ji28) p290 q290
                                                            cases e290
                                                            replace hx290_0 := (HB.out.cell (World.block_lt_of_cell? w _ hx290_0)).trans hx290_0
                                                            replace p290 := eq_true p290
                                                            replace q290 := eq_true q290
                                                            have p291 : 0 ≤ (x11_3 : Int) := of_decide_eq_true (by first | (with_reducible assumption) | assumption)
                                                            have q291 : x11_3 < (t283.length : Int) := of_decide_eq_true (by first | (with_reducible assumption) | assumption)
                                                            obtain ⟨ad291, e291, hx291_0⟩ := Kd.at_int (Kd.R_reads' HO_9.out).2.2 x11_3 p291 q291
                                                            obtain rfl : ad287 = ad291 := (by injection e291)
                                                            replace p291 := eq_true p291
                                                            replace q291 := eq_true q291
                                                            have p292 : 0 ≤ ((ji28) : Int) := of_decide_eq_true (by first | (with_reducible assumption) | assumption)
                                                            have q292 : (ji28) < (t283.length : Int) := of_decide_eq_true (by first | (with_reducible assumption) | assumption)
                                                            obtain ⟨ad292, e292, hx292_0⟩ := Kd.at_int (Kd.R_reads' HO_9.out).2.2 (ji28) p292 q292
                                                            obtain rfl : ad287 = ad292 := (by injection e292)
                                                            replace p292 := eq_true p292
                                                            replace q292 := eq_true q292
                                                            have p293 : 0 ≤ ((ji28) : Int) := of_decide_eq_true (by first | (with_reducible assumption) | assumption)
                                                            have q293 : (ji28) < (l0.length : Int) := of_decide_eq_true (by first | (with_reducible assumption) | assumption)
                                                            obtain ⟨ad293, e293, hx293_0⟩ := Kd.at_int HR0.out (ji28) p293 q293
                                                            obtain rfl : ad290 = ad293 := (by injection e293)
                                                            replace hx293_0 := (HB.out.cell (World.block_lt_of_cell? w _ hx293_0)).trans hx293_0
                                                            replace p293 := eq_true p293
                                                            replace q293 := eq_true q293
                                                            go_wp2
                                                            repeat (go_quiet (fail); try go_wp2)
                                                            go_roundg k3
                                                            case measure => have := HJ4.out; have := HK2.out; have := HK3.out; omega
                                                            case rel => exact ⟨(wrap64 (x11_3 + 1)), (by first | rfl | (simp; done) | (simp [*]; done)), H', ⟨by have := HJ4.out; have := HK2.out; have := HK3.out; omega⟩, ⟨by (with_reducible repeat (first | apply Kd.R_alloc | apply Kd.R_drewN | apply Kd.R_drew)); exact HO_8.out⟩, ⟨by (with_reducible repeat (first | apply Kd.R_alloc | apply Kd.R_drewN | apply Kd.R_drew)); exact HO_9.out⟩, ⟨by repeat (first | (with_reducible first | exact HB.out | apply below_alloc | apply pw_below_drewN | apply below_drew1) | exact HB.out)⟩⟩
                                                    · rw [if_neg c39] at H
                                                      have c39b0 : (x11_3 == 0) = false := beq_eq_false_iff_ne.mpr c39
                                                      have c39b1 : (x11_3 != 0) = true := bne_iff_ne.mpr c39
                                                      have H' := Aside0.mk H
                                                      clear H
                                                      obtain ⟨Ao45, co45, eo45⟩ := Kd.R_slice HO_8.out
                                                      subst eo45
                                                      have p286 : 0 ≤ (x11_3 : Int) := of_decide_eq_true (by first | (with_reducible assumption) | assumption)
                                                      have q286 : x11_3 < (t280.length : Int) := of_decide_eq_true (by first | (with_reducible assumption) | assumption)
                                                      obtain ⟨ad286, e286, hx286_0⟩ := Kd.at_int (Kd.R_reads' HO_8.out).2.2 x11_3 p286 q286
                                                      cases e286
                                                      replace p286 := eq_true p286
                                                      replace q286 := eq_true q286
                                                      obtain ⟨Ao46, co46, eo46⟩ := Kd.R_slice HO_9.out
                                                      subst eo46
                                                      have p287 : 0 ≤ (x11_3 : Int) := of_decide_eq_true (by first | (with_reducible assumption) | assumption)
                                                      have q287 : x11_3 < (t283.length : Int) := of_decide_eq_true (by first | (with_reducible assumption) | assumption)
                                                      obtain ⟨ad287, e287, hx287_0⟩ := Kd.at_int (Kd.R_reads' HO_9.out).2.2 x11_3 p287 q287
                                                      cases e287
                                                      replace p287 := eq_true p287
                                                      replace q287 := eq_true q287
                                                      have p288 : 0 ≤ (x11_3 : Int) := of_decide_eq_true (by first | (with_reducible assumption) | assumption)
                                                      have q288 : x11_3 < (t280.length : Int) := of_decide_eq_true (by first | (with_reducible assumption) | assumption)
                                                      obtain ⟨ad288, e288, hx288_0⟩ := Kd.at_int (Kd.R_reads' HO_8.out).2.2 x11_3 p288 q288
                                                      obtain rfl : ad286 = ad288 := (by injection e288)
                                                      replace p288 := eq_true p288
                                                      replace q288 := eq_true q288
                                                      have p289 : 0 ≤ ((ji28) : Int) := of_decide_eq_true (by first | (with_reducible assumption) | assumption)
                                                      have q289 : (ji28) < (t280.length : Int) := of_decide_eq_true (by first | (with_reducible assumption) | assumption)
                                                      obtain ⟨ad289, e289, hx289_0⟩ := Kd.at_int (Kd.R_reads' HO_8.out).2.2 (ji28) p289 q289
                                                      obtain rfl : ad286 = ad289 := (by injection e289)
                                                      replace p289 := eq_true p289
                                                      replace q289 := eq_true q289
                                                      have p290 : 0 ≤ ((ji28) : Int) := of_decide_eq_true (by first | (with_reducible assumption) | assumption)
                                                      have q290 : (ji28) < (l0.length : Int) := of_decide_eq_true (by first | (with_reducible assumption) | assumption)
                                                      obtain ⟨ad290, e290, hx290_0⟩ := Kd.at_int HR0.out (ji28) p290 q290
                                                      cases e290
                                                      replace hx290_0 := (HB.out.cell (World.block_lt_of_cell? w _ hx290_0)).trans hx290_0
                                                      replace p290 := eq_true p290
                                                      replace q290 := eq_true q290
                                                      have p291 : 0 ≤ (x11_3 : Int) := of_decide_eq_true (by first | (with_reducible assumption) | assumption)
                                                      have q291 : x11_3 < (t283.length : Int) := of_decide_eq_true (by first | (with_reducible assumption) | assumption)
                                                      obtain ⟨ad291, e291, hx291_0⟩ := Kd.at_int (Kd.R_reads' HO_9.out).2.2 x11_3 p291 q291
                                                      obtain rfl : ad287 = ad291 := (by injection e291)
                                                      replace p291 := eq_true p291
                                                      replace q291 := eq_true q291
                                                      have p292 : 0 ≤ ((ji28) : Int) := of_decide_eq_true (by first | (with_reducible assumption) | assumption)
                                                      have q292 : (ji28) < (t283.length : Int) := of_decide_eq_true (by first | (with_reducible assumption) | assumption)
                                                      obtain ⟨ad292, e292, hx292_0⟩ := Kd.at_int (Kd.R_reads' HO_9.out).2.2 (ji28) p292 q292
                                                      obtain rfl : ad287 = ad292 := (by injection e292)
                                                      replace p292 := eq_true p292
                                                      replace q292 := eq_true q292
                                                      have p293 : 0 ≤ ((ji28) : Int) := of_decide_eq_true (by first | (with_reducible assumption) | assumption)
                                                      have q293 : (ji28) < (l0.length : Int) := of_decide_eq_true (by first | (with_reducible assumption) | assumption)
                                                      obtain ⟨ad293, e293, hx293_0⟩ := Kd.at_int HR0.out (ji28) p293 q293
                                                      obtain rfl : ad290 = ad293 := (by injection e293)
                                                      replace hx293_0 := (HB.out.cell (World.block_lt_of_cell? w _ hx293_0)).trans hx293_0
                                                      replace p293 := eq_true p293
                                                      replace q293 := eq_true q293
                                                      go_wp2
                                                      repeat (go_quiet (fail); try go_wp2)
                                                      go_roundg k3
                                                      case measure => have := HJ4.out; have := HK2.out; have := HK3.out; omega
                                                      case rel => exact ⟨(wrap64 (x11_3 + 1)), (by first | rfl | (simp; done) | (simp [*]; done)), H', ⟨by have := HJ4.out; have := HK2.out; have := HK3.out; omega⟩, ⟨by (with_reducible repeat (first | apply Kd.R_alloc | apply Kd.R_drewN | apply Kd.R_drew)); exact HO_8.out⟩, ⟨by (with_reducible repeat (first | apply Kd.R_alloc | apply Kd.R_drewN | apply Kd.R_drew)); exact HO_9.out⟩, ⟨by repeat (first | (with_reducible first | exact HB.out | apply below_alloc | apply pw_below_drewN | apply below_drew1) | exact HB.out)⟩⟩
                                      · rw [if_neg c32] at H
                                        exact absurd H (by simp)
                                    · rw [if_neg c31] at H
                                      exact absurd H (by simp)
                                  · rw [if_neg c30] at H
                                    exact absurd H (by simp)
                                · rw [if_neg c29] at H
                                  exact absurd H (by simp)
                              · rw [if_neg c27] at H
                                have c27b0 : decide (0 < x11_3) = false := decide_eq_false c27
                                clear c27
                                by_cases c47 : (wrap64 ((l0.length : Int) + 1)) = 0
                                · rw [if_pos c47] at H
                                  exact absurd H (by simp)
                                · rw [if_neg c47] at H
                                  have c47b0 : ((wrap64 ((l0.length : Int) + 1)) == 0) = false := beq_eq_false_iff_ne.mpr c47
                                  have c47b1 : ((wrap64 ((l0.length : Int) + 1)) != 0) = true := bne_iff_ne.mpr c47
                                  by_cases c48 : (rd t280 x11_3) < (wrap64 (Int.tdiv (wrap64 (a1 - t279)) (wrap64 ((l0.length : Int) + 1))))
                                  · rw [if_pos c48] at H
                                    exact absurd H (by simp)
                                  · rw [if_neg c48] at H
                                    have c48b0 : decide ((rd t280 x11_3) < (wrap64 (Int.tdiv (wrap64 (a1 - t279)) (wrap64 ((l0.length : Int) + 1))))) = false := decide_eq_false c48
                                    clear c48
                                    by_cases c49 : (rd t280 x11_3) > (wrap64 ((wrap64 (Int.tdiv (wrap64 (a1 - t279)) (wrap64 ((l0.length : Int) + 1)))) + 1))
                                    · rw [if_pos c49] at H
                                      exact absurd H (by simp)
                                    · rw [if_neg c49] at H
                                      have c49b0 : decide ((wrap64 ((wrap64 (Int.tdiv (wrap64 (a1 - t279)) (wrap64 ((l0.length : Int) + 1)))) + 1)) < (rd t280 x11_3)) = false := decide_eq_false c49
                                      clear c49
                                      by_cases c50 : x11_3 = 0
                                      · rw [if_pos c50] at H
                                        have c50b0 : (x11_3 == 0) = true := beq_iff_eq.mpr c50
                                        have c50b1 : (x11_3 != 0) = false := bne_eq_false_iff_eq.mpr c50
                                        clear c50
                                        by_cases c51 : (wrap64 (2 * (l0.length : Int))) = 0
                                        · rw [if_pos c51] at H
                                          exact absurd H (by simp)
                                        · rw [if_neg c51] at H
                                          have c51b0 : ((wrap64 (2 * (l0.length : Int))) == 0) = false := beq_eq_false_iff_ne.mpr c51
                                          have c51b1 : ((wrap64 (2 * (l0.length : Int))) != 0) = true := bne_iff_ne.mpr c51
                                          by_cases c52 : (rd t283 x11_3) < (wrap64 (Int.tdiv (wrap64 (a1 - t279)) (wrap64 (2 * (l0.length : Int)))))
                                          · rw [if_pos c52] at H
                                            exact absurd H (by simp)
                                          · rw [if_neg c52] at H
                                            have c52b0 : decide ((rd t283 x11_3) < (wrap64 (Int.tdiv (wrap64 (a1 - t279)) (wrap64 (2 * (l0.length : Int)))))) = false := decide_eq_false c52
                                            clear c52
                                            by_cases c53 : (rd t283 x11_3) > (wrap64 ((wrap64 (Int.tdiv (wrap64 (a1 - t279)) (wrap64 (2 * (l0.length : Int))))) + 1))
                                            · rw [if_pos c53] at H
                                              exact absurd H (by simp)
                                            · rw [if_neg c53] at H
                                              have c53b0 : decide ((wrap64 ((wrap64 (Int.tdiv (wrap64 (a1 - t279)) (wrap64 (2 * (l0.length : Int))))) + 1)) < (rd t283 x11_3)) = false := decide_eq_false c53
                                              clear c53
                                              have H' := Aside0.mk H
                                              clear H
                                              obtain ⟨Ao54, co54, eo54⟩ := Kd.R_slice HO_8.out
                                              subst eo54
                                              have p286 : 0 ≤ (x11_3 : Int) := of_decide_eq_true (by first | (with_reducible assumption) | assumption)
                                              have q286 : x11_3 < (t280.length : Int) := of_decide_eq_true (by first | (with_reducible assumption) | assumption)
                                              obtain ⟨ad286, e286, hx286_0⟩ := Kd.at_int (Kd.R_reads' HO_8.out).2.2 x11_3 p286 q286
                                              cases e286
                                              replace p286 := eq_true p286
                                              replace q286 := eq_true q286
                                              obtain ⟨Ao55, co55, eo55⟩ := Kd.R_slice HO_9.out
                                              subst eo55
                                              have p287 : 0 ≤ (x11_3 : Int) := of_decide_eq_true (by first | (with_reducible assumption) | assumption)
                                              have q287 : x11_3 < (t283.length : Int) := of_decide_eq_true (by first | (with_reducible assumption) | assumption)
                                              obtain ⟨ad287, e287, hx287_0⟩ := Kd.at_int (Kd.R_reads' HO_9.out).2.2 x11_3 p287 q287
                                              cases e287
                                              replace p287 := eq_true p287
                                              replace q287 := eq_true q287
                                              go_wp2
                                              repeat (go_quiet (fail); try go_wp2)
                                              go_roundg k3
                                              case measure => have := HJ4.out; have := HK2.out; have := HK3.out; omega
                                              case rel => exact ⟨(wrap64 (x11_3 + 1)), (by first | rfl | (simp; done) | (simp [*]; done)), H', ⟨by have := HJ4.out; have := HK2.out; have := HK3.out; omega⟩, ⟨by (with_reducible repeat (first | apply Kd.R_alloc | apply Kd.R_drewN | apply Kd.R_drew)); exact HO_8.out⟩, ⟨by (with_reducible repeat (first | apply Kd.R_alloc | apply Kd.R_drewN | apply Kd.R_drew)); exact HO_9.out⟩, ⟨by repeat (first | (with_reducible first | exact HB.out | apply below_alloc | apply pw_below_drewN | apply below_drew1) | exact HB.out)⟩⟩
                                      · rw [if_neg c50] at H
                                        have c50b0 : (x11_3 == 0) = false := beq_eq_false_iff_ne.mpr c50
                                        have c50b1 : (x11_3 != 0) = true := bne_iff_ne.mpr c50
                                        have H' := Aside0.mk H
                                        clear H
                                        obtain ⟨Ao56, co56, eo56⟩ := Kd.R_slice HO_8.out
                                        subst eo56
                                        have p286 : 0 ≤ (x11_3 : Int) := of_decide_eq_true (by first | (with_reducible assumption) | assumption)
                                        have q286 : x11_3 < (t280.length : Int) := of_decide_eq_true (by first | (with_reducible assumption) | assumption)
                                        obtain ⟨ad286, e286, hx286_0⟩ := Kd.at_int (Kd.R_reads' HO_8.out).2.2 x11_3 p286 q286
                                        cases e286
                                        replace p286 := eq_true p286
                                        replace q286 := eq_true q286
                                        obtain ⟨Ao57, co57, eo57⟩ := Kd.R_slice HO_9.out
                                        subst eo57
                                        have p287 : 0 ≤ (x11_3 : Int) := of_decide_eq_true (by first | (with_reducible assumption) | assumption)
                                        have q287 : x11_3 < (t283.length : Int) := of_decide_eq_true (by first | (with_reducible assumption) | assumption)
                                        obtain ⟨ad287, e287, hx287_0⟩ := Kd.at_int (Kd.R_reads' HO_9.out).2.2 x11_3 p287 q287
                                        cases e287
                                        replace p287 := eq_true p287
                                        replace q287 := eq_true q287
                                        go_wp2
                                        repeat (go_quiet (fail); try go_wp2)
                                        go_roundg k3
                                        case measure => have := HJ4.out; have := HK2.out; have := HK3.out; omega
                                        case rel => exact ⟨(wrap64 (x11_3 + 1)), (by first | rfl | (simp; done) | (simp [*]; done)), H', ⟨by have := HJ4.out; have := HK2.out; have := HK3.out; omega⟩, ⟨by (with_reducible repeat (first | apply Kd.R_alloc | apply Kd.R_drewN | apply Kd.R_drew)); exact HO_8.out⟩, ⟨by (with_reducible repeat (first | apply Kd.R_alloc | apply Kd.R_drewN | apply Kd.R_drew)); exact HO_9.out⟩, ⟨by repeat (first | (with_reducible first | exact HB.out | apply below_alloc | apply pw_below_drewN | apply below_drew1) | exact HB.out)⟩⟩
                            · rw [if_neg c26] at H
                              exact absurd H (by simp)
                          · rw [if_neg c25] at H
                            exact absurd H (by simp)
                        · rw [if_neg c24] at H
                          exact absurd H (by simp)
                      · rw [if_neg c23] at H
                        have c23b0 : decide (x11_3 < (l0.length : Int)) = false := decide_eq_false c23
                        clear c23
                        obtain rfl := Option.some.inj H
                        go_wp2
                        repeat (go_quiet (fail); try go_wp2)
                        go_ret
                        exact ⟨by first | rfl | (simp [errW_none, errW_some] <;> rfl) | (simp [*, errW_none, errW_some] <;> rfl), by repeat (first | (with_reducible first | exact HB.out | apply below_alloc | apply pw_below_drewN | apply below_drew1) | exact HB.out)⟩
  · replace c4 := Bool.eq_false_iff.mpr c4
    subst c4
    have H1 : (none) = some r := by rw [if_neg (show ¬ (false = true) by decide)] at H; exact H
    clear H
    have H := H1
    clear H1
    exact absurd H (by simp)

/-- THE ONE PURE STATEMENT of valancelaw09_JustifyEven: yours. -/
def valancelaw09_JustifyEven.Pure : Prop := ∀ (l0 : List Int) (a1 : Int), l0.length ≤ maxLen → l0.length * 8 ≤ 140737488351232 → (∀ x ∈ l0, (Lit.int .i64 x).wf = true) → (Lit.int .i64 a1).wf = true → ∃ k, valancelaw09_JustifyEven.f k l0 a1 = some true
theorem valancelaw09_JustifyEven.walk (P : valancelaw09_JustifyEven.Pure) (a0 : Option Addr) (len0 cap0 : Nat) (z0 : List Int) (a1 : Int) (w : World) (w0 : (a0 = none ∧ len0 = 0 ∧ cap0 = 0 ∧ z0 = []) ∨ ∃ x, a0 = some x ∧ len0 ≤ cap0 ∧ cap0 ≤ maxLen ∧ z0.length = cap0 ∧ (∀ i, i < z0.length → w.cell? (x.add i) = some (.int .i64 (z0.getD i 0))) ∧ ∀ n ∈ z0, (Lit.int .i64 n).wf = true) (y0 : len0 * 8 ≤ 140737488351232) (w1 : (Lit.int .i64 a1).wf = true) :
    Calls Try.prog 7 #[.slice a0 len0 cap0, .int .i64 a1] w fun e w' => e = .returned (.bool true) ∧ Below w.heap.size w w' := by
  obtain ⟨l0, rfl, hr0, hm0, hw0, hc0⟩ := ReadsInt.ofRowC w0
  obtain ⟨k, h⟩ := P l0 a1 hm0 y0 hw0 w1
  refine (valancelaw09_JustifyEven.calls k _ _ l0 a1 true w (Kd.C_of_reads (d := (0 : Int)) (h1 := fun _ => rfl) hr0) hc0 h).mono ?_
  rintro e w' ⟨rfl, hd⟩
  exact ⟨rfl, hd⟩

end Go.Proofs.Ytnmcefpnpfaklad.V
