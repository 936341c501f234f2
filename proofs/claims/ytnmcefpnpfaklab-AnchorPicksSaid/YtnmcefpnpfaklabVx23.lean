/- What the functions of this seat answer, as plain Lean functions, and that the calls come to just that (written by a program of this repo, over the kit's printer; Lean checks it). -/
import Derived.Test.YtnmcefpnpfaklabVx0
namespace Go.Proofs.Ytnmcefpnpfaklab.V
open Go.RowKit Go.Proofs.YtnmcefpnpfaklabW.PrintWords Go.Proofs.YtnmcefpnpfaklabW.PrintLast Go.Proofs.YtnmcefpnpfaklabW.PrintMore
attribute [local go_sem] max2_int min2_int max_two min_two max_three min_three max_four min_four   -- for this text's walks alone
set_option linter.unusedVariables false
set_option linter.unusedSimpArgs false

/-! ### valanceref12_Valid: function 26 -/
mutual
def valanceref12_Valid.l0 : Nat → List (S72) → Int → Option (Bool)
  | 0, _, _ => none
  | k + 1, x0, x3 => if x3 < (x0.length : Int) then (if 0 ≤ x3 then (if ((rd_T72 x0 x3).f0) < (-1) then (valanceref12_Valid.j1 k x0 x3 true) else (valanceref12_Valid.j1 k x0 x3 (decide (((rd_T72 x0 x3).f0) ≥ x3)))) else (none)) else (some true)
def valanceref12_Valid.j1 : Nat → List (S72) → Int → Bool → Option (Bool)
  | 0, _, _, _ => none
  | k + 1, x0, x3, x25 => if x25 = true then (some false) else (valanceref12_Valid.l1 k x0 x3 (wrap64 (x3 - 1)))
def valanceref12_Valid.l1 : Nat → List (S72) → Int → Int → Option (Bool)
  | 0, _, _, _ => none
  | k + 1, x0, x3, x4 => if x4 ≥ 0 then (if 0 ≤ x3 then (if x3 < (x0.length : Int) then (if x4 = ((rd_T72 x0 x3).f0) then (valanceref12_Valid.l0 k x0 (wrap64 (x3 + 1))) else (if 0 ≤ x4 then (if x4 < (x0.length : Int) then (valanceref12_Valid.l1 k x0 x3 ((rd_T72 x0 x4).f0)) else (none)) else (none))) else (none)) else (none)) else (if 0 ≤ x3 then (if x3 < (x0.length : Int) then (if x4 = ((rd_T72 x0 x3).f0) then (valanceref12_Valid.l0 k x0 (wrap64 (x3 + 1))) else (some false)) else (none)) else (none))
end
def valanceref12_Valid.f (k : Nat) (l0 : List (S72)) : Option (Bool) := valanceref12_Valid.l0 k l0 0
theorem valanceref12_Valid.mono_l : ∀ k, (∀ y0 y1, LeO (valanceref12_Valid.l0 k y0 y1) (valanceref12_Valid.l0 (k + 1) y0 y1)) ∧ (∀ y0 y1 y2, LeO (valanceref12_Valid.j1 k y0 y1 y2) (valanceref12_Valid.j1 (k + 1) y0 y1 y2)) ∧ (∀ y0 y1 y2, LeO (valanceref12_Valid.l1 k y0 y1 y2) (valanceref12_Valid.l1 (k + 1) y0 y1 y2))
  | 0 => ⟨fun _ _ r h => by simp [valanceref12_Valid.l0] at h, fun _ _ _ r h => by simp [valanceref12_Valid.j1] at h, fun _ _ _ r h => by simp [valanceref12_Valid.l1] at h⟩
  | k + 1 => by
    obtain ⟨ih0, ih1, ih2⟩ := valanceref12_Valid.mono_l k
    refine ⟨?_, ?_, ?_⟩
    · intro y0 y1
      unfold valanceref12_Valid.l0
      repeat' first
      | (with_reducible exact ih0 _ _)
      | (with_reducible exact ih1 _ _ _)
      | (with_reducible exact ih2 _ _ _)
      | (with_reducible exact LeO.refl _)
      | (with_reducible exact LeO.none _)
      | (with_reducible refine LeO.ite ?_ ?_)
      | (with_reducible refine LeO.bind ?_ (fun _ => ?_))
      | exact ih0 _ _
      | exact ih1 _ _ _
      | exact ih2 _ _ _
      | exact LeO.none _
      | refine LeO.ite ?_ ?_
      | refine LeO.bind ?_ (fun _ => ?_)
    · intro y0 y1 y2
      unfold valanceref12_Valid.j1
      repeat' first
      | (with_reducible exact ih0 _ _)
      | (with_reducible exact ih1 _ _ _)
      | (with_reducible exact ih2 _ _ _)
      | (with_reducible exact LeO.refl _)
      | (with_reducible exact LeO.none _)
      | (with_reducible refine LeO.ite ?_ ?_)
      | (with_reducible refine LeO.bind ?_ (fun _ => ?_))
      | exact ih0 _ _
      | exact ih1 _ _ _
      | exact ih2 _ _ _
      | exact LeO.none _
      | refine LeO.ite ?_ ?_
      | refine LeO.bind ?_ (fun _ => ?_)
    · intro y0 y1 y2
      unfold valanceref12_Valid.l1
      repeat' first
      | (with_reducible exact ih0 _ _)
      | (with_reducible exact ih1 _ _ _)
      | (with_reducible exact ih2 _ _ _)
      | (with_reducible exact LeO.refl _)
      | (with_reducible exact LeO.none _)
      | (with_reducible refine LeO.ite ?_ ?_)
      | (with_reducible refine LeO.bind ?_ (fun _ => ?_))
      | exact ih0 _ _
      | exact ih1 _ _ _
      | exact ih2 _ _ _
      | exact LeO.none _
      | refine LeO.ite ?_ ?_
      | refine LeO.bind ?_ (fun _ => ?_)
theorem valanceref12_Valid.mono : ∀ a0 k, LeO (valanceref12_Valid.f k a0) (valanceref12_Valid.f (k + 1) a0) := by
  intro a0 k
  obtain ⟨ih0, ih1, ih2⟩ := valanceref12_Valid.mono_l k
  unfold valanceref12_Valid.f
  repeat' first
      | (with_reducible exact ih0 _ _)
      | (with_reducible exact ih1 _ _ _)
      | (with_reducible exact ih2 _ _ _)
      | (with_reducible exact LeO.refl _)
      | (with_reducible exact LeO.none _)
      | (with_reducible refine LeO.ite ?_ ?_)
      | (with_reducible refine LeO.bind ?_ (fun _ => ?_))
      | exact ih0 _ _
      | exact ih1 _ _ _
      | exact ih2 _ _ _
      | exact LeO.none _
      | refine LeO.ite ?_ ?_
      | refine LeO.bind ?_ (fun _ => ?_)
set_option maxHeartbeats 8000000 in
set_option maxRecDepth 100000 in
theorem valanceref12_Valid.calls (k : Nat) (A0 : Option Addr) (c0 : Nat) (l0 : List (S72)) (r : Bool) (w : World) (hr0 : Kd.C k72 w A0 l0.length l0) (hc0 : l0.length ≤ c0) (h : valanceref12_Valid.f k l0 = some r) :
    Calls Try.prog 26 #[.slice A0 l0.length c0] w fun e w' => e = .returned (.bool r) ∧ Drawn0 w w' := by
  have HR0 := Aside0.mk hr0
  have HC0 := Aside0.mk hc0
  clear hr0 hc0
  have H : (valanceref12_Valid.l0 k l0 0) = some r := h
  clear h
  have H' := Aside0.mk H
  clear H
  go_enter Try.func26, Try.ntmps26
  go_wp2
  go_loopg [3] k (fun kq v3 w' => ∃ (x3_1 : Int), v3 = .int .i64 x3_1 ∧ Aside0 (valanceref12_Valid.l0 kq l0 x3_1 = some r) ∧ Aside0 (kq ≤ k) ∧ Drawn0 w w')
  case atStart => exact ⟨(0), (by first | rfl | (simp; done) | (simp [*]; done)), H', ⟨Nat.le_refl _⟩, by repeat (first | exact Drawn0.refl _ | apply Drawn0.step)⟩
  case round =>
    clear H'
    obtain ⟨x3_1, rfl, HA, HK1, ⟨m1, rfl⟩⟩ := hrel
    cases gk with
    | zero => exact absurd HA.out (by simp [valanceref12_Valid.l0])
    | succ k1 =>
      have H := HA.out
      clear HA
      simp only [valanceref12_Valid.l0] at H
      by_cases c2 : x3_1 < (l0.length : Int)
      · rw [if_pos c2] at H
        have c2b0 : decide (x3_1 < (l0.length : Int)) = true := decide_eq_true c2
        clear c2
        have HC3 := Aside0.mk H
        clear H
        go_upto_region 4 with (fail)
        go_cut [25] (fun v25 wc => ∃ (kq : Nat) (x25_2 : Bool), v25 = .bool x25_2 ∧ Aside0 (valanceref12_Valid.j1 kq l0 x3_1 x25_2 = some r) ∧ Aside0 (kq ≤ k1) ∧ Drawn0 w wc)
        case first =>
          have H := HC3.out
          clear HC3
          by_cases c4 : 0 ≤ x3_1
          · rw [if_pos c4] at H
            have c4b0 : decide (0 ≤ x3_1) = true := decide_eq_true c4
            clear c4
            (first | rw [c4b0] | (simp only [i64_w, i32_w]; rw [c4b0]) | skip)
            by_cases c5 : ((rd_T72 l0 x3_1).f0) < (-1)
            · rw [if_pos c5] at H
              have c5b0 : decide (((rd_T72 l0 x3_1).f0) < (-1)) = true := decide_eq_true c5
              clear c5
              have H' := Aside0.mk H
              clear H
              have p266 : 0 ≤ (x3_1 : Int) := of_decide_eq_true (by first | (with_reducible assumption) | assumption)
              have q266 : x3_1 < (l0.length : Int) := of_decide_eq_true (by first | (with_reducible assumption) | assumption)
              obtain ⟨ad266, e266, hx266_0, hx266_1, hx266_2, hx266_3⟩ := at_T72 HR0.out x3_1 p266 q266
              cases e266
              replace p266 := eq_true p266
              replace q266 := eq_true q266
              go_wp2
              go_meet
              case rel => exact ⟨_, (true), (by first | rfl | (simp; done) | (simp [*]; done)), H', ⟨by have := HK1.out; first | omega | exact Nat.le_refl _⟩, by repeat (first | exact Drawn0.refl _ | apply Drawn0.step)⟩
            · rw [if_neg c5] at H
              have c5b0 : decide (((rd_T72 l0 x3_1).f0) < (-1)) = false := decide_eq_false c5
              clear c5
              have H' := Aside0.mk H
              clear H
              have p266 : 0 ≤ (x3_1 : Int) := of_decide_eq_true (by first | (with_reducible assumption) | assumption)
              have q266 : x3_1 < (l0.length : Int) := of_decide_eq_true (by first | (with_reducible assumption) | assumption)
              obtain ⟨ad266, e266, hx266_0, hx266_1, hx266_2, hx266_3⟩ := at_T72 HR0.out x3_1 p266 q266
              cases e266
              replace p266 := eq_true p266
              replace q266 := eq_true q266
              have p267 : 0 ≤ (x3_1 : Int) := of_decide_eq_true (by first | (with_reducible assumption) | assumption)
              have q267 : x3_1 < (l0.length : Int) := of_decide_eq_true (by first | (with_reducible assumption) | assumption)
              obtain ⟨ad267, e267, hx267_0, hx267_1, hx267_2, hx267_3⟩ := at_T72 HR0.out x3_1 p267 q267
              obtain rfl : ad266 = ad267 := (by injection e267)
              replace p267 := eq_true p267
              replace q267 := eq_true q267
              go_wp2
              go_meet
              case rel => exact ⟨_, (decide (((rd_T72 l0 x3_1).f0) ≥ x3_1)), (by first | rfl | (simp; done) | (simp [*]; done)), H', ⟨by have := HK1.out; first | omega | exact Nat.le_refl _⟩, by repeat (first | exact Drawn0.refl _ | apply Drawn0.step)⟩
          · rw [if_neg c4] at H
            exact absurd H (by simp)
        case rest =>
          clear HC3
          try clear c2
          try clear c2b0
          try clear p2
          try clear q2
          try clear hx2
          try clear c4
          try clear c4b0
          try clear c5
          try clear c5b0
          try clear hx266_0
          try clear hx266_1
          try clear hx266_2
          try clear hx266_3
          try clear hx267_0
          try clear hx267_1
          try clear hx267_2
          try clear hx267_3
          try clear p266
          try clear p267
          try clear q266
          try clear q267
          obtain ⟨kq, x25_2, rfl, HA, HJ2, ⟨mc2, rfl⟩⟩ := hcut
          cases kq with
          | zero => exact absurd HA.out (by simp [valanceref12_Valid.j1])
          | succ kj2 =>
            have H := HA.out
            clear HA
            simp only [valanceref12_Valid.j1] at H
            by_cases c6 : x25_2 = true
            · subst c6
              have H1 : (some false) = some r := by rw [if_pos rfl] at H; exact H
              clear H
              have H := H1
              clear H1
              obtain rfl := Option.some.inj H
              go_wp2
              go_ret
              exact ⟨by first | rfl | (simp; done) | (simp [*]; done), by repeat (first | exact Drawn0.refl _ | apply Drawn0.step)⟩
            · replace c6 := Bool.eq_false_iff.mpr c6
              subst c6
              have H1 : (valanceref12_Valid.l1 kj2 l0 x3_1 (wrap64 (x3_1 - 1))) = some r := by rw [if_neg (show ¬ (false = true) by decide)] at H; exact H
              clear H
              have H := H1
              clear H1
              have H' := Aside0.mk H
              clear H
              go_wp2
              go_loopg [4] kj2 (fun kq v4 w' => ∃ (x4_3 : Int), v4 = .int .i64 x4_3 ∧ Aside0 (valanceref12_Valid.l1 kq l0 x3_1 x4_3 = some r) ∧ Aside0 (kq ≤ kj2) ∧ Drawn0 w w')
              case atStart => exact ⟨(wrap64 (x3_1 - 1)), (by first | rfl | (simp; done) | (simp [*]; done)), H', ⟨Nat.le_refl _⟩, by repeat (first | exact Drawn0.refl _ | apply Drawn0.step)⟩
              case round =>
                clear H'
                try clear c2
                try clear c2b0
                try clear p2
                try clear q2
                try clear hx2
                try clear c4
                try clear c4b0
                try clear c5
                try clear c5b0
                try clear c6
                try clear p6
                try clear hx266_0
                try clear hx266_1
                try clear hx266_2
                try clear hx266_3
                try clear hx267_0
                try clear hx267_1
                try clear hx267_2
                try clear hx267_3
                try clear p2
                try clear p266
                try clear p267
                try clear q2
                try clear q266
                try clear q267
                obtain ⟨x4_3, rfl, HA, HK3, ⟨m3, rfl⟩⟩ := hrel
                cases gk with
                | zero => exact absurd HA.out (by simp [valanceref12_Valid.l1])
                | succ k3 =>
                  have H := HA.out
                  clear HA
                  simp only [valanceref12_Valid.l1] at H
                  by_cases c7 : x4_3 ≥ 0
                  · rw [if_pos c7] at H
                    have c7b0 : decide (0 ≤ x4_3) = true := decide_eq_true c7
                    clear c7
                    by_cases c8 : 0 ≤ x3_1
                    · rw [if_pos c8] at H
                      have c8b0 : decide (0 ≤ x3_1) = true := decide_eq_true c8
                      clear c8
                      by_cases c9 : x3_1 < (l0.length : Int)
                      · rw [if_pos c9] at H
                        have c9b0 : decide (x3_1 < (l0.length : Int)) = true := decide_eq_true c9
                        clear c9
                        by_cases c10 : x4_3 = ((rd_T72 l0 x3_1).f0)
                        · rw [if_pos c10] at H
                          have c10b0 : (x4_3 == ((rd_T72 l0 x3_1).f0)) = true := beq_iff_eq.mpr c10
                          have c10b1 : (x4_3 != ((rd_T72 l0 x3_1).f0)) = false := bne_eq_false_iff_eq.mpr c10
                          clear c10
                          have H' := Aside0.mk H
                          clear H
                          have p268 : 0 ≤ (x3_1 : Int) := of_decide_eq_true (by first | (with_reducible assumption) | assumption)
                          have q268 : x3_1 < (l0.length : Int) := of_decide_eq_true (by first | (with_reducible assumption) | assumption)
                          obtain ⟨ad268, e268, hx268_0, hx268_1, hx268_2, hx268_3⟩ := at_T72 HR0.out x3_1 p268 q268
                          cases e268
                          replace p268 := eq_true p268
                          replace q268 := eq_true q268
                          have p269 : 0 ≤ (x3_1 : Int) := of_decide_eq_true (by first | (with_reducible assumption) | assumption)
                          have q269 : x3_1 < (l0.length : Int) := of_decide_eq_true (by first | (with_reducible assumption) | assumption)
                          obtain ⟨ad269, e269, hx269_0, hx269_1, hx269_2, hx269_3⟩ := at_T72 HR0.out x3_1 p269 q269
                          obtain rfl : ad268 = ad269 := (by injection e269)
                          replace p269 := eq_true p269
                          replace q269 := eq_true q269
                          go_wp2
                          go_roundg k3
                          case measure => have := HK1.out; have := HJ2.out; have := HK3.out; omega
                          case rel => exact ⟨(wrap64 (x3_1 + 1)), (by first | rfl | (simp; done) | (simp [*]; done)), H', ⟨by have := HK1.out; have := HJ2.out; have := HK3.out; omega⟩, by repeat (first | exact Drawn0.refl _ | apply Drawn0.step)⟩
                        · rw [if_neg c10] at H
                          have c10b0 : (x4_3 == ((rd_T72 l0 x3_1).f0)) = false := beq_eq_false_iff_ne.mpr c10
                          have c10b1 : (x4_3 != ((rd_T72 l0 x3_1).f0)) = true := bne_iff_ne.mpr c10
                          by_cases c11 : 0 ≤ x4_3
                          · rw [if_pos c11] at H
                            have c11b0 : decide (0 ≤ x4_3) = true := decide_eq_true c11
                            clear c11
                            by_cases c12 : x4_3 < (l0.length : Int)
                            · rw [if_pos c12] at H
                              have c12b0 : decide (x4_3 < (l0.length : Int)) = true := decide_eq_true c12
                              clear c12
                              have H' := Aside0.mk H
                              clear H
                              have p268 : 0 ≤ (x3_1 : Int) := of_decide_eq_true (by first | (with_reducible assumption) | assumption)
                              have q268 : x3_1 < (l0.length : Int) := of_decide_eq_true (by first | (with_reducible assumption) | assumption)
                              obtain ⟨ad268, e268, hx268_0, hx268_1, hx268_2, hx268_3⟩ := at_T72 HR0.out x3_1 p268 q268
                              cases e268
                              replace p268 := eq_true p268
                              replace q268 := eq_true q268
                              have p270 : 0 ≤ (x4_3 : Int) := of_decide_eq_true (by first | (with_reducible assumption) | assumption)
                              have q270 : x4_3 < (l0.length : Int) := of_decide_eq_true (by first | (with_reducible assumption) | assumption)
                              obtain ⟨ad270, e270, hx270_0, hx270_1, hx270_2, hx270_3⟩ := at_T72 HR0.out x4_3 p270 q270
                              obtain rfl : ad268 = ad270 := (by injection e270)
                              replace p270 := eq_true p270
                              replace q270 := eq_true q270
                              go_wp2
                              go_roundg k3
                              case measure => have := HK1.out; have := HJ2.out; have := HK3.out; omega
                              case rel => exact ⟨((rd_T72 l0 x4_3).f0), (by first | rfl | (simp; done) | (simp [*]; done)), H', ⟨by have := HK1.out; have := HJ2.out; have := HK3.out; omega⟩, by repeat (first | exact Drawn0.refl _ | apply Drawn0.step)⟩
                            · rw [if_neg c12] at H
                              exact absurd H (by simp)
                          · rw [if_neg c11] at H
                            exact absurd H (by simp)
                      · rw [if_neg c9] at H
                        exact absurd H (by simp)
                    · rw [if_neg c8] at H
                      exact absurd H (by simp)
                  · rw [if_neg c7] at H
                    have c7b0 : decide (0 ≤ x4_3) = false := decide_eq_false c7
                    clear c7
                    by_cases c13 : 0 ≤ x3_1
                    · rw [if_pos c13] at H
                      have c13b0 : decide (0 ≤ x3_1) = true := decide_eq_true c13
                      clear c13
                      by_cases c14 : x3_1 < (l0.length : Int)
                      · rw [if_pos c14] at H
                        have c14b0 : decide (x3_1 < (l0.length : Int)) = true := decide_eq_true c14
                        clear c14
                        by_cases c15 : x4_3 = ((rd_T72 l0 x3_1).f0)
                        · rw [if_pos c15] at H
                          have c15b0 : (x4_3 == ((rd_T72 l0 x3_1).f0)) = true := beq_iff_eq.mpr c15
                          have c15b1 : (x4_3 != ((rd_T72 l0 x3_1).f0)) = false := bne_eq_false_iff_eq.mpr c15
                          clear c15
                          have H' := Aside0.mk H
                          clear H
                          have p271 : 0 ≤ (x3_1 : Int) := of_decide_eq_true (by first | (with_reducible assumption) | assumption)
                          have q271 : x3_1 < (l0.length : Int) := of_decide_eq_true (by first | (with_reducible assumption) | assumption)
                          obtain ⟨ad271, e271, hx271_0, hx271_1, hx271_2, hx271_3⟩ := at_T72 HR0.out x3_1 p271 q271
                          cases e271
                          replace p271 := eq_true p271
                          replace q271 := eq_true q271
                          go_wp2
                          go_roundg k3
                          case measure => have := HK1.out; have := HJ2.out; have := HK3.out; omega
                          case rel => exact ⟨(wrap64 (x3_1 + 1)), (by first | rfl | (simp; done) | (simp [*]; done)), H', ⟨by have := HK1.out; have := HJ2.out; have := HK3.out; omega⟩, by repeat (first | exact Drawn0.refl _ | apply Drawn0.step)⟩
                        · rw [if_neg c15] at H
                          have c15b0 : (x4_3 == ((rd_T72 l0 x3_1).f0)) = false := beq_eq_false_iff_ne.mpr c15
                          have c15b1 : (x4_3 != ((rd_T72 l0 x3_1).f0)) = true := bne_iff_ne.mpr c15
                          obtain rfl := Option.some.inj H
                          have p271 : 0 ≤ (x3_1 : Int) := of_decide_eq_true (by first | (with_reducible assumption) | assumption)
                          have q271 : x3_1 < (l0.length : Int) := of_decide_eq_true (by first | (with_reducible assumption) | assumption)
                          obtain ⟨ad271, e271, hx271_0, hx271_1, hx271_2, hx271_3⟩ := at_T72 HR0.out x3_1 p271 q271
                          cases e271
                          replace p271 := eq_true p271
                          replace q271 := eq_true q271
                          go_wp2
                          go_ret
                          exact ⟨by first | rfl | (simp; done) | (simp [*]; done), by repeat (first | exact Drawn0.refl _ | apply Drawn0.step)⟩
                      · rw [if_neg c14] at H
                        exact absurd H (by simp)
                    · rw [if_neg c13] at H
                      exact absurd H (by simp)
      · rw [if_neg c2] at H
        have c2b0 : decide (x3_1 < (l0.length : Int)) = false := decide_eq_false c2
        clear c2
        obtain rfl := Option.some.inj H
        go_wp2
        go_ret
        exact ⟨by first | rfl | (simp; done) | (simp [*]; done), by repeat (first | exact Drawn0.refl _ | apply Drawn0.step)⟩

end Go.Proofs.Ytnmcefpnpfaklab.V
