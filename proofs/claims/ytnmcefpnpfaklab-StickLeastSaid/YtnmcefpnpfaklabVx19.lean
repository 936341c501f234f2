/- What the functions of this seat answer, as plain Lean functions, and that the calls come to just that (written by a program of this repo, over the kit's printer; Lean checks it). -/
import Derived.Test.YtnmcefpnpfaklabVx0
import Derived.Test.YtnmcefpnpfaklabVx3
import Derived.Test.YtnmcefpnpfaklabVx7
import Derived.Test.YtnmcefpnpfaklabVx17
namespace Go.Proofs.Ytnmcefpnpfaklab.V
open Go.RowKit Go.Proofs.YtnmcefpnpfaklabW.PrintWords Go.Proofs.YtnmcefpnpfaklabW.PrintLast Go.Proofs.YtnmcefpnpfaklabW.PrintMore
attribute [local go_sem] max2_int min2_int max_two min_two max_three min_three max_four min_four   -- for this text's walks alone
set_option linter.unusedVariables false
set_option linter.unusedSimpArgs false

/-! ### valancelaw10_StickLeast: function 6 -/
mutual
def valancelaw10_StickLeast.j0 : Nat → Bool → Bool → Int → Int → Int → Int → Int → Int → Bool → Int → Bool → Int → Option (Bool)
  | 0, _, _, _, _, _, _, _, _, _, _, _, _ => none
  | k + 1, x11, x51, x218000, x218001, x219000, x219001, x220000, x220001, x221000, x221001, x222000, x222001 => if x51 = true then (some x11) else ((stick_Shift.f k x218000 x218001 x219000 x219001 x220000 x220001 x221000 x221001 x222000 x222001).bind fun t226 => (if x221000 = true then (valancelaw10_StickLeast.j1 k x11 t226 (decide (x218000 ≥ (wrap64 (x220000 + x221001)))) x218000 x218001 x219000 x219001 x220000 x220001 x221000 x221001 x222000 x222001) else (valancelaw10_StickLeast.j1 k x11 t226 true x218000 x218001 x219000 x219001 x220000 x220001 x221000 x221001 x222000 x222001)))
def valancelaw10_StickLeast.j1 : Nat → Bool → Int → Bool → Int → Int → Int → Int → Int → Int → Bool → Int → Bool → Int → Option (Bool)
  | 0, _, _, _, _, _, _, _, _, _, _, _, _, _ => none
  | k + 1, x11, x12, x13, x218000, x218001, x219000, x219001, x220000, x220001, x221000, x221001, x222000, x222001 => if x222000 = true then (valancelaw10_StickLeast.j2 k x11 x12 x13 (decide (x218001 ≤ (wrap64 (x220001 - x222001)))) x218000 x218001 x219000 x219001 x220000 x220001 x221000 x221001 x222000 x222001) else (valancelaw10_StickLeast.j2 k x11 x12 x13 true x218000 x218001 x219000 x219001 x220000 x220001 x221000 x221001 x222000 x222001)
def valancelaw10_StickLeast.j2 : Nat → Bool → Int → Bool → Bool → Int → Int → Int → Int → Int → Int → Bool → Int → Bool → Int → Option (Bool)
  | 0, _, _, _, _, _, _, _, _, _, _, _, _, _, _ => none
  | k + 1, x11, x12, x13, x14, x218000, x218001, x219000, x219001, x220000, x220001, x221000, x221001, x222000, x222001 => if x13 = true then (if x14 = true then (if x12 = 0 then (if x12 > 0 then (valancelaw10_StickLeast.j3 k x11 x12 true x218000 x218001 x219000 x219001 x220000 x220001 x221000 x221001 x222000 x222001) else (valancelaw10_StickLeast.j3 k x11 x12 (decide (x12 < 0)) x218000 x218001 x219000 x219001 x220000 x220001 x221000 x221001 x222000 x222001)) else (valancelaw10_StickLeast.j3 k x11 x12 true x218000 x218001 x219000 x219001 x220000 x220001 x221000 x221001 x222000 x222001)) else (if x12 > 0 then (valancelaw10_StickLeast.j3 k x11 x12 true x218000 x218001 x219000 x219001 x220000 x220001 x221000 x221001 x222000 x222001) else (valancelaw10_StickLeast.j3 k x11 x12 false x218000 x218001 x219000 x219001 x220000 x220001 x221000 x221001 x222000 x222001))) else (if x14 = true then (valancelaw10_StickLeast.j3 k x11 x12 (decide (x12 < 0)) x218000 x218001 x219000 x219001 x220000 x220001 x221000 x221001 x222000 x222001) else (valancelaw10_StickLeast.j3 k x11 x12 false x218000 x218001 x219000 x219001 x220000 x220001 x221000 x221001 x222000 x222001))
def valancelaw10_StickLeast.j3 : Nat → Bool → Int → Bool → Int → Int → Int → Int → Int → Int → Bool → Int → Bool → Int → Option (Bool)
  | 0, _, _, _, _, _, _, _, _, _, _, _, _, _ => none
  | k + 1, x11, x12, x106, x218000, x218001, x219000, x219001, x220000, x220001, x221000, x221001, x222000, x222001 => if x106 = true then (none) else (if x12 > 0 then (if (wrap64 (x218001 + x12)) = x219001 then (if x221000 = true then (if x11 = true then (if x12 ≥ 0 then (some true) else (if (wrap64 (x218000 + x12)) = x219000 then (some true) else (if (wrap64 (x218001 + x12)) = (wrap64 (x220001 - x222001)) then (some true) else (some ((wrap64 (x218000 + x12)) == (wrap64 (x220000 + x221001))))))) else (none)) else (if x11 = true then (if x12 ≥ 0 then (some true) else (if (wrap64 (x218000 + x12)) = x219000 then (some true) else (if (wrap64 (x218001 + x12)) = (wrap64 (x220001 - x222001)) then (some true) else (none)))) else (none))) else (if (wrap64 (x218000 + x12)) = (wrap64 (x220000 + x221001)) then (if x221000 = true then (if x11 = true then (if x12 ≥ 0 then (some true) else (if (wrap64 (x218000 + x12)) = x219000 then (some true) else (if (wrap64 (x218001 + x12)) = (wrap64 (x220001 - x222001)) then (some true) else (some ((wrap64 (x218000 + x12)) == (wrap64 (x220000 + x221001))))))) else (none)) else (if x11 = true then (if x12 ≥ 0 then (some true) else (if (wrap64 (x218000 + x12)) = x219000 then (some true) else (if (wrap64 (x218001 + x12)) = (wrap64 (x220001 - x222001)) then (some true) else (none)))) else (none))) else (none))) else (if x221000 = true then (if x11 = true then (if x12 ≥ 0 then (some true) else (if (wrap64 (x218000 + x12)) = x219000 then (some true) else (if (wrap64 (x218001 + x12)) = (wrap64 (x220001 - x222001)) then (some true) else (some ((wrap64 (x218000 + x12)) == (wrap64 (x220000 + x221001))))))) else (none)) else (if x11 = true then (if x12 ≥ 0 then (some true) else (if (wrap64 (x218000 + x12)) = x219000 then (some true) else (if (wrap64 (x218001 + x12)) = (wrap64 (x220001 - x222001)) then (some true) else (none)))) else (none))))
end
def valancelaw10_StickLeast.f (k : Nat) (a0_0 : Int) (a0_1 : Int) (a1_0 : Int) (a1_1 : Int) (a2_0 : Int) (a2_1 : Int) (a3_0 : Bool) (a3_1 : Int) (a4_0 : Bool) (a4_1 : Int) : Option (Bool) := (valancelaw10_works.f).bind fun t222 => (if t222 = true then ((valancelaw10_small.f a0_0 a0_1).bind fun t223 => (if t223 = true then ((valancelaw10_small.f a1_0 a1_1).bind fun t224 => (if t224 = true then ((valancelaw10_small.f a2_0 a2_1).bind fun t225 => (if t225 = true then (if a3_1 < (-1073741824) then (valancelaw10_StickLeast.j0 k t222 true a0_0 a0_1 a1_0 a1_1 a2_0 a2_1 a3_0 a3_1 a4_0 a4_1) else (if a3_1 > 1073741824 then (valancelaw10_StickLeast.j0 k t222 true a0_0 a0_1 a1_0 a1_1 a2_0 a2_1 a3_0 a3_1 a4_0 a4_1) else (if a4_1 < (-1073741824) then (valancelaw10_StickLeast.j0 k t222 true a0_0 a0_1 a1_0 a1_1 a2_0 a2_1 a3_0 a3_1 a4_0 a4_1) else (valancelaw10_StickLeast.j0 k t222 (decide (a4_1 > 1073741824)) a0_0 a0_1 a1_0 a1_1 a2_0 a2_1 a3_0 a3_1 a4_0 a4_1)))) else (valancelaw10_StickLeast.j0 k t222 true a0_0 a0_1 a1_0 a1_1 a2_0 a2_1 a3_0 a3_1 a4_0 a4_1))) else (valancelaw10_StickLeast.j0 k t222 true a0_0 a0_1 a1_0 a1_1 a2_0 a2_1 a3_0 a3_1 a4_0 a4_1))) else (valancelaw10_StickLeast.j0 k t222 true a0_0 a0_1 a1_0 a1_1 a2_0 a2_1 a3_0 a3_1 a4_0 a4_1))) else (none))
theorem valancelaw10_StickLeast.mono_l : ∀ k, (∀ y0 y1 y2 y3 y4 y5 y6 y7 y8 y9 y10 y11, LeO (valancelaw10_StickLeast.j0 k y0 y1 y2 y3 y4 y5 y6 y7 y8 y9 y10 y11) (valancelaw10_StickLeast.j0 (k + 1) y0 y1 y2 y3 y4 y5 y6 y7 y8 y9 y10 y11)) ∧ (∀ y0 y1 y2 y3 y4 y5 y6 y7 y8 y9 y10 y11 y12, LeO (valancelaw10_StickLeast.j1 k y0 y1 y2 y3 y4 y5 y6 y7 y8 y9 y10 y11 y12) (valancelaw10_StickLeast.j1 (k + 1) y0 y1 y2 y3 y4 y5 y6 y7 y8 y9 y10 y11 y12)) ∧ (∀ y0 y1 y2 y3 y4 y5 y6 y7 y8 y9 y10 y11 y12 y13, LeO (valancelaw10_StickLeast.j2 k y0 y1 y2 y3 y4 y5 y6 y7 y8 y9 y10 y11 y12 y13) (valancelaw10_StickLeast.j2 (k + 1) y0 y1 y2 y3 y4 y5 y6 y7 y8 y9 y10 y11 y12 y13)) ∧ (∀ y0 y1 y2 y3 y4 y5 y6 y7 y8 y9 y10 y11 y12, LeO (valancelaw10_StickLeast.j3 k y0 y1 y2 y3 y4 y5 y6 y7 y8 y9 y10 y11 y12) (valancelaw10_StickLeast.j3 (k + 1) y0 y1 y2 y3 y4 y5 y6 y7 y8 y9 y10 y11 y12))
  | 0 => ⟨fun _ _ _ _ _ _ _ _ _ _ _ _ r h => by simp [valancelaw10_StickLeast.j0] at h, fun _ _ _ _ _ _ _ _ _ _ _ _ _ r h => by simp [valancelaw10_StickLeast.j1] at h, fun _ _ _ _ _ _ _ _ _ _ _ _ _ _ r h => by simp [valancelaw10_StickLeast.j2] at h, fun _ _ _ _ _ _ _ _ _ _ _ _ _ r h => by simp [valancelaw10_StickLeast.j3] at h⟩
  | k + 1 => by
    obtain ⟨ih0, ih1, ih2, ih3⟩ := valancelaw10_StickLeast.mono_l k
    refine ⟨?_, ?_, ?_, ?_⟩
    · intro y0 y1 y2 y3 y4 y5 y6 y7 y8 y9 y10 y11
      unfold valancelaw10_StickLeast.j0
      repeat' first
      | (with_reducible exact ih0 _ _ _ _ _ _ _ _ _ _ _ _)
      | (with_reducible exact ih1 _ _ _ _ _ _ _ _ _ _ _ _ _)
      | (with_reducible exact ih2 _ _ _ _ _ _ _ _ _ _ _ _ _ _)
      | (with_reducible exact ih3 _ _ _ _ _ _ _ _ _ _ _ _ _)
      | (with_reducible exact stick_Shift.mono _ _ _ _ _ _ _ _ _ _ _)
      | (with_reducible exact LeO.refl _)
      | (with_reducible exact LeO.none _)
      | (with_reducible refine LeO.ite ?_ ?_)
      | (with_reducible refine LeO.bind ?_ (fun _ => ?_))
      | exact ih0 _ _ _ _ _ _ _ _ _ _ _ _
      | exact ih1 _ _ _ _ _ _ _ _ _ _ _ _ _
      | exact ih2 _ _ _ _ _ _ _ _ _ _ _ _ _ _
      | exact ih3 _ _ _ _ _ _ _ _ _ _ _ _ _
      | exact stick_Shift.mono _ _ _ _ _ _ _ _ _ _ _
      | exact LeO.none _
      | refine LeO.ite ?_ ?_
      | refine LeO.bind ?_ (fun _ => ?_)
    · intro y0 y1 y2 y3 y4 y5 y6 y7 y8 y9 y10 y11 y12
      unfold valancelaw10_StickLeast.j1
      repeat' first
      | (with_reducible exact ih0 _ _ _ _ _ _ _ _ _ _ _ _)
      | (with_reducible exact ih1 _ _ _ _ _ _ _ _ _ _ _ _ _)
      | (with_reducible exact ih2 _ _ _ _ _ _ _ _ _ _ _ _ _ _)
      | (with_reducible exact ih3 _ _ _ _ _ _ _ _ _ _ _ _ _)
      | (with_reducible exact stick_Shift.mono _ _ _ _ _ _ _ _ _ _ _)
      | (with_reducible exact LeO.refl _)
      | (with_reducible exact LeO.none _)
      | (with_reducible refine LeO.ite ?_ ?_)
      | (with_reducible refine LeO.bind ?_ (fun _ => ?_))
      | exact ih0 _ _ _ _ _ _ _ _ _ _ _ _
      | exact ih1 _ _ _ _ _ _ _ _ _ _ _ _ _
      | exact ih2 _ _ _ _ _ _ _ _ _ _ _ _ _ _
      | exact ih3 _ _ _ _ _ _ _ _ _ _ _ _ _
      | exact stick_Shift.mono _ _ _ _ _ _ _ _ _ _ _
      | exact LeO.none _
      | refine LeO.ite ?_ ?_
      | refine LeO.bind ?_ (fun _ => ?_)
    · intro y0 y1 y2 y3 y4 y5 y6 y7 y8 y9 y10 y11 y12 y13
      unfold valancelaw10_StickLeast.j2
      repeat' first
      | (with_reducible exact ih0 _ _ _ _ _ _ _ _ _ _ _ _)
      | (with_reducible exact ih1 _ _ _ _ _ _ _ _ _ _ _ _ _)
      | (with_reducible exact ih2 _ _ _ _ _ _ _ _ _ _ _ _ _ _)
      | (with_reducible exact ih3 _ _ _ _ _ _ _ _ _ _ _ _ _)
      | (with_reducible exact stick_Shift.mono _ _ _ _ _ _ _ _ _ _ _)
      | (with_reducible exact LeO.refl _)
      | (with_reducible exact LeO.none _)
      | (with_reducible refine LeO.ite ?_ ?_)
      | (with_reducible refine LeO.bind ?_ (fun _ => ?_))
      | exact ih0 _ _ _ _ _ _ _ _ _ _ _ _
      | exact ih1 _ _ _ _ _ _ _ _ _ _ _ _ _
      | exact ih2 _ _ _ _ _ _ _ _ _ _ _ _ _ _
      | exact ih3 _ _ _ _ _ _ _ _ _ _ _ _ _
      | exact stick_Shift.mono _ _ _ _ _ _ _ _ _ _ _
      | exact LeO.none _
      | refine LeO.ite ?_ ?_
      | refine LeO.bind ?_ (fun _ => ?_)
    · intro y0 y1 y2 y3 y4 y5 y6 y7 y8 y9 y10 y11 y12
      unfold valancelaw10_StickLeast.j3
      repeat' first
      | (with_reducible exact ih0 _ _ _ _ _ _ _ _ _ _ _ _)
      | (with_reducible exact ih1 _ _ _ _ _ _ _ _ _ _ _ _ _)
      | (with_reducible exact ih2 _ _ _ _ _ _ _ _ _ _ _ _ _ _)
      | (with_reducible exact ih3 _ _ _ _ _ _ _ _ _ _ _ _ _)
      | (with_reducible exact stick_Shift.mono _ _ _ _ _ _ _ _ _ _ _)
      | (with_reducible exact LeO.refl _)
      | (with_reducible exact LeO.none _)
      | (with_reducible refine LeO.ite ?_ ?_)
      | (with_reducible refine LeO.bind ?_ (fun _ => ?_))
      | exact ih0 _ _ _ _ _ _ _ _ _ _ _ _
      | exact ih1 _ _ _ _ _ _ _ _ _ _ _ _ _
      | exact ih2 _ _ _ _ _ _ _ _ _ _ _ _ _ _
      | exact ih3 _ _ _ _ _ _ _ _ _ _ _ _ _
      | exact stick_Shift.mono _ _ _ _ _ _ _ _ _ _ _
      | exact LeO.none _
      | refine LeO.ite ?_ ?_
      | refine LeO.bind ?_ (fun _ => ?_)
theorem valancelaw10_StickLeast.mono : ∀ a0 a1 a2 a3 a4 a5 a6 a7 a8 a9 k, LeO (valancelaw10_StickLeast.f k a0 a1 a2 a3 a4 a5 a6 a7 a8 a9) (valancelaw10_StickLeast.f (k + 1) a0 a1 a2 a3 a4 a5 a6 a7 a8 a9) := by
  intro a0 a1 a2 a3 a4 a5 a6 a7 a8 a9 k
  obtain ⟨ih0, ih1, ih2, ih3⟩ := valancelaw10_StickLeast.mono_l k
  unfold valancelaw10_StickLeast.f
  repeat' first
      | (with_reducible exact ih0 _ _ _ _ _ _ _ _ _ _ _ _)
      | (with_reducible exact ih1 _ _ _ _ _ _ _ _ _ _ _ _ _)
      | (with_reducible exact ih2 _ _ _ _ _ _ _ _ _ _ _ _ _ _)
      | (with_reducible exact ih3 _ _ _ _ _ _ _ _ _ _ _ _ _)
      | (with_reducible exact stick_Shift.mono _ _ _ _ _ _ _ _ _ _ _)
      | (with_reducible exact LeO.refl _)
      | (with_reducible exact LeO.none _)
      | (with_reducible refine LeO.ite ?_ ?_)
      | (with_reducible refine LeO.bind ?_ (fun _ => ?_))
      | exact ih0 _ _ _ _ _ _ _ _ _ _ _ _
      | exact ih1 _ _ _ _ _ _ _ _ _ _ _ _ _
      | exact ih2 _ _ _ _ _ _ _ _ _ _ _ _ _ _
      | exact ih3 _ _ _ _ _ _ _ _ _ _ _ _ _
      | exact stick_Shift.mono _ _ _ _ _ _ _ _ _ _ _
      | exact LeO.none _
      | refine LeO.ite ?_ ?_
      | refine LeO.bind ?_ (fun _ => ?_)
set_option maxHeartbeats 8000000 in
set_option maxRecDepth 100000 in
theorem valancelaw10_StickLeast.calls (k : Nat) (a0_0 : Int) (a0_1 : Int) (a1_0 : Int) (a1_1 : Int) (a2_0 : Int) (a2_1 : Int) (a3_0 : Bool) (a3_1 : Int) (a4_0 : Bool) (a4_1 : Int) (r : Bool) (w : World) (h : valancelaw10_StickLeast.f k a0_0 a0_1 a1_0 a1_1 a2_0 a2_1 a3_0 a3_1 a4_0 a4_1 = some r) :
    Calls Try.prog 6 #[.agg #[.int .i64 a0_0, .int .i64 a0_1], .agg #[.int .i64 a1_0, .int .i64 a1_1], .agg #[.int .i64 a2_0, .int .i64 a2_1], .agg #[.bool a3_0, .int .i64 a3_1], .agg #[.bool a4_0, .int .i64 a4_1]] w fun e w' => e = .returned (.bool r) ∧ Below w.heap.size w w' := by
  have hu23 := Try.underlying23
  have hu25 := Try.underlying25
  have HB := Aside0.mk (Below.refl w.heap.size w)
  have H : ((valancelaw10_works.f).bind fun t222 => (if t222 = true then ((valancelaw10_small.f a0_0 a0_1).bind fun t223 => (if t223 = true then ((valancelaw10_small.f a1_0 a1_1).bind fun t224 => (if t224 = true then ((valancelaw10_small.f a2_0 a2_1).bind fun t225 => (if t225 = true then (if a3_1 < (-1073741824) then (valancelaw10_StickLeast.j0 k t222 true a0_0 a0_1 a1_0 a1_1 a2_0 a2_1 a3_0 a3_1 a4_0 a4_1) else (if a3_1 > 1073741824 then (valancelaw10_StickLeast.j0 k t222 true a0_0 a0_1 a1_0 a1_1 a2_0 a2_1 a3_0 a3_1 a4_0 a4_1) else (if a4_1 < (-1073741824) then (valancelaw10_StickLeast.j0 k t222 true a0_0 a0_1 a1_0 a1_1 a2_0 a2_1 a3_0 a3_1 a4_0 a4_1) else (valancelaw10_StickLeast.j0 k t222 (decide (a4_1 > 1073741824)) a0_0 a0_1 a1_0 a1_1 a2_0 a2_1 a3_0 a3_1 a4_0 a4_1)))) else (valancelaw10_StickLeast.j0 k t222 true a0_0 a0_1 a1_0 a1_1 a2_0 a2_1 a3_0 a3_1 a4_0 a4_1))) else (valancelaw10_StickLeast.j0 k t222 true a0_0 a0_1 a1_0 a1_1 a2_0 a2_1 a3_0 a3_1 a4_0 a4_1))) else (valancelaw10_StickLeast.j0 k t222 true a0_0 a0_1 a1_0 a1_1 a2_0 a2_1 a3_0 a3_1 a4_0 a4_1))) else (none))) = some r := h
  clear h
  replace H := Option.bind_eq_some_iff.mp H
  obtain ⟨t222, A60, H⟩ := H
  replace H : (if t222 = true then ((valancelaw10_small.f a0_0 a0_1).bind fun t223 => (if t223 = true then ((valancelaw10_small.f a1_0 a1_1).bind fun t224 => (if t224 = true then ((valancelaw10_small.f a2_0 a2_1).bind fun t225 => (if t225 = true then (if a3_1 < (-1073741824) then (valancelaw10_StickLeast.j0 k t222 true a0_0 a0_1 a1_0 a1_1 a2_0 a2_1 a3_0 a3_1 a4_0 a4_1) else (if a3_1 > 1073741824 then (valancelaw10_StickLeast.j0 k t222 true a0_0 a0_1 a1_0 a1_1 a2_0 a2_1 a3_0 a3_1 a4_0 a4_1) else (if a4_1 < (-1073741824) then (valancelaw10_StickLeast.j0 k t222 true a0_0 a0_1 a1_0 a1_1 a2_0 a2_1 a3_0 a3_1 a4_0 a4_1) else (valancelaw10_StickLeast.j0 k t222 (decide (a4_1 > 1073741824)) a0_0 a0_1 a1_0 a1_1 a2_0 a2_1 a3_0 a3_1 a4_0 a4_1)))) else (valancelaw10_StickLeast.j0 k t222 true a0_0 a0_1 a1_0 a1_1 a2_0 a2_1 a3_0 a3_1 a4_0 a4_1))) else (valancelaw10_StickLeast.j0 k t222 true a0_0 a0_1 a1_0 a1_1 a2_0 a2_1 a3_0 a3_1 a4_0 a4_1))) else (valancelaw10_StickLeast.j0 k t222 true a0_0 a0_1 a1_0 a1_1 a2_0 a2_1 a3_0 a3_1 a4_0 a4_1))) else (none)) = some r := H
  have A6 := Aside0.mk A60
  clear A60
  by_cases c7 : t222 = true
  · subst c7
    have H1 : ((valancelaw10_small.f a0_0 a0_1).bind fun t223 => (if t223 = true then ((valancelaw10_small.f a1_0 a1_1).bind fun t224 => (if t224 = true then ((valancelaw10_small.f a2_0 a2_1).bind fun t225 => (if t225 = true then (if a3_1 < (-1073741824) then (valancelaw10_StickLeast.j0 k true true a0_0 a0_1 a1_0 a1_1 a2_0 a2_1 a3_0 a3_1 a4_0 a4_1) else (if a3_1 > 1073741824 then (valancelaw10_StickLeast.j0 k true true a0_0 a0_1 a1_0 a1_1 a2_0 a2_1 a3_0 a3_1 a4_0 a4_1) else (if a4_1 < (-1073741824) then (valancelaw10_StickLeast.j0 k true true a0_0 a0_1 a1_0 a1_1 a2_0 a2_1 a3_0 a3_1 a4_0 a4_1) else (valancelaw10_StickLeast.j0 k true (decide (a4_1 > 1073741824)) a0_0 a0_1 a1_0 a1_1 a2_0 a2_1 a3_0 a3_1 a4_0 a4_1)))) else (valancelaw10_StickLeast.j0 k true true a0_0 a0_1 a1_0 a1_1 a2_0 a2_1 a3_0 a3_1 a4_0 a4_1))) else (valancelaw10_StickLeast.j0 k true true a0_0 a0_1 a1_0 a1_1 a2_0 a2_1 a3_0 a3_1 a4_0 a4_1))) else (valancelaw10_StickLeast.j0 k true true a0_0 a0_1 a1_0 a1_1 a2_0 a2_1 a3_0 a3_1 a4_0 a4_1))) = some r := by rw [if_pos rfl] at H; exact H
    clear H
    have H := H1
    clear H1
    have HC8 := Aside0.mk H
    clear H
    go_enter Try.func6, Try.ntmps6
    go_upto_region 4 with (first | ((with_reducible refine gate_dst (N := 5) rfl ?_); refine box_event ?hg (N := 5) ?hd (cs := #[.int .i64 a0_0, .int .i64 a0_1]) (t := 23) ?hr ?_; (case hd => rfl); (case hg => rfl); (case hr => first | (go_simp; done) | (go_simp; rfl)); intro gb217 hg w9 hbox hb; have n0_ := Aside0.mk (below_step (by repeat (first | (with_reducible first | exact HB.out | apply below_alloc | apply pw_below_drewN | apply below_drew1) | exact HB.out)) hb); have n1_ := Aside0.mk (hbox); have n2_ := Aside0.mk ((by rw [hg]; exact (below_size (by repeat (first | (with_reducible first | exact HB.out | apply below_alloc | apply pw_below_drewN | apply below_drew1) | exact HB.out))) : w.heap.size ≤ gb217)); have n3_ := Aside0.mk ((by rw [hg]; exact (below_size (by repeat (first | (with_reducible first | exact HB.out | apply below_alloc | apply pw_below_drewN | apply below_drew1) | exact HB.out))) : w.heap.size ≤ gb217)); clear HB; have HB := n0_; have BK217 := n1_; have GW217 := n2_; have GE217 := n3_; clear n0_ n1_ n2_ n3_; clear hb hbox hg) | ((with_reducible refine gate_dst (N := 6) rfl ?_); refine box_event ?hg (N := 6) ?hd (cs := #[.int .i64 a1_0, .int .i64 a1_1]) (t := 23) ?hr ?_; (case hd => rfl); (case hg => rfl); (case hr => first | (go_simp; done) | (go_simp; rfl)); intro gb218 hg w10 hbox hb; have n0_ := Aside0.mk (blk_below (g := gb217) (o := .cells #[.int .i64 a0_0, .int .i64 a0_1] 23 (0, 0)) (by (with_reducible repeat (first | refine blk_drewN ?_ _ | refine blk_drew ?_ | refine blk_alloc ?_ _)); exact BK217.out) hb); have n1_ := Aside0.mk (below_step (by repeat (first | (with_reducible first | exact HB.out | apply below_alloc | apply pw_below_drewN | apply below_drew1 | refine below_set ?_ GE217.out) | exact HB.out)) hb); have n2_ := Aside0.mk (hbox); have n3_ := Aside0.mk ((by rw [hg]; exact (below_size (by repeat (first | (with_reducible first | exact HB.out | apply below_alloc | apply pw_below_drewN | apply below_drew1 | refine below_set ?_ GE217.out) | exact HB.out))) : w.heap.size ≤ gb218)); have n4_ := Aside0.mk ((by rw [hg]; exact (below_size (by repeat (first | (with_reducible first | exact HB.out | apply below_alloc | apply pw_below_drewN | apply below_drew1 | refine below_set ?_ GE217.out) | exact HB.out))) : w.heap.size ≤ gb218)); have n5_ := Aside0.mk ((by rw [hg]; exact Nat.ne_of_lt (blk_lt (g := gb217) (o := .cells #[.int .i64 a0_0, .int .i64 a0_1] 23 (0, 0)) (by (with_reducible repeat (first | refine blk_drewN ?_ _ | refine blk_drew ?_ | refine blk_alloc ?_ _)); exact BK217.out)) : gb217 ≠ gb218)); have n6_ := Aside0.mk ((by rw [hg]; exact Nat.ne_of_gt (blk_lt (g := gb217) (o := .cells #[.int .i64 a0_0, .int .i64 a0_1] 23 (0, 0)) (by (with_reducible repeat (first | refine blk_drewN ?_ _ | refine blk_drew ?_ | refine blk_alloc ?_ _)); exact BK217.out)) : gb218 ≠ gb217)); clear BK217; clear HB; have BK217 := n0_; have HB := n1_; have BK218 := n2_; have GW218 := n3_; have GE218 := n4_; have NB217_218 := n5_; have NB218_217 := n6_; clear n0_ n1_ n2_ n3_ n4_ n5_ n6_; clear hb hbox hg) | ((with_reducible refine gate_dst (N := 7) rfl ?_); refine box_event ?hg (N := 7) ?hd (cs := #[.int .i64 a2_0, .int .i64 a2_1]) (t := 23) ?hr ?_; (case hd => rfl); (case hg => rfl); (case hr => first | (go_simp; done) | (go_simp; rfl)); intro gb219 hg w11 hbox hb; have n0_ := Aside0.mk (blk_below (g := gb217) (o := .cells #[.int .i64 a0_0, .int .i64 a0_1] 23 (0, 0)) (by (with_reducible repeat (first | refine blk_drewN ?_ _ | refine blk_drew ?_ | refine blk_alloc ?_ _)); exact BK217.out) hb); have n1_ := Aside0.mk (blk_below (g := gb218) (o := .cells #[.int .i64 a1_0, .int .i64 a1_1] 23 (0, 0)) (by (with_reducible repeat (first | refine blk_drewN ?_ _ | refine blk_drew ?_ | refine blk_alloc ?_ _)); exact BK218.out) hb); have n2_ := Aside0.mk (below_step (by repeat (first | (with_reducible first | exact HB.out | apply below_alloc | apply pw_below_drewN | apply below_drew1 | refine below_set ?_ GE217.out | refine below_set ?_ GE218.out) | exact HB.out)) hb); have n3_ := Aside0.mk (hbox); have n4_ := Aside0.mk ((by rw [hg]; exact (below_size (by repeat (first | (with_reducible first | exact HB.out | apply below_alloc | apply pw_below_drewN | apply below_drew1 | refine below_set ?_ GE217.out | refine below_set ?_ GE218.out) | exact HB.out))) : w.heap.size ≤ gb219)); have n5_ := Aside0.mk ((by rw [hg]; exact (below_size (by repeat (first | (with_reducible first | exact HB.out | apply below_alloc | apply pw_below_drewN | apply below_drew1 | refine below_set ?_ GE217.out | refine below_set ?_ GE218.out) | exact HB.out))) : w.heap.size ≤ gb219)); have n6_ := Aside0.mk ((by rw [hg]; exact Nat.ne_of_lt (blk_lt (g := gb217) (o := .cells #[.int .i64 a0_0, .int .i64 a0_1] 23 (0, 0)) (by (with_reducible repeat (first | refine blk_drewN ?_ _ | refine blk_drew ?_ | refine blk_alloc ?_ _)); exact BK217.out)) : gb217 ≠ gb219)); have n7_ := Aside0.mk ((by rw [hg]; exact Nat.ne_of_gt (blk_lt (g := gb217) (o := .cells #[.int .i64 a0_0, .int .i64 a0_1] 23 (0, 0)) (by (with_reducible repeat (first | refine blk_drewN ?_ _ | refine blk_drew ?_ | refine blk_alloc ?_ _)); exact BK217.out)) : gb219 ≠ gb217)); have n8_ := Aside0.mk ((by rw [hg]; exact Nat.ne_of_lt (blk_lt (g := gb218) (o := .cells #[.int .i64 a1_0, .int .i64 a1_1] 23 (0, 0)) (by (with_reducible repeat (first | refine blk_drewN ?_ _ | refine blk_drew ?_ | refine blk_alloc ?_ _)); exact BK218.out)) : gb218 ≠ gb219)); have n9_ := Aside0.mk ((by rw [hg]; exact Nat.ne_of_gt (blk_lt (g := gb218) (o := .cells #[.int .i64 a1_0, .int .i64 a1_1] 23 (0, 0)) (by (with_reducible repeat (first | refine blk_drewN ?_ _ | refine blk_drew ?_ | refine blk_alloc ?_ _)); exact BK218.out)) : gb219 ≠ gb218)); clear BK217; clear BK218; clear HB; have BK217 := n0_; have BK218 := n1_; have HB := n2_; have BK219 := n3_; have GW219 := n4_; have GE219 := n5_; have NB217_219 := n6_; have NB219_217 := n7_; have NB218_219 := n8_; have NB219_218 := n9_; clear n0_ n1_ n2_ n3_ n4_ n5_ n6_ n7_ n8_ n9_; clear hb hbox hg) | ((with_reducible refine gate_dst (N := 8) rfl ?_); refine box_event ?hg (N := 8) ?hd (cs := #[.bool a3_0, .int .i64 a3_1]) (t := 25) ?hr ?_; (case hd => rfl); (case hg => rfl); (case hr => first | (go_simp; done) | (go_simp; rfl)); intro gb220 hg w12 hbox hb; have n0_ := Aside0.mk (blk_below (g := gb217) (o := .cells #[.int .i64 a0_0, .int .i64 a0_1] 23 (0, 0)) (by (with_reducible repeat (first | refine blk_drewN ?_ _ | refine blk_drew ?_ | refine blk_alloc ?_ _)); exact BK217.out) hb); have n1_ := Aside0.mk (blk_below (g := gb218) (o := .cells #[.int .i64 a1_0, .int .i64 a1_1] 23 (0, 0)) (by (with_reducible repeat (first | refine blk_drewN ?_ _ | refine blk_drew ?_ | refine blk_alloc ?_ _)); exact BK218.out) hb); have n2_ := Aside0.mk (blk_below (g := gb219) (o := .cells #[.int .i64 a2_0, .int .i64 a2_1] 23 (0, 0)) (by (with_reducible repeat (first | refine blk_drewN ?_ _ | refine blk_drew ?_ | refine blk_alloc ?_ _)); exact BK219.out) hb); have n3_ := Aside0.mk (below_step (by repeat (first | (with_reducible first | exact HB.out | apply below_alloc | apply pw_below_drewN | apply below_drew1 | refine below_set ?_ GE217.out | refine below_set ?_ GE218.out | refine below_set ?_ GE219.out) | exact HB.out)) hb); have n4_ := Aside0.mk (hbox); have n5_ := Aside0.mk ((by rw [hg]; exact (below_size (by repeat (first | (with_reducible first | exact HB.out | apply below_alloc | apply pw_below_drewN | apply below_drew1 | refine below_set ?_ GE217.out | refine below_set ?_ GE218.out | refine below_set ?_ GE219.out) | exact HB.out))) : w.heap.size ≤ gb220)); have n6_ := Aside0.mk ((by rw [hg]; exact (below_size (by repeat (first | (with_reducible first | exact HB.out | apply below_alloc | apply pw_below_drewN | apply below_drew1 | refine below_set ?_ GE217.out | refine below_set ?_ GE218.out | refine below_set ?_ GE219.out) | exact HB.out))) : w.heap.size ≤ gb220)); have n7_ := Aside0.mk ((by rw [hg]; exact Nat.ne_of_lt (blk_lt (g := gb217) (o := .cells #[.int .i64 a0_0, .int .i64 a0_1] 23 (0, 0)) (by (with_reducible repeat (first | refine blk_drewN ?_ _ | refine blk_drew ?_ | refine blk_alloc ?_ _)); exact BK217.out)) : gb217 ≠ gb220)); have n8_ := Aside0.mk ((by rw [hg]; exact Nat.ne_of_gt (blk_lt (g := gb217) (o := .cells #[.int .i64 a0_0, .int .i64 a0_1] 23 (0, 0)) (by (with_reducible repeat (first | refine blk_drewN ?_ _ | refine blk_drew ?_ | refine blk_alloc ?_ _)); exact BK217.out)) : gb220 ≠ gb217)); have n9_ := Aside0.mk ((by rw [hg]; exact Nat.ne_of_lt (blk_lt (g := gb218) (o := .cells #[.int .i64 a1_0, .int .i64 a1_1] 23 (0, 0)) (by (with_reducible repeat (first | refine blk_drewN ?_ _ | refine blk_drew ?_ | refine blk_alloc ?_ _)); exact BK218.out)) : gb218 ≠ gb220)); have n10_ := Aside0.mk ((by rw [hg]; exact Nat.ne_of_gt (blk_lt (g := gb218) (o := .cells #[.int .i64 a1_0, .int .i64 a1_1] 23 (0, 0)) (by (with_reducible repeat (first | refine blk_drewN ?_ _ | refine blk_drew ?_ | refine blk_alloc ?_ _)); exact BK218.out)) : gb220 ≠ gb218)); have n11_ := Aside0.mk ((by rw [hg]; exact Nat.ne_of_lt (blk_lt (g := gb219) (o := .cells #[.int .i64 a2_0, .int .i64 a2_1] 23 (0, 0)) (by (with_reducible repeat (first | refine blk_drewN ?_ _ | refine blk_drew ?_ | refine blk_alloc ?_ _)); exact BK219.out)) : gb219 ≠ gb220)); have n12_ := Aside0.mk ((by rw [hg]; exact Nat.ne_of_gt (blk_lt (g := gb219) (o := .cells #[.int .i64 a2_0, .int .i64 a2_1] 23 (0, 0)) (by (with_reducible repeat (first | refine blk_drewN ?_ _ | refine blk_drew ?_ | refine blk_alloc ?_ _)); exact BK219.out)) : gb220 ≠ gb219)); clear BK217; clear BK218; clear BK219; clear HB; have BK217 := n0_; have BK218 := n1_; have BK219 := n2_; have HB := n3_; have BK220 := n4_; have GW220 := n5_; have GE220 := n6_; have NB217_220 := n7_; have NB220_217 := n8_; have NB218_220 := n9_; have NB220_218 := n10_; have NB219_220 := n11_; have NB220_219 := n12_; clear n0_ n1_ n2_ n3_ n4_ n5_ n6_ n7_ n8_ n9_ n10_ n11_ n12_; clear hb hbox hg) | ((with_reducible refine gate_dst (N := 9) rfl ?_); refine box_event ?hg (N := 9) ?hd (cs := #[.bool a4_0, .int .i64 a4_1]) (t := 25) ?hr ?_; (case hd => rfl); (case hg => rfl); (case hr => first | (go_simp; done) | (go_simp; rfl)); intro gb221 hg w13 hbox hb; have n0_ := Aside0.mk (blk_below (g := gb217) (o := .cells #[.int .i64 a0_0, .int .i64 a0_1] 23 (0, 0)) (by (with_reducible repeat (first | refine blk_drewN ?_ _ | refine blk_drew ?_ | refine blk_alloc ?_ _)); exact BK217.out) hb); have n1_ := Aside0.mk (blk_below (g := gb218) (o := .cells #[.int .i64 a1_0, .int .i64 a1_1] 23 (0, 0)) (by (with_reducible repeat (first | refine blk_drewN ?_ _ | refine blk_drew ?_ | refine blk_alloc ?_ _)); exact BK218.out) hb); have n2_ := Aside0.mk (blk_below (g := gb219) (o := .cells #[.int .i64 a2_0, .int .i64 a2_1] 23 (0, 0)) (by (with_reducible repeat (first | refine blk_drewN ?_ _ | refine blk_drew ?_ | refine blk_alloc ?_ _)); exact BK219.out) hb); have n3_ := Aside0.mk (blk_below (g := gb220) (o := .cells #[.bool a3_0, .int .i64 a3_1] 25 (0, 0)) (by (with_reducible repeat (first | refine blk_drewN ?_ _ | refine blk_drew ?_ | refine blk_alloc ?_ _)); exact BK220.out) hb); have n4_ := Aside0.mk (below_step (by repeat (first | (with_reducible first | exact HB.out | apply below_alloc | apply pw_below_drewN | apply below_drew1 | refine below_set ?_ GE217.out | refine below_set ?_ GE218.out | refine below_set ?_ GE219.out | refine below_set ?_ GE220.out) | exact HB.out)) hb); have n5_ := Aside0.mk (hbox); have n6_ := Aside0.mk ((by rw [hg]; exact (below_size (by repeat (first | (with_reducible first | exact HB.out | apply below_alloc | apply pw_below_drewN | apply below_drew1 | refine below_set ?_ GE217.out | refine below_set ?_ GE218.out | refine below_set ?_ GE219.out | refine below_set ?_ GE220.out) | exact HB.out))) : w.heap.size ≤ gb221)); have n7_ := Aside0.mk ((by rw [hg]; exact (below_size (by repeat (first | (with_reducible first | exact HB.out | apply below_alloc | apply pw_below_drewN | apply below_drew1 | refine below_set ?_ GE217.out | refine below_set ?_ GE218.out | refine below_set ?_ GE219.out | refine below_set ?_ GE220.out) | exact HB.out))) : w.heap.size ≤ gb221)); have n8_ := Aside0.mk ((by rw [hg]; exact Nat.ne_of_lt (blk_lt (g := gb217) (o := .cells #[.int .i64 a0_0, .int .i64 a0_1] 23 (0, 0)) (by (with_reducible repeat (first | refine blk_drewN ?_ _ | refine blk_drew ?_ | refine blk_alloc ?_ _)); exact BK217.out)) : gb217 ≠ gb221)); have n9_ := Aside0.mk ((by rw [hg]; exact Nat.ne_of_gt (blk_lt (g := gb217) (o := .cells #[.int .i64 a0_0, .int .i64 a0_1] 23 (0, 0)) (by (with_reducible repeat (first | refine blk_drewN ?_ _ | refine blk_drew ?_ | refine blk_alloc ?_ _)); exact BK217.out)) : gb221 ≠ gb217)); have n10_ := Aside0.mk ((by rw [hg]; exact Nat.ne_of_lt (blk_lt (g := gb218) (o := .cells #[.int .i64 a1_0, .int .i64 a1_1] 23 (0, 0)) (by (with_reducible repeat (first | refine blk_drewN ?_ _ | refine blk_drew ?_ | refine blk_alloc ?_ _)); exact BK218.out)) : gb218 ≠ gb221)); have n11_ := Aside0.mk ((by rw [hg]; exact Nat.ne_of_gt (blk_lt (g := gb218) (o := .cells #[.int .i64 a1_0, .int .i64 a1_1] 23 (0, 0)) (by (with_reducible repeat (first | refine blk_drewN ?_ _ | refine blk_drew ?_ | refine blk_alloc ?_ _)); exact BK218.out)) : gb221 ≠ gb218)); have n12_ := Aside0.mk ((by rw [hg]; exact Nat.ne_of_lt (blk_lt (g := gb219) (o := .cells #[.int .i64 a2_0, .int .i64 a2_1] 23 (0, 0)) (by (with_reducible repeat (first | refine blk_drewN ?_ _ | refine blk_drew ?_ | refine blk_alloc ?_ _)); exact BK219.out)) : gb219 ≠ gb221)); have n13_ := Aside0.mk ((by rw [hg]; exact Nat.ne_of_gt (blk_lt (g := gb219) (o := .cells #[.int .i64 a2_0, .int .i64 a2_1] 23 (0, 0)) (by (with_reducible repeat (first | refine blk_drewN ?_ _ | refine blk_drew ?_ | refine blk_alloc ?_ _)); exact BK219.out)) : gb221 ≠ gb219)); have n14_ := Aside0.mk ((by rw [hg]; exact Nat.ne_of_lt (blk_lt (g := gb220) (o := .cells #[.bool a3_0, .int .i64 a3_1] 25 (0, 0)) (by (with_reducible repeat (first | refine blk_drewN ?_ _ | refine blk_drew ?_ | refine blk_alloc ?_ _)); exact BK220.out)) : gb220 ≠ gb221)); have n15_ := Aside0.mk ((by rw [hg]; exact Nat.ne_of_gt (blk_lt (g := gb220) (o := .cells #[.bool a3_0, .int .i64 a3_1] 25 (0, 0)) (by (with_reducible repeat (first | refine blk_drewN ?_ _ | refine blk_drew ?_ | refine blk_alloc ?_ _)); exact BK220.out)) : gb221 ≠ gb220)); clear BK217; clear BK218; clear BK219; clear BK220; clear HB; have BK217 := n0_; have BK218 := n1_; have BK219 := n2_; have BK220 := n3_; have HB := n4_; have BK221 := n5_; have GW221 := n6_; have GE221 := n7_; have NB217_221 := n8_; have NB221_217 := n9_; have NB218_221 := n10_; have NB221_218 := n11_; have NB219_221 := n12_; have NB221_219 := n13_; have NB220_221 := n14_; have NB221_220 := n15_; clear n0_ n1_ n2_ n3_ n4_ n5_ n6_ n7_ n8_ n9_ n10_ n11_ n12_ n13_ n14_ n15_; clear hb hbox hg) | ((with_reducible refine gate_callee (f := 15) rfl ?_); refine goesL_ (some 16) rfl rfl Try.func15 (by kernel_rfl) rfl #[] rfl (by (try simp only [List.map_toArray, List.map_cons, List.map_nil]); first | done | rfl | (simp only [List.length_drop, List.length_take]; rfl)) ?_; (with_reducible refine (valancelaw10_works.calls  true _ A6.out).mono ?_); rintro e w14 ⟨rfl, hb⟩; refine ⟨_, rfl, ?_⟩; have n0_ := Aside0.mk (blk_below (g := gb217) (o := .cells #[.int .i64 a0_0, .int .i64 a0_1] 23 (0, 0)) (by (with_reducible repeat (first | refine blk_drewN ?_ _ | refine blk_drew ?_ | refine blk_alloc ?_ _)); exact BK217.out) hb); have n1_ := Aside0.mk (blk_below (g := gb218) (o := .cells #[.int .i64 a1_0, .int .i64 a1_1] 23 (0, 0)) (by (with_reducible repeat (first | refine blk_drewN ?_ _ | refine blk_drew ?_ | refine blk_alloc ?_ _)); exact BK218.out) hb); have n2_ := Aside0.mk (blk_below (g := gb219) (o := .cells #[.int .i64 a2_0, .int .i64 a2_1] 23 (0, 0)) (by (with_reducible repeat (first | refine blk_drewN ?_ _ | refine blk_drew ?_ | refine blk_alloc ?_ _)); exact BK219.out) hb); have n3_ := Aside0.mk (blk_below (g := gb220) (o := .cells #[.bool a3_0, .int .i64 a3_1] 25 (0, 0)) (by (with_reducible repeat (first | refine blk_drewN ?_ _ | refine blk_drew ?_ | refine blk_alloc ?_ _)); exact BK220.out) hb); have n4_ := Aside0.mk (blk_below (g := gb221) (o := .cells #[.bool a4_0, .int .i64 a4_1] 25 (0, 0)) (by (with_reducible repeat (first | refine blk_drewN ?_ _ | refine blk_drew ?_ | refine blk_alloc ?_ _)); exact BK221.out) hb); have n5_ := Aside0.mk (below_step (by repeat (first | (with_reducible first | exact HB.out | apply below_alloc | apply pw_below_drewN | apply below_drew1 | refine below_set ?_ GE217.out | refine below_set ?_ GE218.out | refine below_set ?_ GE219.out | refine below_set ?_ GE220.out | refine below_set ?_ GE221.out) | exact HB.out)) hb); clear BK217; clear BK218; clear BK219; clear BK220; clear BK221; clear HB; have BK217 := n0_; have BK218 := n1_; have BK219 := n2_; have BK220 := n3_; have BK221 := n4_; have HB := n5_; clear n0_ n1_ n2_ n3_ n4_ n5_; (try clear hb); (try clear hb2); (try clear hk); (try clear hi)))
    (try simp only [Act.put, List.setIfInBounds_toArray, List.set_cons_zero, List.set_cons_succ])
    go_cut [51] (fun v51 wc => ∃ (kq : Nat) (x51_7 : Bool), v51 = .bool x51_7 ∧ Aside0 (valancelaw10_StickLeast.j0 kq true x51_7 a0_0 a0_1 a1_0 a1_1 a2_0 a2_1 a3_0 a3_1 a4_0 a4_1 = some r) ∧ Aside0 (kq ≤ k) ∧ Aside0 (wc.heap[gb217]? = some (.cells #[.int .i64 a0_0, .int .i64 a0_1] 23 (0, 0))) ∧ Aside0 (wc.heap[gb218]? = some (.cells #[.int .i64 a1_0, .int .i64 a1_1] 23 (0, 0))) ∧ Aside0 (wc.heap[gb219]? = some (.cells #[.int .i64 a2_0, .int .i64 a2_1] 23 (0, 0))) ∧ Aside0 (wc.heap[gb220]? = some (.cells #[.bool a3_0, .int .i64 a3_1] 25 (0, 0))) ∧ Aside0 (wc.heap[gb221]? = some (.cells #[.bool a4_0, .int .i64 a4_1] 25 (0, 0))) ∧ Aside0 (Below w.heap.size w wc))
    case first =>
      as_aux_lemma =>
        have H := HC8.out
        clear HC8
        replace H := Option.bind_eq_some_iff.mp H
        obtain ⟨t223, A150, H⟩ := H
        replace H : (if t223 = true then ((valancelaw10_small.f a1_0 a1_1).bind fun t224 => (if t224 = true then ((valancelaw10_small.f a2_0 a2_1).bind fun t225 => (if t225 = true then (if a3_1 < (-1073741824) then (valancelaw10_StickLeast.j0 k true true a0_0 a0_1 a1_0 a1_1 a2_0 a2_1 a3_0 a3_1 a4_0 a4_1) else (if a3_1 > 1073741824 then (valancelaw10_StickLeast.j0 k true true a0_0 a0_1 a1_0 a1_1 a2_0 a2_1 a3_0 a3_1 a4_0 a4_1) else (if a4_1 < (-1073741824) then (valancelaw10_StickLeast.j0 k true true a0_0 a0_1 a1_0 a1_1 a2_0 a2_1 a3_0 a3_1 a4_0 a4_1) else (valancelaw10_StickLeast.j0 k true (decide (a4_1 > 1073741824)) a0_0 a0_1 a1_0 a1_1 a2_0 a2_1 a3_0 a3_1 a4_0 a4_1)))) else (valancelaw10_StickLeast.j0 k true true a0_0 a0_1 a1_0 a1_1 a2_0 a2_1 a3_0 a3_1 a4_0 a4_1))) else (valancelaw10_StickLeast.j0 k true true a0_0 a0_1 a1_0 a1_1 a2_0 a2_1 a3_0 a3_1 a4_0 a4_1))) else (valancelaw10_StickLeast.j0 k true true a0_0 a0_1 a1_0 a1_1 a2_0 a2_1 a3_0 a3_1 a4_0 a4_1)) = some r := H
        have A15 := Aside0.mk A150
        clear A150
        by_cases c16 : t223 = true
        · subst c16
          have H1 : ((valancelaw10_small.f a1_0 a1_1).bind fun t224 => (if t224 = true then ((valancelaw10_small.f a2_0 a2_1).bind fun t225 => (if t225 = true then (if a3_1 < (-1073741824) then (valancelaw10_StickLeast.j0 k true true a0_0 a0_1 a1_0 a1_1 a2_0 a2_1 a3_0 a3_1 a4_0 a4_1) else (if a3_1 > 1073741824 then (valancelaw10_StickLeast.j0 k true true a0_0 a0_1 a1_0 a1_1 a2_0 a2_1 a3_0 a3_1 a4_0 a4_1) else (if a4_1 < (-1073741824) then (valancelaw10_StickLeast.j0 k true true a0_0 a0_1 a1_0 a1_1 a2_0 a2_1 a3_0 a3_1 a4_0 a4_1) else (valancelaw10_StickLeast.j0 k true (decide (a4_1 > 1073741824)) a0_0 a0_1 a1_0 a1_1 a2_0 a2_1 a3_0 a3_1 a4_0 a4_1)))) else (valancelaw10_StickLeast.j0 k true true a0_0 a0_1 a1_0 a1_1 a2_0 a2_1 a3_0 a3_1 a4_0 a4_1))) else (valancelaw10_StickLeast.j0 k true true a0_0 a0_1 a1_0 a1_1 a2_0 a2_1 a3_0 a3_1 a4_0 a4_1))) = some r := by rw [if_pos rfl] at H; exact H
          clear H
          have H := H1
          clear H1
          replace H := Option.bind_eq_some_iff.mp H
          obtain ⟨t224, A170, H⟩ := H
          replace H : (if t224 = true then ((valancelaw10_small.f a2_0 a2_1).bind fun t225 => (if t225 = true then (if a3_1 < (-1073741824) then (valancelaw10_StickLeast.j0 k true true a0_0 a0_1 a1_0 a1_1 a2_0 a2_1 a3_0 a3_1 a4_0 a4_1) else (if a3_1 > 1073741824 then (valancelaw10_StickLeast.j0 k true true a0_0 a0_1 a1_0 a1_1 a2_0 a2_1 a3_0 a3_1 a4_0 a4_1) else (if a4_1 < (-1073741824) then (valancelaw10_StickLeast.j0 k true true a0_0 a0_1 a1_0 a1_1 a2_0 a2_1 a3_0 a3_1 a4_0 a4_1) else (valancelaw10_StickLeast.j0 k true (decide (a4_1 > 1073741824)) a0_0 a0_1 a1_0 a1_1 a2_0 a2_1 a3_0 a3_1 a4_0 a4_1)))) else (valancelaw10_StickLeast.j0 k true true a0_0 a0_1 a1_0 a1_1 a2_0 a2_1 a3_0 a3_1 a4_0 a4_1))) else (valancelaw10_StickLeast.j0 k true true a0_0 a0_1 a1_0 a1_1 a2_0 a2_1 a3_0 a3_1 a4_0 a4_1)) = some r := H
          have A17 := Aside0.mk A170
          clear A170
          by_cases c18 : t224 = true
          · subst c18
            have H1 : ((valancelaw10_small.f a2_0 a2_1).bind fun t225 => (if t225 = true then (if a3_1 < (-1073741824) then (valancelaw10_StickLeast.j0 k true true a0_0 a0_1 a1_0 a1_1 a2_0 a2_1 a3_0 a3_1 a4_0 a4_1) else (if a3_1 > 1073741824 then (valancelaw10_StickLeast.j0 k true true a0_0 a0_1 a1_0 a1_1 a2_0 a2_1 a3_0 a3_1 a4_0 a4_1) else (if a4_1 < (-1073741824) then (valancelaw10_StickLeast.j0 k true true a0_0 a0_1 a1_0 a1_1 a2_0 a2_1 a3_0 a3_1 a4_0 a4_1) else (valancelaw10_StickLeast.j0 k true (decide (a4_1 > 1073741824)) a0_0 a0_1 a1_0 a1_1 a2_0 a2_1 a3_0 a3_1 a4_0 a4_1)))) else (valancelaw10_StickLeast.j0 k true true a0_0 a0_1 a1_0 a1_1 a2_0 a2_1 a3_0 a3_1 a4_0 a4_1))) = some r := by rw [if_pos rfl] at H; exact H
            clear H
            have H := H1
            clear H1
            replace H := Option.bind_eq_some_iff.mp H
            obtain ⟨t225, A190, H⟩ := H
            replace H : (if t225 = true then (if a3_1 < (-1073741824) then (valancelaw10_StickLeast.j0 k true true a0_0 a0_1 a1_0 a1_1 a2_0 a2_1 a3_0 a3_1 a4_0 a4_1) else (if a3_1 > 1073741824 then (valancelaw10_StickLeast.j0 k true true a0_0 a0_1 a1_0 a1_1 a2_0 a2_1 a3_0 a3_1 a4_0 a4_1) else (if a4_1 < (-1073741824) then (valancelaw10_StickLeast.j0 k true true a0_0 a0_1 a1_0 a1_1 a2_0 a2_1 a3_0 a3_1 a4_0 a4_1) else (valancelaw10_StickLeast.j0 k true (decide (a4_1 > 1073741824)) a0_0 a0_1 a1_0 a1_1 a2_0 a2_1 a3_0 a3_1 a4_0 a4_1)))) else (valancelaw10_StickLeast.j0 k true true a0_0 a0_1 a1_0 a1_1 a2_0 a2_1 a3_0 a3_1 a4_0 a4_1)) = some r := H
            have A19 := Aside0.mk A190
            clear A190
            by_cases c20 : t225 = true
            · subst c20
              have H1 : (if a3_1 < (-1073741824) then (valancelaw10_StickLeast.j0 k true true a0_0 a0_1 a1_0 a1_1 a2_0 a2_1 a3_0 a3_1 a4_0 a4_1) else (if a3_1 > 1073741824 then (valancelaw10_StickLeast.j0 k true true a0_0 a0_1 a1_0 a1_1 a2_0 a2_1 a3_0 a3_1 a4_0 a4_1) else (if a4_1 < (-1073741824) then (valancelaw10_StickLeast.j0 k true true a0_0 a0_1 a1_0 a1_1 a2_0 a2_1 a3_0 a3_1 a4_0 a4_1) else (valancelaw10_StickLeast.j0 k true (decide (a4_1 > 1073741824)) a0_0 a0_1 a1_0 a1_1 a2_0 a2_1 a3_0 a3_1 a4_0 a4_1)))) = some r := by rw [if_pos rfl] at H; exact H
              clear H
              have H := H1
              clear H1
              by_cases c21 : a3_1 < (-1073741824)
              · rw [if_pos c21] at H
                have c21b0 : decide (a3_1 < (-1073741824)) = true := decide_eq_true c21
                clear c21
                (first | rw [c21b0] | (simp only [i64_w, i32_w]; rw [c21b0]) | skip)
                have H' := Aside0.mk H
                clear H
                have hnb22 := NB217_218.out
                have hnc22 := NB218_217.out
                have hnb23 := NB217_219.out
                have hnc23 := NB219_217.out
                have hnb24 := NB217_220.out
                have hnc24 := NB220_217.out
                have hnb25 := NB217_221.out
                have hnc25 := NB221_217.out
                have hcz26_0 : w14.cell? ⟨gb217, 0, none⟩ = some (.int .i64 a0_0) := (blk_cell BK217.out 0).trans rfl
                have hcz26_1 : w14.cell? ⟨gb217, 1, none⟩ = some (.int .i64 a0_1) := (blk_cell BK217.out 1).trans rfl
                have hfz26_0 := blk_frozen BK217.out 0
                have hfz26_1 := blk_frozen BK217.out 1
                as_aux_lemma =>
                  go_wp2_with (first | ((with_reducible refine gate_callee (f := 23) rfl ?_); refine goesL_ (some 20) rfl rfl Try.func23 (by kernel_rfl) rfl #[.agg #[.int .i64 a0_0, .int .i64 a0_1]] rfl (by (try simp only [List.map_toArray, List.map_cons, List.map_nil]); first | done | rfl | (simp only [List.length_drop, List.length_take]; rfl)) ?_; (with_reducible refine (valancelaw10_small.calls a0_0 a0_1 true _ A15.out).mono ?_); rintro e w27 ⟨rfl, hb⟩; refine ⟨_, rfl, ?_⟩; have n0_ := Aside0.mk (blk_below (g := gb217) (o := .cells #[.int .i64 a0_0, .int .i64 a0_1] 23 (0, 0)) (by (with_reducible repeat (first | refine blk_drewN ?_ _ | refine blk_drew ?_ | refine blk_alloc ?_ _)); exact BK217.out) hb); have n1_ := Aside0.mk (blk_below (g := gb218) (o := .cells #[.int .i64 a1_0, .int .i64 a1_1] 23 (0, 0)) (by (with_reducible repeat (first | refine blk_drewN ?_ _ | refine blk_drew ?_ | refine blk_alloc ?_ _)); exact BK218.out) hb); have n2_ := Aside0.mk (blk_below (g := gb219) (o := .cells #[.int .i64 a2_0, .int .i64 a2_1] 23 (0, 0)) (by (with_reducible repeat (first | refine blk_drewN ?_ _ | refine blk_drew ?_ | refine blk_alloc ?_ _)); exact BK219.out) hb); have n3_ := Aside0.mk (blk_below (g := gb220) (o := .cells #[.bool a3_0, .int .i64 a3_1] 25 (0, 0)) (by (with_reducible repeat (first | refine blk_drewN ?_ _ | refine blk_drew ?_ | refine blk_alloc ?_ _)); exact BK220.out) hb); have n4_ := Aside0.mk (blk_below (g := gb221) (o := .cells #[.bool a4_0, .int .i64 a4_1] 25 (0, 0)) (by (with_reducible repeat (first | refine blk_drewN ?_ _ | refine blk_drew ?_ | refine blk_alloc ?_ _)); exact BK221.out) hb); have n5_ := Aside0.mk (below_step (by repeat (first | (with_reducible first | exact HB.out | apply below_alloc | apply pw_below_drewN | apply below_drew1 | refine below_set ?_ GE217.out | refine below_set ?_ GE218.out | refine below_set ?_ GE219.out | refine below_set ?_ GE220.out | refine below_set ?_ GE221.out) | exact HB.out)) hb); clear BK217; clear BK218; clear BK219; clear BK220; clear BK221; clear HB; have BK217 := n0_; have BK218 := n1_; have BK219 := n2_; have BK220 := n3_; have BK221 := n4_; have HB := n5_; clear n0_ n1_ n2_ n3_ n4_ n5_; (try clear hb); (try clear hb2); (try clear hk); (try clear hi); have hnb28 := NB218_219.out; have hnc28 := NB219_218.out; have hnb29 := NB218_220.out; have hnc29 := NB220_218.out; have hnb30 := NB218_221.out; have hnc30 := NB221_218.out; have hcz31_0 : w27.cell? ⟨gb218, 0, none⟩ = some (.int .i64 a1_0) := (blk_cell BK218.out 0).trans rfl; have hcz31_1 : w27.cell? ⟨gb218, 1, none⟩ = some (.int .i64 a1_1) := (blk_cell BK218.out 1).trans rfl; have hfz31_0 := blk_frozen BK218.out 0; have hfz31_1 := blk_frozen BK218.out 1) | (go_at_call 23; (with_reducible refine (valancelaw10_small.calls a1_0 a1_1 true _ A17.out).mono ?_); rintro e w32 ⟨rfl, hb⟩; have n0_ := Aside0.mk (blk_below (g := gb217) (o := .cells #[.int .i64 a0_0, .int .i64 a0_1] 23 (0, 0)) (by (with_reducible repeat (first | refine blk_drewN ?_ _ | refine blk_drew ?_ | refine blk_alloc ?_ _)); exact BK217.out) hb); have n1_ := Aside0.mk (blk_below (g := gb218) (o := .cells #[.int .i64 a1_0, .int .i64 a1_1] 23 (0, 0)) (by (with_reducible repeat (first | refine blk_drewN ?_ _ | refine blk_drew ?_ | refine blk_alloc ?_ _)); exact BK218.out) hb); have n2_ := Aside0.mk (blk_below (g := gb219) (o := .cells #[.int .i64 a2_0, .int .i64 a2_1] 23 (0, 0)) (by (with_reducible repeat (first | refine blk_drewN ?_ _ | refine blk_drew ?_ | refine blk_alloc ?_ _)); exact BK219.out) hb); have n3_ := Aside0.mk (blk_below (g := gb220) (o := .cells #[.bool a3_0, .int .i64 a3_1] 25 (0, 0)) (by (with_reducible repeat (first | refine blk_drewN ?_ _ | refine blk_drew ?_ | refine blk_alloc ?_ _)); exact BK220.out) hb); have n4_ := Aside0.mk (blk_below (g := gb221) (o := .cells #[.bool a4_0, .int .i64 a4_1] 25 (0, 0)) (by (with_reducible repeat (first | refine blk_drewN ?_ _ | refine blk_drew ?_ | refine blk_alloc ?_ _)); exact BK221.out) hb); have n5_ := Aside0.mk (below_step (by repeat (first | (with_reducible first | exact HB.out | apply below_alloc | apply pw_below_drewN | apply below_drew1 | refine below_set ?_ GE217.out | refine below_set ?_ GE218.out | refine below_set ?_ GE219.out | refine below_set ?_ GE220.out | refine below_set ?_ GE221.out) | exact HB.out)) hb); clear BK217; clear BK218; clear BK219; clear BK220; clear BK221; clear HB; have BK217 := n0_; have BK218 := n1_; have BK219 := n2_; have BK220 := n3_; have BK221 := n4_; have HB := n5_; clear n0_ n1_ n2_ n3_ n4_ n5_; (try clear hb); (try clear hb2); (try clear hk); (try clear hi); have hnb33 := NB219_220.out; have hnc33 := NB220_219.out; have hnb34 := NB219_221.out; have hnc34 := NB221_219.out; have hcz35_0 : w32.cell? ⟨gb219, 0, none⟩ = some (.int .i64 a2_0) := (blk_cell BK219.out 0).trans rfl; have hcz35_1 : w32.cell? ⟨gb219, 1, none⟩ = some (.int .i64 a2_1) := (blk_cell BK219.out 1).trans rfl; have hfz35_0 := blk_frozen BK219.out 0; have hfz35_1 := blk_frozen BK219.out 1) | (go_at_call 23; (with_reducible refine (valancelaw10_small.calls a2_0 a2_1 true _ A19.out).mono ?_); rintro e w36 ⟨rfl, hb⟩; have n0_ := Aside0.mk (blk_below (g := gb217) (o := .cells #[.int .i64 a0_0, .int .i64 a0_1] 23 (0, 0)) (by (with_reducible repeat (first | refine blk_drewN ?_ _ | refine blk_drew ?_ | refine blk_alloc ?_ _)); exact BK217.out) hb); have n1_ := Aside0.mk (blk_below (g := gb218) (o := .cells #[.int .i64 a1_0, .int .i64 a1_1] 23 (0, 0)) (by (with_reducible repeat (first | refine blk_drewN ?_ _ | refine blk_drew ?_ | refine blk_alloc ?_ _)); exact BK218.out) hb); have n2_ := Aside0.mk (blk_below (g := gb219) (o := .cells #[.int .i64 a2_0, .int .i64 a2_1] 23 (0, 0)) (by (with_reducible repeat (first | refine blk_drewN ?_ _ | refine blk_drew ?_ | refine blk_alloc ?_ _)); exact BK219.out) hb); have n3_ := Aside0.mk (blk_below (g := gb220) (o := .cells #[.bool a3_0, .int .i64 a3_1] 25 (0, 0)) (by (with_reducible repeat (first | refine blk_drewN ?_ _ | refine blk_drew ?_ | refine blk_alloc ?_ _)); exact BK220.out) hb); have n4_ := Aside0.mk (blk_below (g := gb221) (o := .cells #[.bool a4_0, .int .i64 a4_1] 25 (0, 0)) (by (with_reducible repeat (first | refine blk_drewN ?_ _ | refine blk_drew ?_ | refine blk_alloc ?_ _)); exact BK221.out) hb); have n5_ := Aside0.mk (below_step (by repeat (first | (with_reducible first | exact HB.out | apply below_alloc | apply pw_below_drewN | apply below_drew1 | refine below_set ?_ GE217.out | refine below_set ?_ GE218.out | refine below_set ?_ GE219.out | refine below_set ?_ GE220.out | refine below_set ?_ GE221.out) | exact HB.out)) hb); clear BK217; clear BK218; clear BK219; clear BK220; clear BK221; clear HB; have BK217 := n0_; have BK218 := n1_; have BK219 := n2_; have BK220 := n3_; have BK221 := n4_; have HB := n5_; clear n0_ n1_ n2_ n3_ n4_ n5_; (try clear hb); (try clear hb2); (try clear hk); (try clear hi); have hnb37 := NB220_221.out; have hnc37 := NB221_220.out; have hcz38_0 : w36.cell? ⟨gb220, 0, none⟩ = some (.bool a3_0) := (blk_cell BK220.out 0).trans rfl; have hcz38_1 : w36.cell? ⟨gb220, 1, none⟩ = some (.int .i64 a3_1) := (blk_cell BK220.out 1).trans rfl; have hfz38_0 := blk_frozen BK220.out 0; have hfz38_1 := blk_frozen BK220.out 1))
                  go_meet
                  case rel => exact ⟨_, (true), (by first | rfl | (simp; done) | (simp [*]; done)), H', ⟨by first | omega | exact Nat.le_refl _⟩, ⟨by (with_reducible repeat (first | refine blk_drewN ?_ _ | refine blk_drew ?_ | refine blk_alloc ?_ _)); exact BK217.out⟩, ⟨by (with_reducible repeat (first | refine blk_drewN ?_ _ | refine blk_drew ?_ | refine blk_alloc ?_ _)); exact BK218.out⟩, ⟨by (with_reducible repeat (first | refine blk_drewN ?_ _ | refine blk_drew ?_ | refine blk_alloc ?_ _)); exact BK219.out⟩, ⟨by (with_reducible repeat (first | refine blk_drewN ?_ _ | refine blk_drew ?_ | refine blk_alloc ?_ _)); exact BK220.out⟩, ⟨by (with_reducible repeat (first | refine blk_drewN ?_ _ | refine blk_drew ?_ | refine blk_alloc ?_ _)); exact BK221.out⟩, ⟨by repeat (first | (with_reducible first | exact HB.out | apply below_alloc | apply pw_below_drewN | apply below_drew1 | refine below_set ?_ GE217.out | refine below_set ?_ GE218.out | refine below_set ?_ GE219.out | refine below_set ?_ GE220.out | refine below_set ?_ GE221.out) | exact HB.out)⟩⟩
              · rw [if_neg c21] at H
                have c21b0 : decide (a3_1 < (-1073741824)) = false := decide_eq_false c21
                clear c21
                (first | rw [c21b0] | (simp only [i64_w, i32_w]; rw [c21b0]) | skip)
                by_cases c39 : a3_1 > 1073741824
                · rw [if_pos c39] at H
                  have c39b0 : decide (1073741824 < a3_1) = true := decide_eq_true c39
                  clear c39
                  have H' := Aside0.mk H
                  clear H
                  have hnb40 := NB217_218.out
                  have hnc40 := NB218_217.out
                  have hnb41 := NB217_219.out
                  have hnc41 := NB219_217.out
                  have hnb42 := NB217_220.out
                  have hnc42 := NB220_217.out
                  have hnb43 := NB217_221.out
                  have hnc43 := NB221_217.out
                  have hcz44_0 : w14.cell? ⟨gb217, 0, none⟩ = some (.int .i64 a0_0) := (blk_cell BK217.out 0).trans rfl
                  have hcz44_1 : w14.cell? ⟨gb217, 1, none⟩ = some (.int .i64 a0_1) := (blk_cell BK217.out 1).trans rfl
                  have hfz44_0 := blk_frozen BK217.out 0
                  have hfz44_1 := blk_frozen BK217.out 1
                  as_aux_lemma =>
                    go_wp2_with (first | ((with_reducible refine gate_callee (f := 23) rfl ?_); refine goesL_ (some 20) rfl rfl Try.func23 (by kernel_rfl) rfl #[.agg #[.int .i64 a0_0, .int .i64 a0_1]] rfl (by (try simp only [List.map_toArray, List.map_cons, List.map_nil]); first | done | rfl | (simp only [List.length_drop, List.length_take]; rfl)) ?_; (with_reducible refine (valancelaw10_small.calls a0_0 a0_1 true _ A15.out).mono ?_); rintro e w45 ⟨rfl, hb⟩; refine ⟨_, rfl, ?_⟩; have n0_ := Aside0.mk (blk_below (g := gb217) (o := .cells #[.int .i64 a0_0, .int .i64 a0_1] 23 (0, 0)) (by (with_reducible repeat (first | refine blk_drewN ?_ _ | refine blk_drew ?_ | refine blk_alloc ?_ _)); exact BK217.out) hb); have n1_ := Aside0.mk (blk_below (g := gb218) (o := .cells #[.int .i64 a1_0, .int .i64 a1_1] 23 (0, 0)) (by (with_reducible repeat (first | refine blk_drewN ?_ _ | refine blk_drew ?_ | refine blk_alloc ?_ _)); exact BK218.out) hb); have n2_ := Aside0.mk (blk_below (g := gb219) (o := .cells #[.int .i64 a2_0, .int .i64 a2_1] 23 (0, 0)) (by (with_reducible repeat (first | refine blk_drewN ?_ _ | refine blk_drew ?_ | refine blk_alloc ?_ _)); exact BK219.out) hb); have n3_ := Aside0.mk (blk_below (g := gb220) (o := .cells #[.bool a3_0, .int .i64 a3_1] 25 (0, 0)) (by (with_reducible repeat (first | refine blk_drewN ?_ _ | refine blk_drew ?_ | refine blk_alloc ?_ _)); exact BK220.out) hb); have n4_ := Aside0.mk (blk_below (g := gb221) (o := .cells #[.bool a4_0, .int .i64 a4_1] 25 (0, 0)) (by (with_reducible repeat (first | refine blk_drewN ?_ _ | refine blk_drew ?_ | refine blk_alloc ?_ _)); exact BK221.out) hb); have n5_ := Aside0.mk (below_step (by repeat (first | (with_reducible first | exact HB.out | apply below_alloc | apply pw_below_drewN | apply below_drew1 | refine below_set ?_ GE217.out | refine below_set ?_ GE218.out | refine below_set ?_ GE219.out | refine below_set ?_ GE220.out | refine below_set ?_ GE221.out) | exact HB.out)) hb); clear BK217; clear BK218; clear BK219; clear BK220; clear BK221; clear HB; have BK217 := n0_; have BK218 := n1_; have BK219 := n2_; have BK220 := n3_; have BK221 := n4_; have HB := n5_; clear n0_ n1_ n2_ n3_ n4_ n5_; (try clear hb); (try clear hb2); (try clear hk); (try clear hi); have hnb46 := NB218_219.out; have hnc46 := NB219_218.out; have hnb47 := NB218_220.out; have hnc47 := NB220_218.out; have hnb48 := NB218_221.out; have hnc48 := NB221_218.out; have hcz49_0 : w45.cell? ⟨gb218, 0, none⟩ = some (.int .i64 a1_0) := (blk_cell BK218.out 0).trans rfl; have hcz49_1 : w45.cell? ⟨gb218, 1, none⟩ = some (.int .i64 a1_1) := (blk_cell BK218.out 1).trans rfl; have hfz49_0 := blk_frozen BK218.out 0; have hfz49_1 := blk_frozen BK218.out 1) | (go_at_call 23; (with_reducible refine (valancelaw10_small.calls a1_0 a1_1 true _ A17.out).mono ?_); rintro e w50 ⟨rfl, hb⟩; have n0_ := Aside0.mk (blk_below (g := gb217) (o := .cells #[.int .i64 a0_0, .int .i64 a0_1] 23 (0, 0)) (by (with_reducible repeat (first | refine blk_drewN ?_ _ | refine blk_drew ?_ | refine blk_alloc ?_ _)); exact BK217.out) hb); have n1_ := Aside0.mk (blk_below (g := gb218) (o := .cells #[.int .i64 a1_0, .int .i64 a1_1] 23 (0, 0)) (by (with_reducible repeat (first | refine blk_drewN ?_ _ | refine blk_drew ?_ | refine blk_alloc ?_ _)); exact BK218.out) hb); have n2_ := Aside0.mk (blk_below (g := gb219) (o := .cells #[.int .i64 a2_0, .int .i64 a2_1] 23 (0, 0)) (by (with_reducible repeat (first | refine blk_drewN ?_ _ | refine blk_drew ?_ | refine blk_alloc ?_ _)); exact BK219.out) hb); have n3_ := Aside0.mk (blk_below (g := gb220) (o := .cells #[.bool a3_0, .int .i64 a3_1] 25 (0, 0)) (by (with_reducible repeat (first | refine blk_drewN ?_ _ | refine blk_drew ?_ | refine blk_alloc ?_ _)); exact BK220.out) hb); have n4_ := Aside0.mk (blk_below (g := gb221) (o := .cells #[.bool a4_0, .int .i64 a4_1] 25 (0, 0)) (by (with_reducible repeat (first | refine blk_drewN ?_ _ | refine blk_drew ?_ | refine blk_alloc ?_ _)); exact BK221.out) hb); have n5_ := Aside0.mk (below_step (by repeat (first | (with_reducible first | exact HB.out | apply below_alloc | apply pw_below_drewN | apply below_drew1 | refine below_set ?_ GE217.out | refine below_set ?_ GE218.out | refine below_set ?_ GE219.out | refine below_set ?_ GE220.out | refine below_set ?_ GE221.out) | exact HB.out)) hb); clear BK217; clear BK218; clear BK219; clear BK220; clear BK221; clear HB; have BK217 := n0_; have BK218 := n1_; have BK219 := n2_; have BK220 := n3_; have BK221 := n4_; have HB := n5_; clear n0_ n1_ n2_ n3_ n4_ n5_; (try clear hb); (try clear hb2); (try clear hk); (try clear hi); have hnb51 := NB219_220.out; have hnc51 := NB220_219.out; have hnb52 := NB219_221.out; have hnc52 := NB221_219.out; have hcz53_0 : w50.cell? ⟨gb219, 0, none⟩ = some (.int .i64 a2_0) := (blk_cell BK219.out 0).trans rfl; have hcz53_1 : w50.cell? ⟨gb219, 1, none⟩ = some (.int .i64 a2_1) := (blk_cell BK219.out 1).trans rfl; have hfz53_0 := blk_frozen BK219.out 0; have hfz53_1 := blk_frozen BK219.out 1) | (go_at_call 23; (with_reducible refine (valancelaw10_small.calls a2_0 a2_1 true _ A19.out).mono ?_); rintro e w54 ⟨rfl, hb⟩; have n0_ := Aside0.mk (blk_below (g := gb217) (o := .cells #[.int .i64 a0_0, .int .i64 a0_1] 23 (0, 0)) (by (with_reducible repeat (first | refine blk_drewN ?_ _ | refine blk_drew ?_ | refine blk_alloc ?_ _)); exact BK217.out) hb); have n1_ := Aside0.mk (blk_below (g := gb218) (o := .cells #[.int .i64 a1_0, .int .i64 a1_1] 23 (0, 0)) (by (with_reducible repeat (first | refine blk_drewN ?_ _ | refine blk_drew ?_ | refine blk_alloc ?_ _)); exact BK218.out) hb); have n2_ := Aside0.mk (blk_below (g := gb219) (o := .cells #[.int .i64 a2_0, .int .i64 a2_1] 23 (0, 0)) (by (with_reducible repeat (first | refine blk_drewN ?_ _ | refine blk_drew ?_ | refine blk_alloc ?_ _)); exact BK219.out) hb); have n3_ := Aside0.mk (blk_below (g := gb220) (o := .cells #[.bool a3_0, .int .i64 a3_1] 25 (0, 0)) (by (with_reducible repeat (first | refine blk_drewN ?_ _ | refine blk_drew ?_ | refine blk_alloc ?_ _)); exact BK220.out) hb); have n4_ := Aside0.mk (blk_below (g := gb221) (o := .cells #[.bool a4_0, .int .i64 a4_1] 25 (0, 0)) (by (with_reducible repeat (first | refine blk_drewN ?_ _ | refine blk_drew ?_ | refine blk_alloc ?_ _)); exact BK221.out) hb); have n5_ := Aside0.mk (below_step (by repeat (first | (with_reducible first | exact HB.out | apply below_alloc | apply pw_below_drewN | apply below_drew1 | refine below_set ?_ GE217.out | refine below_set ?_ GE218.out | refine below_set ?_ GE219.out | refine below_set ?_ GE220.out | refine below_set ?_ GE221.out) | exact HB.out)) hb); clear BK217; clear BK218; clear BK219; clear BK220; clear BK221; clear HB; have BK217 := n0_; have BK218 := n1_; have BK219 := n2_; have BK220 := n3_; have BK221 := n4_; have HB := n5_; clear n0_ n1_ n2_ n3_ n4_ n5_; (try clear hb); (try clear hb2); (try clear hk); (try clear hi); have hnb55 := NB220_221.out; have hnc55 := NB221_220.out; have hcz56_0 : w54.cell? ⟨gb220, 0, none⟩ = some (.bool a3_0) := (blk_cell BK220.out 0).trans rfl; have hcz56_1 : w54.cell? ⟨gb220, 1, none⟩ = some (.int .i64 a3_1) := (blk_cell BK220.out 1).trans rfl; have hfz56_0 := blk_frozen BK220.out 0; have hfz56_1 := blk_frozen BK220.out 1))
                    go_meet
                    case rel => exact ⟨_, (true), (by first | rfl | (simp; done) | (simp [*]; done)), H', ⟨by first | omega | exact Nat.le_refl _⟩, ⟨by (with_reducible repeat (first | refine blk_drewN ?_ _ | refine blk_drew ?_ | refine blk_alloc ?_ _)); exact BK217.out⟩, ⟨by (with_reducible repeat (first | refine blk_drewN ?_ _ | refine blk_drew ?_ | refine blk_alloc ?_ _)); exact BK218.out⟩, ⟨by (with_reducible repeat (first | refine blk_drewN ?_ _ | refine blk_drew ?_ | refine blk_alloc ?_ _)); exact BK219.out⟩, ⟨by (with_reducible repeat (first | refine blk_drewN ?_ _ | refine blk_drew ?_ | refine blk_alloc ?_ _)); exact BK220.out⟩, ⟨by (with_reducible repeat (first | refine blk_drewN ?_ _ | refine blk_drew ?_ | refine blk_alloc ?_ _)); exact BK221.out⟩, ⟨by repeat (first | (with_reducible first | exact HB.out | apply below_alloc | apply pw_below_drewN | apply below_drew1 | refine below_set ?_ GE217.out | refine below_set ?_ GE218.out | refine below_set ?_ GE219.out | refine below_set ?_ GE220.out | refine below_set ?_ GE221.out) | exact HB.out)⟩⟩
                · rw [if_neg c39] at H
                  have c39b0 : decide (1073741824 < a3_1) = false := decide_eq_false c39
                  clear c39
                  by_cases c57 : a4_1 < (-1073741824)
                  · rw [if_pos c57] at H
                    have c57b0 : decide (a4_1 < (-1073741824)) = true := decide_eq_true c57
                    clear c57
                    have H' := Aside0.mk H
                    clear H
                    have hnb58 := NB217_218.out
                    have hnc58 := NB218_217.out
                    have hnb59 := NB217_219.out
                    have hnc59 := NB219_217.out
                    have hnb60 := NB217_220.out
                    have hnc60 := NB220_217.out
                    have hnb61 := NB217_221.out
                    have hnc61 := NB221_217.out
                    have hcz62_0 : w14.cell? ⟨gb217, 0, none⟩ = some (.int .i64 a0_0) := (blk_cell BK217.out 0).trans rfl
                    have hcz62_1 : w14.cell? ⟨gb217, 1, none⟩ = some (.int .i64 a0_1) := (blk_cell BK217.out 1).trans rfl
                    have hfz62_0 := blk_frozen BK217.out 0
                    have hfz62_1 := blk_frozen BK217.out 1
                    as_aux_lemma =>
                      go_wp2_with (first | ((with_reducible refine gate_callee (f := 23) rfl ?_); refine goesL_ (some 20) rfl rfl Try.func23 (by kernel_rfl) rfl #[.agg #[.int .i64 a0_0, .int .i64 a0_1]] rfl (by (try simp only [List.map_toArray, List.map_cons, List.map_nil]); first | done | rfl | (simp only [List.length_drop, List.length_take]; rfl)) ?_; (with_reducible refine (valancelaw10_small.calls a0_0 a0_1 true _ A15.out).mono ?_); rintro e w63 ⟨rfl, hb⟩; refine ⟨_, rfl, ?_⟩; have n0_ := Aside0.mk (blk_below (g := gb217) (o := .cells #[.int .i64 a0_0, .int .i64 a0_1] 23 (0, 0)) (by (with_reducible repeat (first | refine blk_drewN ?_ _ | refine blk_drew ?_ | refine blk_alloc ?_ _)); exact BK217.out) hb); have n1_ := Aside0.mk (blk_below (g := gb218) (o := .cells #[.int .i64 a1_0, .int .i64 a1_1] 23 (0, 0)) (by (with_reducible repeat (first | refine blk_drewN ?_ _ | refine blk_drew ?_ | refine blk_alloc ?_ _)); exact BK218.out) hb); have n2_ := Aside0.mk (blk_below (g := gb219) (o := .cells #[.int .i64 a2_0, .int .i64 a2_1] 23 (0, 0)) (by (with_reducible repeat (first | refine blk_drewN ?_ _ | refine blk_drew ?_ | refine blk_alloc ?_ _)); exact BK219.out) hb); have n3_ := Aside0.mk (blk_below (g := gb220) (o := .cells #[.bool a3_0, .int .i64 a3_1] 25 (0, 0)) (by (with_reducible repeat (first | refine blk_drewN ?_ _ | refine blk_drew ?_ | refine blk_alloc ?_ _)); exact BK220.out) hb); have n4_ := Aside0.mk (blk_below (g := gb221) (o := .cells #[.bool a4_0, .int .i64 a4_1] 25 (0, 0)) (by (with_reducible repeat (first | refine blk_drewN ?_ _ | refine blk_drew ?_ | refine blk_alloc ?_ _)); exact BK221.out) hb); have n5_ := Aside0.mk (below_step (by repeat (first | (with_reducible first | exact HB.out | apply below_alloc | apply pw_below_drewN | apply below_drew1 | refine below_set ?_ GE217.out | refine below_set ?_ GE218.out | refine below_set ?_ GE219.out | refine below_set ?_ GE220.out | refine below_set ?_ GE221.out) | exact HB.out)) hb); clear BK217; clear BK218; clear BK219; clear BK220; clear BK221; clear HB; have BK217 := n0_; have BK218 := n1_; have BK219 := n2_; have BK220 := n3_; have BK221 := n4_; have HB := n5_; clear n0_ n1_ n2_ n3_ n4_ n5_; (try clear hb); (try clear hb2); (try clear hk); (try clear hi); have hnb64 := NB218_219.out; have hnc64 := NB219_218.out; have hnb65 := NB218_220.out; have hnc65 := NB220_218.out; have hnb66 := NB218_221.out; have hnc66 := NB221_218.out; have hcz67_0 : w63.cell? ⟨gb218, 0, none⟩ = some (.int .i64 a1_0) := (blk_cell BK218.out 0).trans rfl; have hcz67_1 : w63.cell? ⟨gb218, 1, none⟩ = some (.int .i64 a1_1) := (blk_cell BK218.out 1).trans rfl; have hfz67_0 := blk_frozen BK218.out 0; have hfz67_1 := blk_frozen BK218.out 1) | (go_at_call 23; (with_reducible refine (valancelaw10_small.calls a1_0 a1_1 true _ A17.out).mono ?_); rintro e w68 ⟨rfl, hb⟩; have n0_ := Aside0.mk (blk_below (g := gb217) (o := .cells #[.int .i64 a0_0, .int .i64 a0_1] 23 (0, 0)) (by (with_reducible repeat (first | refine blk_drewN ?_ _ | refine blk_drew ?_ | refine blk_alloc ?_ _)); exact BK217.out) hb); have n1_ := Aside0.mk (blk_below (g := gb218) (o := .cells #[.int .i64 a1_0, .int .i64 a1_1] 23 (0, 0)) (by (with_reducible repeat (first | refine blk_drewN ?_ _ | refine blk_drew ?_ | refine blk_alloc ?_ _)); exact BK218.out) hb); have n2_ := Aside0.mk (blk_below (g := gb219) (o := .cells #[.int .i64 a2_0, .int .i64 a2_1] 23 (0, 0)) (by (with_reducible repeat (first | refine blk_drewN ?_ _ | refine blk_drew ?_ | refine blk_alloc ?_ _)); exact BK219.out) hb); have n3_ := Aside0.mk (blk_below (g := gb220) (o := .cells #[.bool a3_0, .int .i64 a3_1] 25 (0, 0)) (by (with_reducible repeat (first | refine blk_drewN ?_ _ | refine blk_drew ?_ | refine blk_alloc ?_ _)); exact BK220.out) hb); have n4_ := Aside0.mk (blk_below (g := gb221) (o := .cells #[.bool a4_0, .int .i64 a4_1] 25 (0, 0)) (by (with_reducible repeat (first | refine blk_drewN ?_ _ | refine blk_drew ?_ | refine blk_alloc ?_ _)); exact BK221.out) hb); have n5_ := Aside0.mk (below_step (by repeat (first | (with_reducible first | exact HB.out | apply below_alloc | apply pw_below_drewN | apply below_drew1 | refine below_set ?_ GE217.out | refine below_set ?_ GE218.out | refine below_set ?_ GE219.out | refine below_set ?_ GE220.out | refine below_set ?_ GE221.out) | exact HB.out)) hb); clear BK217; clear BK218; clear BK219; clear BK220; clear BK221; clear HB; have BK217 := n0_; have BK218 := n1_; have BK219 := n2_; have BK220 := n3_; have BK221 := n4_; have HB := n5_; clear n0_ n1_ n2_ n3_ n4_ n5_; (try clear hb); (try clear hb2); (try clear hk); (try clear hi); have hnb69 := NB219_220.out; have hnc69 := NB220_219.out; have hnb70 := NB219_221.out; have hnc70 := NB221_219.out; have hcz71_0 : w68.cell? ⟨gb219, 0, none⟩ = some (.int .i64 a2_0) := (blk_cell BK219.out 0).trans rfl; have hcz71_1 : w68.cell? ⟨gb219, 1, none⟩ = some (.int .i64 a2_1) := (blk_cell BK219.out 1).trans rfl; have hfz71_0 := blk_frozen BK219.out 0; have hfz71_1 := blk_frozen BK219.out 1) | (go_at_call 23; (with_reducible refine (valancelaw10_small.calls a2_0 a2_1 true _ A19.out).mono ?_); rintro e w72 ⟨rfl, hb⟩; have n0_ := Aside0.mk (blk_below (g := gb217) (o := .cells #[.int .i64 a0_0, .int .i64 a0_1] 23 (0, 0)) (by (with_reducible repeat (first | refine blk_drewN ?_ _ | refine blk_drew ?_ | refine blk_alloc ?_ _)); exact BK217.out) hb); have n1_ := Aside0.mk (blk_below (g := gb218) (o := .cells #[.int .i64 a1_0, .int .i64 a1_1] 23 (0, 0)) (by (with_reducible repeat (first | refine blk_drewN ?_ _ | refine blk_drew ?_ | refine blk_alloc ?_ _)); exact BK218.out) hb); have n2_ := Aside0.mk (blk_below (g := gb219) (o := .cells #[.int .i64 a2_0, .int .i64 a2_1] 23 (0, 0)) (by (with_reducible repeat (first | refine blk_drewN ?_ _ | refine blk_drew ?_ | refine blk_alloc ?_ _)); exact BK219.out) hb); have n3_ := Aside0.mk (blk_below (g := gb220) (o := .cells #[.bool a3_0, .int .i64 a3_1] 25 (0, 0)) (by (with_reducible repeat (first | refine blk_drewN ?_ _ | refine blk_drew ?_ | refine blk_alloc ?_ _)); exact BK220.out) hb); have n4_ := Aside0.mk (blk_below (g := gb221) (o := .cells #[.bool a4_0, .int .i64 a4_1] 25 (0, 0)) (by (with_reducible repeat (first | refine blk_drewN ?_ _ | refine blk_drew ?_ | refine blk_alloc ?_ _)); exact BK221.out) hb); have n5_ := Aside0.mk (below_step (by repeat (first | (with_reducible first | exact HB.out | apply below_alloc | apply pw_below_drewN | apply below_drew1 | refine below_set ?_ GE217.out | refine below_set ?_ GE218.out | refine below_set ?_ GE219.out | refine below_set ?_ GE220.out | refine below_set ?_ GE221.out) | exact HB.out)) hb); clear BK217; clear BK218; clear BK219; clear BK220; clear BK221; clear HB; have BK217 := n0_; have BK218 := n1_; have BK219 := n2_; have BK220 := n3_; have BK221 := n4_; have HB := n5_; clear n0_ n1_ n2_ n3_ n4_ n5_; (try clear hb); (try clear hb2); (try clear hk); (try clear hi); have hnb73 := NB220_221.out; have hnc73 := NB221_220.out; have hcz74_0 : w72.cell? ⟨gb220, 0, none⟩ = some (.bool a3_0) := (blk_cell BK220.out 0).trans rfl; have hcz74_1 : w72.cell? ⟨gb220, 1, none⟩ = some (.int .i64 a3_1) := (blk_cell BK220.out 1).trans rfl; have hfz74_0 := blk_frozen BK220.out 0; have hfz74_1 := blk_frozen BK220.out 1; have hcz75_0 : w72.cell? ⟨gb221, 0, none⟩ = some (.bool a4_0) := (blk_cell BK221.out 0).trans rfl; have hcz75_1 : w72.cell? ⟨gb221, 1, none⟩ = some (.int .i64 a4_1) := (blk_cell BK221.out 1).trans rfl; have hfz75_0 := blk_frozen BK221.out 0; have hfz75_1 := blk_frozen BK221.out 1))
                      go_meet
                      case rel => exact ⟨_, (true), (by first | rfl | (simp; done) | (simp [*]; done)), H', ⟨by first | omega | exact Nat.le_refl _⟩, ⟨by (with_reducible repeat (first | refine blk_drewN ?_ _ | refine blk_drew ?_ | refine blk_alloc ?_ _)); exact BK217.out⟩, ⟨by (with_reducible repeat (first | refine blk_drewN ?_ _ | refine blk_drew ?_ | refine blk_alloc ?_ _)); exact BK218.out⟩, ⟨by (with_reducible repeat (first | refine blk_drewN ?_ _ | refine blk_drew ?_ | refine blk_alloc ?_ _)); exact BK219.out⟩, ⟨by (with_reducible repeat (first | refine blk_drewN ?_ _ | refine blk_drew ?_ | refine blk_alloc ?_ _)); exact BK220.out⟩, ⟨by (with_reducible repeat (first | refine blk_drewN ?_ _ | refine blk_drew ?_ | refine blk_alloc ?_ _)); exact BK221.out⟩, ⟨by repeat (first | (with_reducible first | exact HB.out | apply below_alloc | apply pw_below_drewN | apply below_drew1 | refine below_set ?_ GE217.out | refine below_set ?_ GE218.out | refine below_set ?_ GE219.out | refine below_set ?_ GE220.out | refine below_set ?_ GE221.out) | exact HB.out)⟩⟩
                  · rw [if_neg c57] at H
                    have c57b0 : decide (a4_1 < (-1073741824)) = false := decide_eq_false c57
                    clear c57
                    have H' := Aside0.mk H
                    clear H
                    have hnb76 := NB217_218.out
                    have hnc76 := NB218_217.out
                    have hnb77 := NB217_219.out
                    have hnc77 := NB219_217.out
                    have hnb78 := NB217_220.out
                    have hnc78 := NB220_217.out
                    have hnb79 := NB217_221.out
                    have hnc79 := NB221_217.out
                    have hcz80_0 : w14.cell? ⟨gb217, 0, none⟩ = some (.int .i64 a0_0) := (blk_cell BK217.out 0).trans rfl
                    have hcz80_1 : w14.cell? ⟨gb217, 1, none⟩ = some (.int .i64 a0_1) := (blk_cell BK217.out 1).trans rfl
                    have hfz80_0 := blk_frozen BK217.out 0
                    have hfz80_1 := blk_frozen BK217.out 1
                    as_aux_lemma =>
                      go_wp2_with (first | ((with_reducible refine gate_callee (f := 23) rfl ?_); refine goesL_ (some 20) rfl rfl Try.func23 (by kernel_rfl) rfl #[.agg #[.int .i64 a0_0, .int .i64 a0_1]] rfl (by (try simp only [List.map_toArray, List.map_cons, List.map_nil]); first | done | rfl | (simp only [List.length_drop, List.length_take]; rfl)) ?_; (with_reducible refine (valancelaw10_small.calls a0_0 a0_1 true _ A15.out).mono ?_); rintro e w81 ⟨rfl, hb⟩; refine ⟨_, rfl, ?_⟩; have n0_ := Aside0.mk (blk_below (g := gb217) (o := .cells #[.int .i64 a0_0, .int .i64 a0_1] 23 (0, 0)) (by (with_reducible repeat (first | refine blk_drewN ?_ _ | refine blk_drew ?_ | refine blk_alloc ?_ _)); exact BK217.out) hb); have n1_ := Aside0.mk (blk_below (g := gb218) (o := .cells #[.int .i64 a1_0, .int .i64 a1_1] 23 (0, 0)) (by (with_reducible repeat (first | refine blk_drewN ?_ _ | refine blk_drew ?_ | refine blk_alloc ?_ _)); exact BK218.out) hb); have n2_ := Aside0.mk (blk_below (g := gb219) (o := .cells #[.int .i64 a2_0, .int .i64 a2_1] 23 (0, 0)) (by (with_reducible repeat (first | refine blk_drewN ?_ _ | refine blk_drew ?_ | refine blk_alloc ?_ _)); exact BK219.out) hb); have n3_ := Aside0.mk (blk_below (g := gb220) (o := .cells #[.bool a3_0, .int .i64 a3_1] 25 (0, 0)) (by (with_reducible repeat (first | refine blk_drewN ?_ _ | refine blk_drew ?_ | refine blk_alloc ?_ _)); exact BK220.out) hb); have n4_ := Aside0.mk (blk_below (g := gb221) (o := .cells #[.bool a4_0, .int .i64 a4_1] 25 (0, 0)) (by (with_reducible repeat (first | refine blk_drewN ?_ _ | refine blk_drew ?_ | refine blk_alloc ?_ _)); exact BK221.out) hb); have n5_ := Aside0.mk (below_step (by repeat (first | (with_reducible first | exact HB.out | apply below_alloc | apply pw_below_drewN | apply below_drew1 | refine below_set ?_ GE217.out | refine below_set ?_ GE218.out | refine below_set ?_ GE219.out | refine below_set ?_ GE220.out | refine below_set ?_ GE221.out) | exact HB.out)) hb); clear BK217; clear BK218; clear BK219; clear BK220; clear BK221; clear HB; have BK217 := n0_; have BK218 := n1_; have BK219 := n2_; have BK220 := n3_; have BK221 := n4_; have HB := n5_; clear n0_ n1_ n2_ n3_ n4_ n5_; (try clear hb); (try clear hb2); (try clear hk); (try clear hi); have hnb82 := NB218_219.out; have hnc82 := NB219_218.out; have hnb83 := NB218_220.out; have hnc83 := NB220_218.out; have hnb84 := NB218_221.out; have hnc84 := NB221_218.out; have hcz85_0 : w81.cell? ⟨gb218, 0, none⟩ = some (.int .i64 a1_0) := (blk_cell BK218.out 0).trans rfl; have hcz85_1 : w81.cell? ⟨gb218, 1, none⟩ = some (.int .i64 a1_1) := (blk_cell BK218.out 1).trans rfl; have hfz85_0 := blk_frozen BK218.out 0; have hfz85_1 := blk_frozen BK218.out 1) | (go_at_call 23; (with_reducible refine (valancelaw10_small.calls a1_0 a1_1 true _ A17.out).mono ?_); rintro e w86 ⟨rfl, hb⟩; have n0_ := Aside0.mk (blk_below (g := gb217) (o := .cells #[.int .i64 a0_0, .int .i64 a0_1] 23 (0, 0)) (by (with_reducible repeat (first | refine blk_drewN ?_ _ | refine blk_drew ?_ | refine blk_alloc ?_ _)); exact BK217.out) hb); have n1_ := Aside0.mk (blk_below (g := gb218) (o := .cells #[.int .i64 a1_0, .int .i64 a1_1] 23 (0, 0)) (by (with_reducible repeat (first | refine blk_drewN ?_ _ | refine blk_drew ?_ | refine blk_alloc ?_ _)); exact BK218.out) hb); have n2_ := Aside0.mk (blk_below (g := gb219) (o := .cells #[.int .i64 a2_0, .int .i64 a2_1] 23 (0, 0)) (by (with_reducible repeat (first | refine blk_drewN ?_ _ | refine blk_drew ?_ | refine blk_alloc ?_ _)); exact BK219.out) hb); have n3_ := Aside0.mk (blk_below (g := gb220) (o := .cells #[.bool a3_0, .int .i64 a3_1] 25 (0, 0)) (by (with_reducible repeat (first | refine blk_drewN ?_ _ | refine blk_drew ?_ | refine blk_alloc ?_ _)); exact BK220.out) hb); have n4_ := Aside0.mk (blk_below (g := gb221) (o := .cells #[.bool a4_0, .int .i64 a4_1] 25 (0, 0)) (by (with_reducible repeat (first | refine blk_drewN ?_ _ | refine blk_drew ?_ | refine blk_alloc ?_ _)); exact BK221.out) hb); have n5_ := Aside0.mk (below_step (by repeat (first | (with_reducible first | exact HB.out | apply below_alloc | apply pw_below_drewN | apply below_drew1 | refine below_set ?_ GE217.out | refine below_set ?_ GE218.out | refine below_set ?_ GE219.out | refine below_set ?_ GE220.out | refine below_set ?_ GE221.out) | exact HB.out)) hb); clear BK217; clear BK218; clear BK219; clear BK220; clear BK221; clear HB; have BK217 := n0_; have BK218 := n1_; have BK219 := n2_; have BK220 := n3_; have BK221 := n4_; have HB := n5_; clear n0_ n1_ n2_ n3_ n4_ n5_; (try clear hb); (try clear hb2); (try clear hk); (try clear hi); have hnb87 := NB219_220.out; have hnc87 := NB220_219.out; have hnb88 := NB219_221.out; have hnc88 := NB221_219.out; have hcz89_0 : w86.cell? ⟨gb219, 0, none⟩ = some (.int .i64 a2_0) := (blk_cell BK219.out 0).trans rfl; have hcz89_1 : w86.cell? ⟨gb219, 1, none⟩ = some (.int .i64 a2_1) := (blk_cell BK219.out 1).trans rfl; have hfz89_0 := blk_frozen BK219.out 0; have hfz89_1 := blk_frozen BK219.out 1) | (go_at_call 23; (with_reducible refine (valancelaw10_small.calls a2_0 a2_1 true _ A19.out).mono ?_); rintro e w90 ⟨rfl, hb⟩; have n0_ := Aside0.mk (blk_below (g := gb217) (o := .cells #[.int .i64 a0_0, .int .i64 a0_1] 23 (0, 0)) (by (with_reducible repeat (first | refine blk_drewN ?_ _ | refine blk_drew ?_ | refine blk_alloc ?_ _)); exact BK217.out) hb); have n1_ := Aside0.mk (blk_below (g := gb218) (o := .cells #[.int .i64 a1_0, .int .i64 a1_1] 23 (0, 0)) (by (with_reducible repeat (first | refine blk_drewN ?_ _ | refine blk_drew ?_ | refine blk_alloc ?_ _)); exact BK218.out) hb); have n2_ := Aside0.mk (blk_below (g := gb219) (o := .cells #[.int .i64 a2_0, .int .i64 a2_1] 23 (0, 0)) (by (with_reducible repeat (first | refine blk_drewN ?_ _ | refine blk_drew ?_ | refine blk_alloc ?_ _)); exact BK219.out) hb); have n3_ := Aside0.mk (blk_below (g := gb220) (o := .cells #[.bool a3_0, .int .i64 a3_1] 25 (0, 0)) (by (with_reducible repeat (first | refine blk_drewN ?_ _ | refine blk_drew ?_ | refine blk_alloc ?_ _)); exact BK220.out) hb); have n4_ := Aside0.mk (blk_below (g := gb221) (o := .cells #[.bool a4_0, .int .i64 a4_1] 25 (0, 0)) (by (with_reducible repeat (first | refine blk_drewN ?_ _ | refine blk_drew ?_ | refine blk_alloc ?_ _)); exact BK221.out) hb); have n5_ := Aside0.mk (below_step (by repeat (first | (with_reducible first | exact HB.out | apply below_alloc | apply pw_below_drewN | apply below_drew1 | refine below_set ?_ GE217.out | refine below_set ?_ GE218.out | refine below_set ?_ GE219.out | refine below_set ?_ GE220.out | refine below_set ?_ GE221.out) | exact HB.out)) hb); clear BK217; clear BK218; clear BK219; clear BK220; clear BK221; clear HB; have BK217 := n0_; have BK218 := n1_; have BK219 := n2_; have BK220 := n3_; have BK221 := n4_; have HB := n5_; clear n0_ n1_ n2_ n3_ n4_ n5_; (try clear hb); (try clear hb2); (try clear hk); (try clear hi); have hnb91 := NB220_221.out; have hnc91 := NB221_220.out; have hcz92_0 : w90.cell? ⟨gb220, 0, none⟩ = some (.bool a3_0) := (blk_cell BK220.out 0).trans rfl; have hcz92_1 : w90.cell? ⟨gb220, 1, none⟩ = some (.int .i64 a3_1) := (blk_cell BK220.out 1).trans rfl; have hfz92_0 := blk_frozen BK220.out 0; have hfz92_1 := blk_frozen BK220.out 1; have hcz93_0 : w90.cell? ⟨gb221, 0, none⟩ = some (.bool a4_0) := (blk_cell BK221.out 0).trans rfl; have hcz93_1 : w90.cell? ⟨gb221, 1, none⟩ = some (.int .i64 a4_1) := (blk_cell BK221.out 1).trans rfl; have hfz93_0 := blk_frozen BK221.out 0; have hfz93_1 := blk_frozen BK221.out 1))
                      go_meet
                      case rel => exact ⟨_, (decide (a4_1 > 1073741824)), (by first | rfl | (simp; done) | (simp [*]; done)), H', ⟨by first | omega | exact Nat.le_refl _⟩, ⟨by (with_reducible repeat (first | refine blk_drewN ?_ _ | refine blk_drew ?_ | refine blk_alloc ?_ _)); exact BK217.out⟩, ⟨by (with_reducible repeat (first | refine blk_drewN ?_ _ | refine blk_drew ?_ | refine blk_alloc ?_ _)); exact BK218.out⟩, ⟨by (with_reducible repeat (first | refine blk_drewN ?_ _ | refine blk_drew ?_ | refine blk_alloc ?_ _)); exact BK219.out⟩, ⟨by (with_reducible repeat (first | refine blk_drewN ?_ _ | refine blk_drew ?_ | refine blk_alloc ?_ _)); exact BK220.out⟩, ⟨by (with_reducible repeat (first | refine blk_drewN ?_ _ | refine blk_drew ?_ | refine blk_alloc ?_ _)); exact BK221.out⟩, ⟨by repeat (first | (with_reducible first | exact HB.out | apply below_alloc | apply pw_below_drewN | apply below_drew1 | refine below_set ?_ GE217.out | refine below_set ?_ GE218.out | refine below_set ?_ GE219.out | refine below_set ?_ GE220.out | refine below_set ?_ GE221.out) | exact HB.out)⟩⟩
            · replace c20 := Bool.eq_false_iff.mpr c20
              subst c20
              have H1 : (valancelaw10_StickLeast.j0 k true true a0_0 a0_1 a1_0 a1_1 a2_0 a2_1 a3_0 a3_1 a4_0 a4_1) = some r := by rw [if_neg (show ¬ (false = true) by decide)] at H; exact H
              clear H
              have H := H1
              clear H1
              have H' := Aside0.mk H
              clear H
              have hnb94 := NB217_218.out
              have hnc94 := NB218_217.out
              have hnb95 := NB217_219.out
              have hnc95 := NB219_217.out
              have hnb96 := NB217_220.out
              have hnc96 := NB220_217.out
              have hnb97 := NB217_221.out
              have hnc97 := NB221_217.out
              have hcz98_0 : w14.cell? ⟨gb217, 0, none⟩ = some (.int .i64 a0_0) := (blk_cell BK217.out 0).trans rfl
              have hcz98_1 : w14.cell? ⟨gb217, 1, none⟩ = some (.int .i64 a0_1) := (blk_cell BK217.out 1).trans rfl
              have hfz98_0 := blk_frozen BK217.out 0
              have hfz98_1 := blk_frozen BK217.out 1
              as_aux_lemma =>
                go_wp2_with (first | ((with_reducible refine gate_callee (f := 23) rfl ?_); refine goesL_ (some 20) rfl rfl Try.func23 (by kernel_rfl) rfl #[.agg #[.int .i64 a0_0, .int .i64 a0_1]] rfl (by (try simp only [List.map_toArray, List.map_cons, List.map_nil]); first | done | rfl | (simp only [List.length_drop, List.length_take]; rfl)) ?_; (with_reducible refine (valancelaw10_small.calls a0_0 a0_1 true _ A15.out).mono ?_); rintro e w99 ⟨rfl, hb⟩; refine ⟨_, rfl, ?_⟩; have n0_ := Aside0.mk (blk_below (g := gb217) (o := .cells #[.int .i64 a0_0, .int .i64 a0_1] 23 (0, 0)) (by (with_reducible repeat (first | refine blk_drewN ?_ _ | refine blk_drew ?_ | refine blk_alloc ?_ _)); exact BK217.out) hb); have n1_ := Aside0.mk (blk_below (g := gb218) (o := .cells #[.int .i64 a1_0, .int .i64 a1_1] 23 (0, 0)) (by (with_reducible repeat (first | refine blk_drewN ?_ _ | refine blk_drew ?_ | refine blk_alloc ?_ _)); exact BK218.out) hb); have n2_ := Aside0.mk (blk_below (g := gb219) (o := .cells #[.int .i64 a2_0, .int .i64 a2_1] 23 (0, 0)) (by (with_reducible repeat (first | refine blk_drewN ?_ _ | refine blk_drew ?_ | refine blk_alloc ?_ _)); exact BK219.out) hb); have n3_ := Aside0.mk (blk_below (g := gb220) (o := .cells #[.bool a3_0, .int .i64 a3_1] 25 (0, 0)) (by (with_reducible repeat (first | refine blk_drewN ?_ _ | refine blk_drew ?_ | refine blk_alloc ?_ _)); exact BK220.out) hb); have n4_ := Aside0.mk (blk_below (g := gb221) (o := .cells #[.bool a4_0, .int .i64 a4_1] 25 (0, 0)) (by (with_reducible repeat (first | refine blk_drewN ?_ _ | refine blk_drew ?_ | refine blk_alloc ?_ _)); exact BK221.out) hb); have n5_ := Aside0.mk (below_step (by repeat (first | (with_reducible first | exact HB.out | apply below_alloc | apply pw_below_drewN | apply below_drew1 | refine below_set ?_ GE217.out | refine below_set ?_ GE218.out | refine below_set ?_ GE219.out | refine below_set ?_ GE220.out | refine below_set ?_ GE221.out) | exact HB.out)) hb); clear BK217; clear BK218; clear BK219; clear BK220; clear BK221; clear HB; have BK217 := n0_; have BK218 := n1_; have BK219 := n2_; have BK220 := n3_; have BK221 := n4_; have HB := n5_; clear n0_ n1_ n2_ n3_ n4_ n5_; (try clear hb); (try clear hb2); (try clear hk); (try clear hi); have hnb100 := NB218_219.out; have hnc100 := NB219_218.out; have hnb101 := NB218_220.out; have hnc101 := NB220_218.out; have hnb102 := NB218_221.out; have hnc102 := NB221_218.out; have hcz103_0 : w99.cell? ⟨gb218, 0, none⟩ = some (.int .i64 a1_0) := (blk_cell BK218.out 0).trans rfl; have hcz103_1 : w99.cell? ⟨gb218, 1, none⟩ = some (.int .i64 a1_1) := (blk_cell BK218.out 1).trans rfl; have hfz103_0 := blk_frozen BK218.out 0; have hfz103_1 := blk_frozen BK218.out 1) | (go_at_call 23; (with_reducible refine (valancelaw10_small.calls a1_0 a1_1 true _ A17.out).mono ?_); rintro e w104 ⟨rfl, hb⟩; have n0_ := Aside0.mk (blk_below (g := gb217) (o := .cells #[.int .i64 a0_0, .int .i64 a0_1] 23 (0, 0)) (by (with_reducible repeat (first | refine blk_drewN ?_ _ | refine blk_drew ?_ | refine blk_alloc ?_ _)); exact BK217.out) hb); have n1_ := Aside0.mk (blk_below (g := gb218) (o := .cells #[.int .i64 a1_0, .int .i64 a1_1] 23 (0, 0)) (by (with_reducible repeat (first | refine blk_drewN ?_ _ | refine blk_drew ?_ | refine blk_alloc ?_ _)); exact BK218.out) hb); have n2_ := Aside0.mk (blk_below (g := gb219) (o := .cells #[.int .i64 a2_0, .int .i64 a2_1] 23 (0, 0)) (by (with_reducible repeat (first | refine blk_drewN ?_ _ | refine blk_drew ?_ | refine blk_alloc ?_ _)); exact BK219.out) hb); have n3_ := Aside0.mk (blk_below (g := gb220) (o := .cells #[.bool a3_0, .int .i64 a3_1] 25 (0, 0)) (by (with_reducible repeat (first | refine blk_drewN ?_ _ | refine blk_drew ?_ | refine blk_alloc ?_ _)); exact BK220.out) hb); have n4_ := Aside0.mk (blk_below (g := gb221) (o := .cells #[.bool a4_0, .int .i64 a4_1] 25 (0, 0)) (by (with_reducible repeat (first | refine blk_drewN ?_ _ | refine blk_drew ?_ | refine blk_alloc ?_ _)); exact BK221.out) hb); have n5_ := Aside0.mk (below_step (by repeat (first | (with_reducible first | exact HB.out | apply below_alloc | apply pw_below_drewN | apply below_drew1 | refine below_set ?_ GE217.out | refine below_set ?_ GE218.out | refine below_set ?_ GE219.out | refine below_set ?_ GE220.out | refine below_set ?_ GE221.out) | exact HB.out)) hb); clear BK217; clear BK218; clear BK219; clear BK220; clear BK221; clear HB; have BK217 := n0_; have BK218 := n1_; have BK219 := n2_; have BK220 := n3_; have BK221 := n4_; have HB := n5_; clear n0_ n1_ n2_ n3_ n4_ n5_; (try clear hb); (try clear hb2); (try clear hk); (try clear hi); have hnb105 := NB219_220.out; have hnc105 := NB220_219.out; have hnb106 := NB219_221.out; have hnc106 := NB221_219.out; have hcz107_0 : w104.cell? ⟨gb219, 0, none⟩ = some (.int .i64 a2_0) := (blk_cell BK219.out 0).trans rfl; have hcz107_1 : w104.cell? ⟨gb219, 1, none⟩ = some (.int .i64 a2_1) := (blk_cell BK219.out 1).trans rfl; have hfz107_0 := blk_frozen BK219.out 0; have hfz107_1 := blk_frozen BK219.out 1) | (go_at_call 23; (with_reducible refine (valancelaw10_small.calls a2_0 a2_1 false _ A19.out).mono ?_); rintro e w108 ⟨rfl, hb⟩; have n0_ := Aside0.mk (blk_below (g := gb217) (o := .cells #[.int .i64 a0_0, .int .i64 a0_1] 23 (0, 0)) (by (with_reducible repeat (first | refine blk_drewN ?_ _ | refine blk_drew ?_ | refine blk_alloc ?_ _)); exact BK217.out) hb); have n1_ := Aside0.mk (blk_below (g := gb218) (o := .cells #[.int .i64 a1_0, .int .i64 a1_1] 23 (0, 0)) (by (with_reducible repeat (first | refine blk_drewN ?_ _ | refine blk_drew ?_ | refine blk_alloc ?_ _)); exact BK218.out) hb); have n2_ := Aside0.mk (blk_below (g := gb219) (o := .cells #[.int .i64 a2_0, .int .i64 a2_1] 23 (0, 0)) (by (with_reducible repeat (first | refine blk_drewN ?_ _ | refine blk_drew ?_ | refine blk_alloc ?_ _)); exact BK219.out) hb); have n3_ := Aside0.mk (blk_below (g := gb220) (o := .cells #[.bool a3_0, .int .i64 a3_1] 25 (0, 0)) (by (with_reducible repeat (first | refine blk_drewN ?_ _ | refine blk_drew ?_ | refine blk_alloc ?_ _)); exact BK220.out) hb); have n4_ := Aside0.mk (blk_below (g := gb221) (o := .cells #[.bool a4_0, .int .i64 a4_1] 25 (0, 0)) (by (with_reducible repeat (first | refine blk_drewN ?_ _ | refine blk_drew ?_ | refine blk_alloc ?_ _)); exact BK221.out) hb); have n5_ := Aside0.mk (below_step (by repeat (first | (with_reducible first | exact HB.out | apply below_alloc | apply pw_below_drewN | apply below_drew1 | refine below_set ?_ GE217.out | refine below_set ?_ GE218.out | refine below_set ?_ GE219.out | refine below_set ?_ GE220.out | refine below_set ?_ GE221.out) | exact HB.out)) hb); clear BK217; clear BK218; clear BK219; clear BK220; clear BK221; clear HB; have BK217 := n0_; have BK218 := n1_; have BK219 := n2_; have BK220 := n3_; have BK221 := n4_; have HB := n5_; clear n0_ n1_ n2_ n3_ n4_ n5_; (try clear hb); (try clear hb2); (try clear hk); (try clear hi)))
                go_meet
                case rel => exact ⟨_, (true), (by first | rfl | (simp; done) | (simp [*]; done)), H', ⟨by first | omega | exact Nat.le_refl _⟩, ⟨by (with_reducible repeat (first | refine blk_drewN ?_ _ | refine blk_drew ?_ | refine blk_alloc ?_ _)); exact BK217.out⟩, ⟨by (with_reducible repeat (first | refine blk_drewN ?_ _ | refine blk_drew ?_ | refine blk_alloc ?_ _)); exact BK218.out⟩, ⟨by (with_reducible repeat (first | refine blk_drewN ?_ _ | refine blk_drew ?_ | refine blk_alloc ?_ _)); exact BK219.out⟩, ⟨by (with_reducible repeat (first | refine blk_drewN ?_ _ | refine blk_drew ?_ | refine blk_alloc ?_ _)); exact BK220.out⟩, ⟨by (with_reducible repeat (first | refine blk_drewN ?_ _ | refine blk_drew ?_ | refine blk_alloc ?_ _)); exact BK221.out⟩, ⟨by repeat (first | (with_reducible first | exact HB.out | apply below_alloc | apply pw_below_drewN | apply below_drew1 | refine below_set ?_ GE217.out | refine below_set ?_ GE218.out | refine below_set ?_ GE219.out | refine below_set ?_ GE220.out | refine below_set ?_ GE221.out) | exact HB.out)⟩⟩
          · replace c18 := Bool.eq_false_iff.mpr c18
            subst c18
            have H1 : (valancelaw10_StickLeast.j0 k true true a0_0 a0_1 a1_0 a1_1 a2_0 a2_1 a3_0 a3_1 a4_0 a4_1) = some r := by rw [if_neg (show ¬ (false = true) by decide)] at H; exact H
            clear H
            have H := H1
            clear H1
            have H' := Aside0.mk H
            clear H
            have hnb109 := NB217_218.out
            have hnc109 := NB218_217.out
            have hnb110 := NB217_219.out
            have hnc110 := NB219_217.out
            have hnb111 := NB217_220.out
            have hnc111 := NB220_217.out
            have hnb112 := NB217_221.out
            have hnc112 := NB221_217.out
            have hcz113_0 : w14.cell? ⟨gb217, 0, none⟩ = some (.int .i64 a0_0) := (blk_cell BK217.out 0).trans rfl
            have hcz113_1 : w14.cell? ⟨gb217, 1, none⟩ = some (.int .i64 a0_1) := (blk_cell BK217.out 1).trans rfl
            have hfz113_0 := blk_frozen BK217.out 0
            have hfz113_1 := blk_frozen BK217.out 1
            as_aux_lemma =>
              go_wp2_with (first | ((with_reducible refine gate_callee (f := 23) rfl ?_); refine goesL_ (some 20) rfl rfl Try.func23 (by kernel_rfl) rfl #[.agg #[.int .i64 a0_0, .int .i64 a0_1]] rfl (by (try simp only [List.map_toArray, List.map_cons, List.map_nil]); first | done | rfl | (simp only [List.length_drop, List.length_take]; rfl)) ?_; (with_reducible refine (valancelaw10_small.calls a0_0 a0_1 true _ A15.out).mono ?_); rintro e w114 ⟨rfl, hb⟩; refine ⟨_, rfl, ?_⟩; have n0_ := Aside0.mk (blk_below (g := gb217) (o := .cells #[.int .i64 a0_0, .int .i64 a0_1] 23 (0, 0)) (by (with_reducible repeat (first | refine blk_drewN ?_ _ | refine blk_drew ?_ | refine blk_alloc ?_ _)); exact BK217.out) hb); have n1_ := Aside0.mk (blk_below (g := gb218) (o := .cells #[.int .i64 a1_0, .int .i64 a1_1] 23 (0, 0)) (by (with_reducible repeat (first | refine blk_drewN ?_ _ | refine blk_drew ?_ | refine blk_alloc ?_ _)); exact BK218.out) hb); have n2_ := Aside0.mk (blk_below (g := gb219) (o := .cells #[.int .i64 a2_0, .int .i64 a2_1] 23 (0, 0)) (by (with_reducible repeat (first | refine blk_drewN ?_ _ | refine blk_drew ?_ | refine blk_alloc ?_ _)); exact BK219.out) hb); have n3_ := Aside0.mk (blk_below (g := gb220) (o := .cells #[.bool a3_0, .int .i64 a3_1] 25 (0, 0)) (by (with_reducible repeat (first | refine blk_drewN ?_ _ | refine blk_drew ?_ | refine blk_alloc ?_ _)); exact BK220.out) hb); have n4_ := Aside0.mk (blk_below (g := gb221) (o := .cells #[.bool a4_0, .int .i64 a4_1] 25 (0, 0)) (by (with_reducible repeat (first | refine blk_drewN ?_ _ | refine blk_drew ?_ | refine blk_alloc ?_ _)); exact BK221.out) hb); have n5_ := Aside0.mk (below_step (by repeat (first | (with_reducible first | exact HB.out | apply below_alloc | apply pw_below_drewN | apply below_drew1 | refine below_set ?_ GE217.out | refine below_set ?_ GE218.out | refine below_set ?_ GE219.out | refine below_set ?_ GE220.out | refine below_set ?_ GE221.out) | exact HB.out)) hb); clear BK217; clear BK218; clear BK219; clear BK220; clear BK221; clear HB; have BK217 := n0_; have BK218 := n1_; have BK219 := n2_; have BK220 := n3_; have BK221 := n4_; have HB := n5_; clear n0_ n1_ n2_ n3_ n4_ n5_; (try clear hb); (try clear hb2); (try clear hk); (try clear hi); have hnb115 := NB218_219.out; have hnc115 := NB219_218.out; have hnb116 := NB218_220.out; have hnc116 := NB220_218.out; have hnb117 := NB218_221.out; have hnc117 := NB221_218.out; have hcz118_0 : w114.cell? ⟨gb218, 0, none⟩ = some (.int .i64 a1_0) := (blk_cell BK218.out 0).trans rfl; have hcz118_1 : w114.cell? ⟨gb218, 1, none⟩ = some (.int .i64 a1_1) := (blk_cell BK218.out 1).trans rfl; have hfz118_0 := blk_frozen BK218.out 0; have hfz118_1 := blk_frozen BK218.out 1) | (go_at_call 23; (with_reducible refine (valancelaw10_small.calls a1_0 a1_1 false _ A17.out).mono ?_); rintro e w119 ⟨rfl, hb⟩; have n0_ := Aside0.mk (blk_below (g := gb217) (o := .cells #[.int .i64 a0_0, .int .i64 a0_1] 23 (0, 0)) (by (with_reducible repeat (first | refine blk_drewN ?_ _ | refine blk_drew ?_ | refine blk_alloc ?_ _)); exact BK217.out) hb); have n1_ := Aside0.mk (blk_below (g := gb218) (o := .cells #[.int .i64 a1_0, .int .i64 a1_1] 23 (0, 0)) (by (with_reducible repeat (first | refine blk_drewN ?_ _ | refine blk_drew ?_ | refine blk_alloc ?_ _)); exact BK218.out) hb); have n2_ := Aside0.mk (blk_below (g := gb219) (o := .cells #[.int .i64 a2_0, .int .i64 a2_1] 23 (0, 0)) (by (with_reducible repeat (first | refine blk_drewN ?_ _ | refine blk_drew ?_ | refine blk_alloc ?_ _)); exact BK219.out) hb); have n3_ := Aside0.mk (blk_below (g := gb220) (o := .cells #[.bool a3_0, .int .i64 a3_1] 25 (0, 0)) (by (with_reducible repeat (first | refine blk_drewN ?_ _ | refine blk_drew ?_ | refine blk_alloc ?_ _)); exact BK220.out) hb); have n4_ := Aside0.mk (blk_below (g := gb221) (o := .cells #[.bool a4_0, .int .i64 a4_1] 25 (0, 0)) (by (with_reducible repeat (first | refine blk_drewN ?_ _ | refine blk_drew ?_ | refine blk_alloc ?_ _)); exact BK221.out) hb); have n5_ := Aside0.mk (below_step (by repeat (first | (with_reducible first | exact HB.out | apply below_alloc | apply pw_below_drewN | apply below_drew1 | refine below_set ?_ GE217.out | refine below_set ?_ GE218.out | refine below_set ?_ GE219.out | refine below_set ?_ GE220.out | refine below_set ?_ GE221.out) | exact HB.out)) hb); clear BK217; clear BK218; clear BK219; clear BK220; clear BK221; clear HB; have BK217 := n0_; have BK218 := n1_; have BK219 := n2_; have BK220 := n3_; have BK221 := n4_; have HB := n5_; clear n0_ n1_ n2_ n3_ n4_ n5_; (try clear hb); (try clear hb2); (try clear hk); (try clear hi)))
              go_meet
              case rel => exact ⟨_, (true), (by first | rfl | (simp; done) | (simp [*]; done)), H', ⟨by first | omega | exact Nat.le_refl _⟩, ⟨by (with_reducible repeat (first | refine blk_drewN ?_ _ | refine blk_drew ?_ | refine blk_alloc ?_ _)); exact BK217.out⟩, ⟨by (with_reducible repeat (first | refine blk_drewN ?_ _ | refine blk_drew ?_ | refine blk_alloc ?_ _)); exact BK218.out⟩, ⟨by (with_reducible repeat (first | refine blk_drewN ?_ _ | refine blk_drew ?_ | refine blk_alloc ?_ _)); exact BK219.out⟩, ⟨by (with_reducible repeat (first | refine blk_drewN ?_ _ | refine blk_drew ?_ | refine blk_alloc ?_ _)); exact BK220.out⟩, ⟨by (with_reducible repeat (first | refine blk_drewN ?_ _ | refine blk_drew ?_ | refine blk_alloc ?_ _)); exact BK221.out⟩, ⟨by repeat (first | (with_reducible first | exact HB.out | apply below_alloc | apply pw_below_drewN | apply below_drew1 | refine below_set ?_ GE217.out | refine below_set ?_ GE218.out | refine below_set ?_ GE219.out | refine below_set ?_ GE220.out | refine below_set ?_ GE221.out) | exact HB.out)⟩⟩
        · replace c16 := Bool.eq_false_iff.mpr c16
          subst c16
          have H1 : (valancelaw10_StickLeast.j0 k true true a0_0 a0_1 a1_0 a1_1 a2_0 a2_1 a3_0 a3_1 a4_0 a4_1) = some r := by rw [if_neg (show ¬ (false = true) by decide)] at H; exact H
          clear H
          have H := H1
          clear H1
          have H' := Aside0.mk H
          clear H
          have hnb120 := NB217_218.out
          have hnc120 := NB218_217.out
          have hnb121 := NB217_219.out
          have hnc121 := NB219_217.out
          have hnb122 := NB217_220.out
          have hnc122 := NB220_217.out
          have hnb123 := NB217_221.out
          have hnc123 := NB221_217.out
          have hcz124_0 : w14.cell? ⟨gb217, 0, none⟩ = some (.int .i64 a0_0) := (blk_cell BK217.out 0).trans rfl
          have hcz124_1 : w14.cell? ⟨gb217, 1, none⟩ = some (.int .i64 a0_1) := (blk_cell BK217.out 1).trans rfl
          have hfz124_0 := blk_frozen BK217.out 0
          have hfz124_1 := blk_frozen BK217.out 1
          as_aux_lemma =>
            go_wp2_with (first | ((with_reducible refine gate_callee (f := 23) rfl ?_); refine goesL_ (some 20) rfl rfl Try.func23 (by kernel_rfl) rfl #[.agg #[.int .i64 a0_0, .int .i64 a0_1]] rfl (by (try simp only [List.map_toArray, List.map_cons, List.map_nil]); first | done | rfl | (simp only [List.length_drop, List.length_take]; rfl)) ?_; (with_reducible refine (valancelaw10_small.calls a0_0 a0_1 false _ A15.out).mono ?_); rintro e w125 ⟨rfl, hb⟩; refine ⟨_, rfl, ?_⟩; have n0_ := Aside0.mk (blk_below (g := gb217) (o := .cells #[.int .i64 a0_0, .int .i64 a0_1] 23 (0, 0)) (by (with_reducible repeat (first | refine blk_drewN ?_ _ | refine blk_drew ?_ | refine blk_alloc ?_ _)); exact BK217.out) hb); have n1_ := Aside0.mk (blk_below (g := gb218) (o := .cells #[.int .i64 a1_0, .int .i64 a1_1] 23 (0, 0)) (by (with_reducible repeat (first | refine blk_drewN ?_ _ | refine blk_drew ?_ | refine blk_alloc ?_ _)); exact BK218.out) hb); have n2_ := Aside0.mk (blk_below (g := gb219) (o := .cells #[.int .i64 a2_0, .int .i64 a2_1] 23 (0, 0)) (by (with_reducible repeat (first | refine blk_drewN ?_ _ | refine blk_drew ?_ | refine blk_alloc ?_ _)); exact BK219.out) hb); have n3_ := Aside0.mk (blk_below (g := gb220) (o := .cells #[.bool a3_0, .int .i64 a3_1] 25 (0, 0)) (by (with_reducible repeat (first | refine blk_drewN ?_ _ | refine blk_drew ?_ | refine blk_alloc ?_ _)); exact BK220.out) hb); have n4_ := Aside0.mk (blk_below (g := gb221) (o := .cells #[.bool a4_0, .int .i64 a4_1] 25 (0, 0)) (by (with_reducible repeat (first | refine blk_drewN ?_ _ | refine blk_drew ?_ | refine blk_alloc ?_ _)); exact BK221.out) hb); have n5_ := Aside0.mk (below_step (by repeat (first | (with_reducible first | exact HB.out | apply below_alloc | apply pw_below_drewN | apply below_drew1 | refine below_set ?_ GE217.out | refine below_set ?_ GE218.out | refine below_set ?_ GE219.out | refine below_set ?_ GE220.out | refine below_set ?_ GE221.out) | exact HB.out)) hb); clear BK217; clear BK218; clear BK219; clear BK220; clear BK221; clear HB; have BK217 := n0_; have BK218 := n1_; have BK219 := n2_; have BK220 := n3_; have BK221 := n4_; have HB := n5_; clear n0_ n1_ n2_ n3_ n4_ n5_; (try clear hb); (try clear hb2); (try clear hk); (try clear hi)))
            go_meet
            case rel => exact ⟨_, (true), (by first | rfl | (simp; done) | (simp [*]; done)), H', ⟨by first | omega | exact Nat.le_refl _⟩, ⟨by (with_reducible repeat (first | refine blk_drewN ?_ _ | refine blk_drew ?_ | refine blk_alloc ?_ _)); exact BK217.out⟩, ⟨by (with_reducible repeat (first | refine blk_drewN ?_ _ | refine blk_drew ?_ | refine blk_alloc ?_ _)); exact BK218.out⟩, ⟨by (with_reducible repeat (first | refine blk_drewN ?_ _ | refine blk_drew ?_ | refine blk_alloc ?_ _)); exact BK219.out⟩, ⟨by (with_reducible repeat (first | refine blk_drewN ?_ _ | refine blk_drew ?_ | refine blk_alloc ?_ _)); exact BK220.out⟩, ⟨by (with_reducible repeat (first | refine blk_drewN ?_ _ | refine blk_drew ?_ | refine blk_alloc ?_ _)); exact BK221.out⟩, ⟨by repeat (first | (with_reducible first | exact HB.out | apply below_alloc | apply pw_below_drewN | apply below_drew1 | refine below_set ?_ GE217.out | refine below_set ?_ GE218.out | refine below_set ?_ GE219.out | refine below_set ?_ GE220.out | refine below_set ?_ GE221.out) | exact HB.out)⟩⟩
    case rest =>
      as_aux_lemma =>
        clear HC8
        try clear c1
        try clear c2
        try clear p2
        try clear c3
        try clear c4
        try clear c5
        try clear c6
        try clear c7
        try clear c8
        try clear c9
        try clear c10
        try clear c11
        try clear c12
        try clear c15
        try clear c16
        try clear c18
        try clear c20
        try clear c21
        try clear c21b0
        try clear c22
        try clear c23
        try clear c24
        try clear c25
        try clear c28
        try clear c29
        try clear c30
        try clear c33
        try clear c34
        try clear c37
        try clear c39
        try clear c39b0
        try clear c40
        try clear c41
        try clear c42
        try clear c43
        try clear c46
        try clear c47
        try clear c48
        try clear c51
        try clear c52
        try clear c55
        try clear c57
        try clear c57b0
        try clear c58
        try clear c59
        try clear c60
        try clear c61
        try clear c64
        try clear c65
        try clear c66
        try clear c69
        try clear c70
        try clear c73
        try clear c76
        try clear c77
        try clear c78
        try clear c79
        try clear c82
        try clear c83
        try clear c84
        try clear c87
        try clear c88
        try clear c91
        try clear c94
        try clear c95
        try clear c96
        try clear c97
        try clear c100
        try clear c101
        try clear c102
        try clear c105
        try clear c106
        try clear c109
        try clear c110
        try clear c111
        try clear c112
        try clear c115
        try clear c116
        try clear c117
        try clear c120
        try clear c121
        try clear c122
        try clear c123
        try clear hcz103_0
        try clear hcz103_1
        try clear hcz107_0
        try clear hcz107_1
        try clear hcz113_0
        try clear hcz113_1
        try clear hcz118_0
        try clear hcz118_1
        try clear hcz124_0
        try clear hcz124_1
        try clear hcz26_0
        try clear hcz26_1
        try clear hcz31_0
        try clear hcz31_1
        try clear hcz35_0
        try clear hcz35_1
        try clear hcz38_0
        try clear hcz38_1
        try clear hcz44_0
        try clear hcz44_1
        try clear hcz49_0
        try clear hcz49_1
        try clear hcz53_0
        try clear hcz53_1
        try clear hcz56_0
        try clear hcz56_1
        try clear hcz62_0
        try clear hcz62_1
        try clear hcz67_0
        try clear hcz67_1
        try clear hcz71_0
        try clear hcz71_1
        try clear hcz74_0
        try clear hcz74_1
        try clear hcz75_0
        try clear hcz75_1
        try clear hcz80_0
        try clear hcz80_1
        try clear hcz85_0
        try clear hcz85_1
        try clear hcz89_0
        try clear hcz89_1
        try clear hcz92_0
        try clear hcz92_1
        try clear hcz93_0
        try clear hcz93_1
        try clear hcz98_0
        try clear hcz98_1
        try clear hfz103_0
        try clear hfz103_1
        try clear hfz107_0
        try clear hfz107_1
        try clear hfz113_0
        try clear hfz113_1
        try clear hfz118_0
        try clear hfz118_1
        try clear hfz124_0
        try clear hfz124_1
        try clear hfz26_0
        try clear hfz26_1
        try clear hfz31_0
        try clear hfz31_1
        try clear hfz35_0
        try clear hfz35_1
        try clear hfz38_0
        try clear hfz38_1
        try clear hfz44_0
        try clear hfz44_1
        try clear hfz49_0
        try clear hfz49_1
        try clear hfz53_0
        try clear hfz53_1
        try clear hfz56_0
        try clear hfz56_1
        try clear hfz62_0
        try clear hfz62_1
        try clear hfz67_0
        try clear hfz67_1
        try clear hfz71_0
        try clear hfz71_1
        try clear hfz74_0
        try clear hfz74_1
        try clear hfz75_0
        try clear hfz75_1
        try clear hfz80_0
        try clear hfz80_1
        try clear hfz85_0
        try clear hfz85_1
        try clear hfz89_0
        try clear hfz89_1
        try clear hfz92_0
        try clear hfz92_1
        try clear hfz93_0
        try clear hfz93_1
        try clear hfz98_0
        try clear hfz98_1
        obtain ⟨kq, x51_7, rfl, HA, HJ7, BK217, BK218, BK219, BK220, BK221, HB⟩ := hcut
        cases kq with
        | zero => exact absurd HA.out (by simp [valancelaw10_StickLeast.j0])
        | succ kj7 =>
          have H := HA.out
          clear HA
          simp only [valancelaw10_StickLeast.j0] at H
          by_cases c126 : x51_7 = true
          · subst c126
            have H1 : (some true) = some r := by rw [if_pos rfl] at H; exact H
            clear H
            have H := H1
            clear H1
            obtain rfl := Option.some.inj H
            go_wp2
            go_ret
            exact ⟨by first | rfl | (simp [errW_none, errW_some] <;> rfl) | (simp [*, errW_none, errW_some] <;> rfl), by repeat (first | (with_reducible first | exact HB.out | apply below_alloc | apply pw_below_drewN | apply below_drew1 | refine below_set ?_ GE217.out | refine below_set ?_ GE218.out | refine below_set ?_ GE219.out | refine below_set ?_ GE220.out | refine below_set ?_ GE221.out) | exact HB.out)⟩
          · replace c126 := Bool.eq_false_iff.mpr c126
            subst c126
            have H1 : ((stick_Shift.f kj7 a0_0 a0_1 a1_0 a1_1 a2_0 a2_1 a3_0 a3_1 a4_0 a4_1).bind fun t226 => (if a3_0 = true then (valancelaw10_StickLeast.j1 kj7 true t226 (decide (a0_0 ≥ (wrap64 (a2_0 + a3_1)))) a0_0 a0_1 a1_0 a1_1 a2_0 a2_1 a3_0 a3_1 a4_0 a4_1) else (valancelaw10_StickLeast.j1 kj7 true t226 true a0_0 a0_1 a1_0 a1_1 a2_0 a2_1 a3_0 a3_1 a4_0 a4_1))) = some r := by rw [if_neg (show ¬ (false = true) by decide)] at H; exact H
            clear H
            have H := H1
            clear H1
            replace H := Option.bind_eq_some_iff.mp H
            obtain ⟨t226, A1270, H⟩ := H
            replace H : (if a3_0 = true then (valancelaw10_StickLeast.j1 kj7 true t226 (decide (a0_0 ≥ (wrap64 (a2_0 + a3_1)))) a0_0 a0_1 a1_0 a1_1 a2_0 a2_1 a3_0 a3_1 a4_0 a4_1) else (valancelaw10_StickLeast.j1 kj7 true t226 true a0_0 a0_1 a1_0 a1_1 a2_0 a2_1 a3_0 a3_1 a4_0 a4_1)) = some r := H
            have A127 := Aside0.mk A1270
            clear A1270
            have HC128 := Aside0.mk H
            clear H
            have hnb129 := NB217_218.out
            have hnc129 := NB218_217.out
            have hnb130 := NB217_219.out
            have hnc130 := NB219_217.out
            have hnb131 := NB217_220.out
            have hnc131 := NB220_217.out
            have hnb132 := NB217_221.out
            have hnc132 := NB221_217.out
            have hcz133_0 : wc.cell? ⟨gb217, 0, none⟩ = some (.int .i64 a0_0) := (blk_cell BK217.out 0).trans rfl
            have hcz133_1 : wc.cell? ⟨gb217, 1, none⟩ = some (.int .i64 a0_1) := (blk_cell BK217.out 1).trans rfl
            have hfz133_0 := blk_frozen BK217.out 0
            have hfz133_1 := blk_frozen BK217.out 1
            have hnb134 := NB218_219.out
            have hnc134 := NB219_218.out
            have hnb135 := NB218_220.out
            have hnc135 := NB220_218.out
            have hnb136 := NB218_221.out
            have hnc136 := NB221_218.out
            have hcz137_0 : wc.cell? ⟨gb218, 0, none⟩ = some (.int .i64 a1_0) := (blk_cell BK218.out 0).trans rfl
            have hcz137_1 : wc.cell? ⟨gb218, 1, none⟩ = some (.int .i64 a1_1) := (blk_cell BK218.out 1).trans rfl
            have hfz137_0 := blk_frozen BK218.out 0
            have hfz137_1 := blk_frozen BK218.out 1
            have hnb138 := NB219_220.out
            have hnc138 := NB220_219.out
            have hnb139 := NB219_221.out
            have hnc139 := NB221_219.out
            have hcz140_0 : wc.cell? ⟨gb219, 0, none⟩ = some (.int .i64 a2_0) := (blk_cell BK219.out 0).trans rfl
            have hcz140_1 : wc.cell? ⟨gb219, 1, none⟩ = some (.int .i64 a2_1) := (blk_cell BK219.out 1).trans rfl
            have hfz140_0 := blk_frozen BK219.out 0
            have hfz140_1 := blk_frozen BK219.out 1
            have hnb141 := NB220_221.out
            have hnc141 := NB221_220.out
            have hcz142_0 : wc.cell? ⟨gb220, 0, none⟩ = some (.bool a3_0) := (blk_cell BK220.out 0).trans rfl
            have hcz142_1 : wc.cell? ⟨gb220, 1, none⟩ = some (.int .i64 a3_1) := (blk_cell BK220.out 1).trans rfl
            have hfz142_0 := blk_frozen BK220.out 0
            have hfz142_1 := blk_frozen BK220.out 1
            have hcz143_0 : wc.cell? ⟨gb221, 0, none⟩ = some (.bool a4_0) := (blk_cell BK221.out 0).trans rfl
            have hcz143_1 : wc.cell? ⟨gb221, 1, none⟩ = some (.int .i64 a4_1) := (blk_cell BK221.out 1).trans rfl
            have hfz143_0 := blk_frozen BK221.out 0
            have hfz143_1 := blk_frozen BK221.out 1
            go_upto_region 7 with (first | ((with_reducible refine gate_callee (f := 16) rfl ?_); refine goesL_ (some 58) rfl rfl Try.func16 (by kernel_rfl) rfl #[.agg #[.int .i64 a0_0, .int .i64 a0_1], .agg #[.int .i64 a1_0, .int .i64 a1_1], .agg #[.int .i64 a2_0, .int .i64 a2_1], .agg #[.bool a3_0, .int .i64 a3_1], .agg #[.bool a4_0, .int .i64 a4_1]] rfl (by (try simp only [List.map_toArray, List.map_cons, List.map_nil]); first | done | rfl | (simp only [List.length_drop, List.length_take]; rfl)) ?_; (with_reducible refine (stick_Shift.calls kj7 a0_0 a0_1 a1_0 a1_1 a2_0 a2_1 a3_0 a3_1 a4_0 a4_1 t226 _ A127.out).mono ?_); rintro e w144 ⟨rfl, hb⟩; refine ⟨_, rfl, ?_⟩; have n0_ := Aside0.mk (blk_below (g := gb217) (o := .cells #[.int .i64 a0_0, .int .i64 a0_1] 23 (0, 0)) (by (with_reducible repeat (first | refine blk_drewN ?_ _ | refine blk_drew ?_ | refine blk_alloc ?_ _)); exact BK217.out) hb); have n1_ := Aside0.mk (blk_below (g := gb218) (o := .cells #[.int .i64 a1_0, .int .i64 a1_1] 23 (0, 0)) (by (with_reducible repeat (first | refine blk_drewN ?_ _ | refine blk_drew ?_ | refine blk_alloc ?_ _)); exact BK218.out) hb); have n2_ := Aside0.mk (blk_below (g := gb219) (o := .cells #[.int .i64 a2_0, .int .i64 a2_1] 23 (0, 0)) (by (with_reducible repeat (first | refine blk_drewN ?_ _ | refine blk_drew ?_ | refine blk_alloc ?_ _)); exact BK219.out) hb); have n3_ := Aside0.mk (blk_below (g := gb220) (o := .cells #[.bool a3_0, .int .i64 a3_1] 25 (0, 0)) (by (with_reducible repeat (first | refine blk_drewN ?_ _ | refine blk_drew ?_ | refine blk_alloc ?_ _)); exact BK220.out) hb); have n4_ := Aside0.mk (blk_below (g := gb221) (o := .cells #[.bool a4_0, .int .i64 a4_1] 25 (0, 0)) (by (with_reducible repeat (first | refine blk_drewN ?_ _ | refine blk_drew ?_ | refine blk_alloc ?_ _)); exact BK221.out) hb); have n5_ := Aside0.mk (below_step (by repeat (first | (with_reducible first | exact HB.out | apply below_alloc | apply pw_below_drewN | apply below_drew1 | refine below_set ?_ GE217.out | refine below_set ?_ GE218.out | refine below_set ?_ GE219.out | refine below_set ?_ GE220.out | refine below_set ?_ GE221.out) | exact HB.out)) hb); clear BK217; clear BK218; clear BK219; clear BK220; clear BK221; clear HB; have BK217 := n0_; have BK218 := n1_; have BK219 := n2_; have BK220 := n3_; have BK221 := n4_; have HB := n5_; clear n0_ n1_ n2_ n3_ n4_ n5_; (try clear hb); (try clear hb2); (try clear hk); (try clear hi)))
            (try simp only [Act.put, List.setIfInBounds_toArray, List.set_cons_zero, List.set_cons_succ])
            go_cut [13] (fun v13 wc => ∃ (kq : Nat) (x13_127 : Bool), v13 = .bool x13_127 ∧ Aside0 (valancelaw10_StickLeast.j1 kq true t226 x13_127 a0_0 a0_1 a1_0 a1_1 a2_0 a2_1 a3_0 a3_1 a4_0 a4_1 = some r) ∧ Aside0 (kq ≤ kj7) ∧ Aside0 (wc.heap[gb217]? = some (.cells #[.int .i64 a0_0, .int .i64 a0_1] 23 (0, 0))) ∧ Aside0 (wc.heap[gb218]? = some (.cells #[.int .i64 a1_0, .int .i64 a1_1] 23 (0, 0))) ∧ Aside0 (wc.heap[gb219]? = some (.cells #[.int .i64 a2_0, .int .i64 a2_1] 23 (0, 0))) ∧ Aside0 (wc.heap[gb220]? = some (.cells #[.bool a3_0, .int .i64 a3_1] 25 (0, 0))) ∧ Aside0 (wc.heap[gb221]? = some (.cells #[.bool a4_0, .int .i64 a4_1] 25 (0, 0))) ∧ Aside0 (Below w.heap.size w wc))
            case first =>
              as_aux_lemma =>
                have H := HC128.out
                clear HC128
                by_cases c145 : a3_0 = true
                · subst c145
                  have H1 : (valancelaw10_StickLeast.j1 kj7 true t226 (decide (a0_0 ≥ (wrap64 (a2_0 + a3_1)))) a0_0 a0_1 a1_0 a1_1 a2_0 a2_1 true a3_1 a4_0 a4_1) = some r := by rw [if_pos rfl] at H; exact H
                  clear H
                  have H := H1
                  clear H1
                  have H' := Aside0.mk H
                  clear H
                  have hnb146 := NB220_217.out
                  have hnc146 := NB217_220.out
                  have hnb147 := NB220_218.out
                  have hnc147 := NB218_220.out
                  have hnb148 := NB220_219.out
                  have hnc148 := NB219_220.out
                  have hnb149 := NB220_221.out
                  have hnc149 := NB221_220.out
                  have hcz150_0 : w144.cell? ⟨gb220, 0, none⟩ = some (.bool true) := (blk_cell BK220.out 0).trans rfl
                  have hcz150_1 : w144.cell? ⟨gb220, 1, none⟩ = some (.int .i64 a3_1) := (blk_cell BK220.out 1).trans rfl
                  have hfz150_0 := blk_frozen BK220.out 0
                  have hfz150_1 := blk_frozen BK220.out 1
                  have hnb151 := NB217_218.out
                  have hnc151 := NB218_217.out
                  have hnb152 := NB217_219.out
                  have hnc152 := NB219_217.out
                  have hnb153 := NB217_221.out
                  have hnc153 := NB221_217.out
                  have hcz154_0 : w144.cell? ⟨gb217, 0, none⟩ = some (.int .i64 a0_0) := (blk_cell BK217.out 0).trans rfl
                  have hcz154_1 : w144.cell? ⟨gb217, 1, none⟩ = some (.int .i64 a0_1) := (blk_cell BK217.out 1).trans rfl
                  have hfz154_0 := blk_frozen BK217.out 0
                  have hfz154_1 := blk_frozen BK217.out 1
                  have hnb155 := NB219_218.out
                  have hnc155 := NB218_219.out
                  have hnb156 := NB219_221.out
                  have hnc156 := NB221_219.out
                  have hcz157_0 : w144.cell? ⟨gb219, 0, none⟩ = some (.int .i64 a2_0) := (blk_cell BK219.out 0).trans rfl
                  have hcz157_1 : w144.cell? ⟨gb219, 1, none⟩ = some (.int .i64 a2_1) := (blk_cell BK219.out 1).trans rfl
                  have hfz157_0 := blk_frozen BK219.out 0
                  have hfz157_1 := blk_frozen BK219.out 1
                  go_wp2
                  go_meet
                  case rel => exact ⟨_, (decide (a0_0 ≥ (wrap64 (a2_0 + a3_1)))), (by first | rfl | (simp; done) | (simp [*]; done)), H', ⟨by have := HJ7.out; first | omega | exact Nat.le_refl _⟩, ⟨by (with_reducible repeat (first | refine blk_drewN ?_ _ | refine blk_drew ?_ | refine blk_alloc ?_ _)); exact BK217.out⟩, ⟨by (with_reducible repeat (first | refine blk_drewN ?_ _ | refine blk_drew ?_ | refine blk_alloc ?_ _)); exact BK218.out⟩, ⟨by (with_reducible repeat (first | refine blk_drewN ?_ _ | refine blk_drew ?_ | refine blk_alloc ?_ _)); exact BK219.out⟩, ⟨by (with_reducible repeat (first | refine blk_drewN ?_ _ | refine blk_drew ?_ | refine blk_alloc ?_ _)); exact BK220.out⟩, ⟨by (with_reducible repeat (first | refine blk_drewN ?_ _ | refine blk_drew ?_ | refine blk_alloc ?_ _)); exact BK221.out⟩, ⟨by repeat (first | (with_reducible first | exact HB.out | apply below_alloc | apply pw_below_drewN | apply below_drew1 | refine below_set ?_ GE217.out | refine below_set ?_ GE218.out | refine below_set ?_ GE219.out | refine below_set ?_ GE220.out | refine below_set ?_ GE221.out) | exact HB.out)⟩⟩
                · replace c145 := Bool.eq_false_iff.mpr c145
                  subst c145
                  have H1 : (valancelaw10_StickLeast.j1 kj7 true t226 true a0_0 a0_1 a1_0 a1_1 a2_0 a2_1 false a3_1 a4_0 a4_1) = some r := by rw [if_neg (show ¬ (false = true) by decide)] at H; exact H
                  clear H
                  have H := H1
                  clear H1
                  have H' := Aside0.mk H
                  clear H
                  have hnb158 := NB220_217.out
                  have hnc158 := NB217_220.out
                  have hnb159 := NB220_218.out
                  have hnc159 := NB218_220.out
                  have hnb160 := NB220_219.out
                  have hnc160 := NB219_220.out
                  have hnb161 := NB220_221.out
                  have hnc161 := NB221_220.out
                  have hcz162_0 : w144.cell? ⟨gb220, 0, none⟩ = some (.bool false) := (blk_cell BK220.out 0).trans rfl
                  have hcz162_1 : w144.cell? ⟨gb220, 1, none⟩ = some (.int .i64 a3_1) := (blk_cell BK220.out 1).trans rfl
                  have hfz162_0 := blk_frozen BK220.out 0
                  have hfz162_1 := blk_frozen BK220.out 1
                  go_wp2
                  go_meet
                  case rel => exact ⟨_, (true), (by first | rfl | (simp; done) | (simp [*]; done)), H', ⟨by have := HJ7.out; first | omega | exact Nat.le_refl _⟩, ⟨by (with_reducible repeat (first | refine blk_drewN ?_ _ | refine blk_drew ?_ | refine blk_alloc ?_ _)); exact BK217.out⟩, ⟨by (with_reducible repeat (first | refine blk_drewN ?_ _ | refine blk_drew ?_ | refine blk_alloc ?_ _)); exact BK218.out⟩, ⟨by (with_reducible repeat (first | refine blk_drewN ?_ _ | refine blk_drew ?_ | refine blk_alloc ?_ _)); exact BK219.out⟩, ⟨by (with_reducible repeat (first | refine blk_drewN ?_ _ | refine blk_drew ?_ | refine blk_alloc ?_ _)); exact BK220.out⟩, ⟨by (with_reducible repeat (first | refine blk_drewN ?_ _ | refine blk_drew ?_ | refine blk_alloc ?_ _)); exact BK221.out⟩, ⟨by repeat (first | (with_reducible first | exact HB.out | apply below_alloc | apply pw_below_drewN | apply below_drew1 | refine below_set ?_ GE217.out | refine below_set ?_ GE218.out | refine below_set ?_ GE219.out | refine below_set ?_ GE220.out | refine below_set ?_ GE221.out) | exact HB.out)⟩⟩
            case rest =>
              as_aux_lemma =>
                clear HC128
                try clear c1
                try clear c2
                try clear p2
                try clear c3
                try clear c4
                try clear c5
                try clear c6
                try clear p6
                try clear c7
                try clear c8
                try clear c9
                try clear c10
                try clear c11
                try clear c12
                try clear c13
                try clear c14
                try clear c15
                try clear c16
                try clear c18
                try clear c20
                try clear c21
                try clear c21b0
                try clear c22
                try clear c23
                try clear c24
                try clear c25
                try clear c28
                try clear c29
                try clear c30
                try clear c33
                try clear c34
                try clear c37
                try clear c39
                try clear c39b0
                try clear c40
                try clear c41
                try clear c42
                try clear c43
                try clear c46
                try clear c47
                try clear c48
                try clear c51
                try clear c52
                try clear c55
                try clear c57
                try clear c57b0
                try clear c58
                try clear c59
                try clear c60
                try clear c61
                try clear c64
                try clear p64
                try clear c65
                try clear c66
                try clear c69
                try clear c70
                try clear c73
                try clear c76
                try clear c77
                try clear c78
                try clear c79
                try clear c82
                try clear c83
                try clear c84
                try clear c87
                try clear c88
                try clear c91
                try clear c94
                try clear c95
                try clear c96
                try clear c97
                try clear c100
                try clear c101
                try clear c102
                try clear c105
                try clear c106
                try clear c109
                try clear c110
                try clear c111
                try clear c112
                try clear c115
                try clear c116
                try clear c117
                try clear c120
                try clear c121
                try clear c122
                try clear c123
                try clear c126
                try clear c129
                try clear c130
                try clear c131
                try clear c132
                try clear c134
                try clear c135
                try clear c136
                try clear c138
                try clear c139
                try clear c141
                try clear c145
                try clear c146
                try clear c147
                try clear c148
                try clear c149
                try clear c151
                try clear c152
                try clear c153
                try clear c155
                try clear c156
                try clear c158
                try clear c159
                try clear c160
                try clear c161
                try clear hcz103_0
                try clear hcz103_1
                try clear hcz107_0
                try clear hcz107_1
                try clear hcz113_0
                try clear hcz113_1
                try clear hcz118_0
                try clear hcz118_1
                try clear hcz124_0
                try clear hcz124_1
                try clear hcz133_0
                try clear hcz133_1
                try clear hcz137_0
                try clear hcz137_1
                try clear hcz140_0
                try clear hcz140_1
                try clear hcz142_0
                try clear hcz142_1
                try clear hcz143_0
                try clear hcz143_1
                try clear hcz150_0
                try clear hcz150_1
                try clear hcz154_0
                try clear hcz154_1
                try clear hcz157_0
                try clear hcz157_1
                try clear hcz162_0
                try clear hcz162_1
                try clear hcz26_0
                try clear hcz26_1
                try clear hcz31_0
                try clear hcz31_1
                try clear hcz35_0
                try clear hcz35_1
                try clear hcz38_0
                try clear hcz38_1
                try clear hcz44_0
                try clear hcz44_1
                try clear hcz49_0
                try clear hcz49_1
                try clear hcz53_0
                try clear hcz53_1
                try clear hcz56_0
                try clear hcz56_1
                try clear hcz62_0
                try clear hcz62_1
                try clear hcz67_0
                try clear hcz67_1
                try clear hcz71_0
                try clear hcz71_1
                try clear hcz74_0
                try clear hcz74_1
                try clear hcz75_0
                try clear hcz75_1
                try clear hcz80_0
                try clear hcz80_1
                try clear hcz85_0
                try clear hcz85_1
                try clear hcz89_0
                try clear hcz89_1
                try clear hcz92_0
                try clear hcz92_1
                try clear hcz93_0
                try clear hcz93_1
                try clear hcz98_0
                try clear hcz98_1
                try clear hfz103_0
                try clear hfz103_1
                try clear hfz107_0
                try clear hfz107_1
                try clear hfz113_0
                try clear hfz113_1
                try clear hfz118_0
                try clear hfz118_1
                try clear hfz124_0
                try clear hfz124_1
                try clear hfz133_0
                try clear hfz133_1
                try clear hfz137_0
                try clear hfz137_1
                try clear hfz140_0
                try clear hfz140_1
                try clear hfz142_0
                try clear hfz142_1
                try clear hfz143_0
                try clear hfz143_1
                try clear hfz150_0
                try clear hfz150_1
                try clear hfz154_0
                try clear hfz154_1
                try clear hfz157_0
                try clear hfz157_1
                try clear hfz162_0
                try clear hfz162_1
                try clear hfz26_0
                try clear hfz26_1
                try clear hfz31_0
                try clear hfz31_1
                try clear hfz35_0
                try clear hfz35_1
                try clear hfz38_0
                try clear hfz38_1
                try clear hfz44_0
                try clear hfz44_1
                try clear hfz49_0
                try clear hfz49_1
                try clear hfz53_0
                try clear hfz53_1
                try clear hfz56_0
                try clear hfz56_1
                try clear hfz62_0
                try clear hfz62_1
                try clear hfz67_0
                try clear hfz67_1
                try clear hfz71_0
                try clear hfz71_1
                try clear hfz74_0
                try clear hfz74_1
                try clear hfz75_0
                try clear hfz75_1
                try clear hfz80_0
                try clear hfz80_1
                try clear hfz85_0
                try clear hfz85_1
                try clear hfz89_0
                try clear hfz89_1
                try clear hfz92_0
                try clear hfz92_1
                try clear hfz93_0
                try clear hfz93_1
                try clear hfz98_0
                try clear hfz98_1
                try clear p2
                obtain ⟨kq, x13_127, rfl, HA, HJ127, BK217, BK218, BK219, BK220, BK221, HB⟩ := hcut
                cases kq with
                | zero => exact absurd HA.out (by simp [valancelaw10_StickLeast.j1])
                | succ kj127 =>
                  have H := HA.out
                  clear HA
                  simp only [valancelaw10_StickLeast.j1] at H
                  have HC163 := Aside0.mk H
                  clear H
                  go_upto_region 8 with (fail)
                  go_cut [14] (fun v14 wc => ∃ (kq : Nat) (x14_162 : Bool), v14 = .bool x14_162 ∧ Aside0 (valancelaw10_StickLeast.j2 kq true t226 x13_127 x14_162 a0_0 a0_1 a1_0 a1_1 a2_0 a2_1 a3_0 a3_1 a4_0 a4_1 = some r) ∧ Aside0 (kq ≤ kj127) ∧ Aside0 (wc.heap[gb217]? = some (.cells #[.int .i64 a0_0, .int .i64 a0_1] 23 (0, 0))) ∧ Aside0 (wc.heap[gb218]? = some (.cells #[.int .i64 a1_0, .int .i64 a1_1] 23 (0, 0))) ∧ Aside0 (wc.heap[gb219]? = some (.cells #[.int .i64 a2_0, .int .i64 a2_1] 23 (0, 0))) ∧ Aside0 (wc.heap[gb220]? = some (.cells #[.bool a3_0, .int .i64 a3_1] 25 (0, 0))) ∧ Aside0 (wc.heap[gb221]? = some (.cells #[.bool a4_0, .int .i64 a4_1] 25 (0, 0))) ∧ Aside0 (Below w.heap.size w wc))
                  case first =>
                    as_aux_lemma =>
                      have H := HC163.out
                      clear HC163
                      by_cases c164 : a4_0 = true
                      · subst c164
                        have H1 : (valancelaw10_StickLeast.j2 kj127 true t226 x13_127 (decide (a0_1 ≤ (wrap64 (a2_1 - a4_1)))) a0_0 a0_1 a1_0 a1_1 a2_0 a2_1 a3_0 a3_1 true a4_1) = some r := by rw [if_pos rfl] at H; exact H
                        clear H
                        have H := H1
                        clear H1
                        have H' := Aside0.mk H
                        clear H
                        have hnb165 := NB221_217.out
                        have hnc165 := NB217_221.out
                        have hnb166 := NB221_218.out
                        have hnc166 := NB218_221.out
                        have hnb167 := NB221_219.out
                        have hnc167 := NB219_221.out
                        have hnb168 := NB221_220.out
                        have hnc168 := NB220_221.out
                        have hcz169_0 : wc.cell? ⟨gb221, 0, none⟩ = some (.bool true) := (blk_cell BK221.out 0).trans rfl
                        have hcz169_1 : wc.cell? ⟨gb221, 1, none⟩ = some (.int .i64 a4_1) := (blk_cell BK221.out 1).trans rfl
                        have hfz169_0 := blk_frozen BK221.out 0
                        have hfz169_1 := blk_frozen BK221.out 1
                        have hnb170 := NB217_218.out
                        have hnc170 := NB218_217.out
                        have hnb171 := NB217_219.out
                        have hnc171 := NB219_217.out
                        have hnb172 := NB217_220.out
                        have hnc172 := NB220_217.out
                        have hcz173_0 : wc.cell? ⟨gb217, 0, none⟩ = some (.int .i64 a0_0) := (blk_cell BK217.out 0).trans rfl
                        have hcz173_1 : wc.cell? ⟨gb217, 1, none⟩ = some (.int .i64 a0_1) := (blk_cell BK217.out 1).trans rfl
                        have hfz173_0 := blk_frozen BK217.out 0
                        have hfz173_1 := blk_frozen BK217.out 1
                        have hnb174 := NB219_218.out
                        have hnc174 := NB218_219.out
                        have hnb175 := NB219_220.out
                        have hnc175 := NB220_219.out
                        have hcz176_0 : wc.cell? ⟨gb219, 0, none⟩ = some (.int .i64 a2_0) := (blk_cell BK219.out 0).trans rfl
                        have hcz176_1 : wc.cell? ⟨gb219, 1, none⟩ = some (.int .i64 a2_1) := (blk_cell BK219.out 1).trans rfl
                        have hfz176_0 := blk_frozen BK219.out 0
                        have hfz176_1 := blk_frozen BK219.out 1
                        go_wp2
                        go_meet
                        case rel => exact ⟨_, (decide (a0_1 ≤ (wrap64 (a2_1 - a4_1)))), (by first | rfl | (simp; done) | (simp [*]; done)), H', ⟨by have := HJ7.out; have := HJ127.out; first | omega | exact Nat.le_refl _⟩, ⟨by (with_reducible repeat (first | refine blk_drewN ?_ _ | refine blk_drew ?_ | refine blk_alloc ?_ _)); exact BK217.out⟩, ⟨by (with_reducible repeat (first | refine blk_drewN ?_ _ | refine blk_drew ?_ | refine blk_alloc ?_ _)); exact BK218.out⟩, ⟨by (with_reducible repeat (first | refine blk_drewN ?_ _ | refine blk_drew ?_ | refine blk_alloc ?_ _)); exact BK219.out⟩, ⟨by (with_reducible repeat (first | refine blk_drewN ?_ _ | refine blk_drew ?_ | refine blk_alloc ?_ _)); exact BK220.out⟩, ⟨by (with_reducible repeat (first | refine blk_drewN ?_ _ | refine blk_drew ?_ | refine blk_alloc ?_ _)); exact BK221.out⟩, ⟨by repeat (first | (with_reducible first | exact HB.out | apply below_alloc | apply pw_below_drewN | apply below_drew1 | refine below_set ?_ GE217.out | refine below_set ?_ GE218.out | refine below_set ?_ GE219.out | refine below_set ?_ GE220.out | refine below_set ?_ GE221.out) | exact HB.out)⟩⟩
                      · replace c164 := Bool.eq_false_iff.mpr c164
                        subst c164
                        have H1 : (valancelaw10_StickLeast.j2 kj127 true t226 x13_127 true a0_0 a0_1 a1_0 a1_1 a2_0 a2_1 a3_0 a3_1 false a4_1) = some r := by rw [if_neg (show ¬ (false = true) by decide)] at H; exact H
                        clear H
                        have H := H1
                        clear H1
                        have H' := Aside0.mk H
                        clear H
                        have hnb177 := NB221_217.out
                        have hnc177 := NB217_221.out
                        have hnb178 := NB221_218.out
                        have hnc178 := NB218_221.out
                        have hnb179 := NB221_219.out
                        have hnc179 := NB219_221.out
                        have hnb180 := NB221_220.out
                        have hnc180 := NB220_221.out
                        have hcz181_0 : wc.cell? ⟨gb221, 0, none⟩ = some (.bool false) := (blk_cell BK221.out 0).trans rfl
                        have hcz181_1 : wc.cell? ⟨gb221, 1, none⟩ = some (.int .i64 a4_1) := (blk_cell BK221.out 1).trans rfl
                        have hfz181_0 := blk_frozen BK221.out 0
                        have hfz181_1 := blk_frozen BK221.out 1
                        go_wp2
                        go_meet
                        case rel => exact ⟨_, (true), (by first | rfl | (simp; done) | (simp [*]; done)), H', ⟨by have := HJ7.out; have := HJ127.out; first | omega | exact Nat.le_refl _⟩, ⟨by (with_reducible repeat (first | refine blk_drewN ?_ _ | refine blk_drew ?_ | refine blk_alloc ?_ _)); exact BK217.out⟩, ⟨by (with_reducible repeat (first | refine blk_drewN ?_ _ | refine blk_drew ?_ | refine blk_alloc ?_ _)); exact BK218.out⟩, ⟨by (with_reducible repeat (first | refine blk_drewN ?_ _ | refine blk_drew ?_ | refine blk_alloc ?_ _)); exact BK219.out⟩, ⟨by (with_reducible repeat (first | refine blk_drewN ?_ _ | refine blk_drew ?_ | refine blk_alloc ?_ _)); exact BK220.out⟩, ⟨by (with_reducible repeat (first | refine blk_drewN ?_ _ | refine blk_drew ?_ | refine blk_alloc ?_ _)); exact BK221.out⟩, ⟨by repeat (first | (with_reducible first | exact HB.out | apply below_alloc | apply pw_below_drewN | apply below_drew1 | refine below_set ?_ GE217.out | refine below_set ?_ GE218.out | refine below_set ?_ GE219.out | refine below_set ?_ GE220.out | refine below_set ?_ GE221.out) | exact HB.out)⟩⟩
                  case rest =>
                    as_aux_lemma =>
                      clear HC163
                      try clear c1
                      try clear c2
                      try clear p2
                      try clear c3
                      try clear c4
                      try clear c5
                      try clear c6
                      try clear p6
                      try clear c7
                      try clear c8
                      try clear c9
                      try clear c10
                      try clear c11
                      try clear c12
                      try clear c13
                      try clear c14
                      try clear c15
                      try clear c16
                      try clear c17
                      try clear c18
                      try clear c20
                      try clear c21
                      try clear c21b0
                      try clear c22
                      try clear c23
                      try clear c24
                      try clear c25
                      try clear c28
                      try clear c29
                      try clear c30
                      try clear c33
                      try clear c34
                      try clear c37
                      try clear c39
                      try clear c39b0
                      try clear c40
                      try clear c41
                      try clear c42
                      try clear c43
                      try clear c46
                      try clear c47
                      try clear c48
                      try clear c51
                      try clear c52
                      try clear c55
                      try clear c57
                      try clear c57b0
                      try clear c58
                      try clear c59
                      try clear c60
                      try clear c61
                      try clear c64
                      try clear p64
                      try clear c65
                      try clear c66
                      try clear c69
                      try clear c70
                      try clear c73
                      try clear c76
                      try clear c77
                      try clear c78
                      try clear c79
                      try clear c82
                      try clear c83
                      try clear c84
                      try clear c87
                      try clear c88
                      try clear c91
                      try clear c94
                      try clear c95
                      try clear c96
                      try clear c97
                      try clear c100
                      try clear c101
                      try clear c102
                      try clear c105
                      try clear c106
                      try clear c109
                      try clear c110
                      try clear c111
                      try clear c112
                      try clear c115
                      try clear c116
                      try clear c117
                      try clear c120
                      try clear c121
                      try clear c122
                      try clear c123
                      try clear c126
                      try clear c129
                      try clear c130
                      try clear c131
                      try clear c132
                      try clear c134
                      try clear c135
                      try clear c136
                      try clear c138
                      try clear c139
                      try clear c141
                      try clear c145
                      try clear c146
                      try clear c147
                      try clear c148
                      try clear c149
                      try clear c151
                      try clear c152
                      try clear c153
                      try clear c155
                      try clear c156
                      try clear c158
                      try clear c159
                      try clear c160
                      try clear c161
                      try clear c164
                      try clear c165
                      try clear c166
                      try clear c167
                      try clear c168
                      try clear c170
                      try clear c171
                      try clear c172
                      try clear c174
                      try clear c175
                      try clear c177
                      try clear c178
                      try clear c179
                      try clear c180
                      try clear hcz103_0
                      try clear hcz103_1
                      try clear hcz107_0
                      try clear hcz107_1
                      try clear hcz113_0
                      try clear hcz113_1
                      try clear hcz118_0
                      try clear hcz118_1
                      try clear hcz124_0
                      try clear hcz124_1
                      try clear hcz133_0
                      try clear hcz133_1
                      try clear hcz137_0
                      try clear hcz137_1
                      try clear hcz140_0
                      try clear hcz140_1
                      try clear hcz142_0
                      try clear hcz142_1
                      try clear hcz143_0
                      try clear hcz143_1
                      try clear hcz150_0
                      try clear hcz150_1
                      try clear hcz154_0
                      try clear hcz154_1
                      try clear hcz157_0
                      try clear hcz157_1
                      try clear hcz162_0
                      try clear hcz162_1
                      try clear hcz169_0
                      try clear hcz169_1
                      try clear hcz173_0
                      try clear hcz173_1
                      try clear hcz176_0
                      try clear hcz176_1
                      try clear hcz181_0
                      try clear hcz181_1
                      try clear hcz26_0
                      try clear hcz26_1
                      try clear hcz31_0
                      try clear hcz31_1
                      try clear hcz35_0
                      try clear hcz35_1
                      try clear hcz38_0
                      try clear hcz38_1
                      try clear hcz44_0
                      try clear hcz44_1
                      try clear hcz49_0
                      try clear hcz49_1
                      try clear hcz53_0
                      try clear hcz53_1
                      try clear hcz56_0
                      try clear hcz56_1
                      try clear hcz62_0
                      try clear hcz62_1
                      try clear hcz67_0
                      try clear hcz67_1
                      try clear hcz71_0
                      try clear hcz71_1
                      try clear hcz74_0
                      try clear hcz74_1
                      try clear hcz75_0
                      try clear hcz75_1
                      try clear hcz80_0
                      try clear hcz80_1
                      try clear hcz85_0
                      try clear hcz85_1
                      try clear hcz89_0
                      try clear hcz89_1
                      try clear hcz92_0
                      try clear hcz92_1
                      try clear hcz93_0
                      try clear hcz93_1
                      try clear hcz98_0
                      try clear hcz98_1
                      try clear hfz103_0
                      try clear hfz103_1
                      try clear hfz107_0
                      try clear hfz107_1
                      try clear hfz113_0
                      try clear hfz113_1
                      try clear hfz118_0
                      try clear hfz118_1
                      try clear hfz124_0
                      try clear hfz124_1
                      try clear hfz133_0
                      try clear hfz133_1
                      try clear hfz137_0
                      try clear hfz137_1
                      try clear hfz140_0
                      try clear hfz140_1
                      try clear hfz142_0
                      try clear hfz142_1
                      try clear hfz143_0
                      try clear hfz143_1
                      try clear hfz150_0
                      try clear hfz150_1
                      try clear hfz154_0
                      try clear hfz154_1
                      try clear hfz157_0
                      try clear hfz157_1
                      try clear hfz162_0
                      try clear hfz162_1
                      try clear hfz169_0
                      try clear hfz169_1
                      try clear hfz173_0
                      try clear hfz173_1
                      try clear hfz176_0
                      try clear hfz176_1
                      try clear hfz181_0
                      try clear hfz181_1
                      try clear hfz26_0
                      try clear hfz26_1
                      try clear hfz31_0
                      try clear hfz31_1
                      try clear hfz35_0
                      try clear hfz35_1
                      try clear hfz38_0
                      try clear hfz38_1
                      try clear hfz44_0
                      try clear hfz44_1
                      try clear hfz49_0
                      try clear hfz49_1
                      try clear hfz53_0
                      try clear hfz53_1
                      try clear hfz56_0
                      try clear hfz56_1
                      try clear hfz62_0
                      try clear hfz62_1
                      try clear hfz67_0
                      try clear hfz67_1
                      try clear hfz71_0
                      try clear hfz71_1
                      try clear hfz74_0
                      try clear hfz74_1
                      try clear hfz75_0
                      try clear hfz75_1
                      try clear hfz80_0
                      try clear hfz80_1
                      try clear hfz85_0
                      try clear hfz85_1
                      try clear hfz89_0
                      try clear hfz89_1
                      try clear hfz92_0
                      try clear hfz92_1
                      try clear hfz93_0
                      try clear hfz93_1
                      try clear hfz98_0
                      try clear hfz98_1
                      try clear p2
                      try clear p6
                      try clear p64
                      obtain ⟨kq, x14_162, rfl, HA, HJ162, BK217, BK218, BK219, BK220, BK221, HB⟩ := hcut
                      cases kq with
                      | zero => exact absurd HA.out (by simp [valancelaw10_StickLeast.j2])
                      | succ kj162 =>
                        have H := HA.out
                        clear HA
                        simp only [valancelaw10_StickLeast.j2] at H
                        have HC182 := Aside0.mk H
                        clear H
                        go_upto_region 9 with (fail)
                        go_cut [106] (fun v106 wc => ∃ (kq : Nat) (x106_181 : Bool), v106 = .bool x106_181 ∧ Aside0 (valancelaw10_StickLeast.j3 kq true t226 x106_181 a0_0 a0_1 a1_0 a1_1 a2_0 a2_1 a3_0 a3_1 a4_0 a4_1 = some r) ∧ Aside0 (kq ≤ kj162) ∧ Aside0 (wc.heap[gb217]? = some (.cells #[.int .i64 a0_0, .int .i64 a0_1] 23 (0, 0))) ∧ Aside0 (wc.heap[gb218]? = some (.cells #[.int .i64 a1_0, .int .i64 a1_1] 23 (0, 0))) ∧ Aside0 (wc.heap[gb219]? = some (.cells #[.int .i64 a2_0, .int .i64 a2_1] 23 (0, 0))) ∧ Aside0 (wc.heap[gb220]? = some (.cells #[.bool a3_0, .int .i64 a3_1] 25 (0, 0))) ∧ Aside0 (wc.heap[gb221]? = some (.cells #[.bool a4_0, .int .i64 a4_1] 25 (0, 0))) ∧ Aside0 (Below w.heap.size w wc))
                        case first =>
                          as_aux_lemma =>
                            have H := HC182.out
                            clear HC182
                            by_cases c183 : x13_127 = true
                            · subst c183
                              have H1 : (if x14_162 = true then (if t226 = 0 then (if t226 > 0 then (valancelaw10_StickLeast.j3 kj162 true t226 true a0_0 a0_1 a1_0 a1_1 a2_0 a2_1 a3_0 a3_1 a4_0 a4_1) else (valancelaw10_StickLeast.j3 kj162 true t226 (decide (t226 < 0)) a0_0 a0_1 a1_0 a1_1 a2_0 a2_1 a3_0 a3_1 a4_0 a4_1)) else (valancelaw10_StickLeast.j3 kj162 true t226 true a0_0 a0_1 a1_0 a1_1 a2_0 a2_1 a3_0 a3_1 a4_0 a4_1)) else (if t226 > 0 then (valancelaw10_StickLeast.j3 kj162 true t226 true a0_0 a0_1 a1_0 a1_1 a2_0 a2_1 a3_0 a3_1 a4_0 a4_1) else (valancelaw10_StickLeast.j3 kj162 true t226 false a0_0 a0_1 a1_0 a1_1 a2_0 a2_1 a3_0 a3_1 a4_0 a4_1))) = some r := by rw [if_pos rfl] at H; exact H
                              clear H
                              have H := H1
                              clear H1
                              by_cases c184 : x14_162 = true
                              · subst c184
                                have H1 : (if t226 = 0 then (if t226 > 0 then (valancelaw10_StickLeast.j3 kj162 true t226 true a0_0 a0_1 a1_0 a1_1 a2_0 a2_1 a3_0 a3_1 a4_0 a4_1) else (valancelaw10_StickLeast.j3 kj162 true t226 (decide (t226 < 0)) a0_0 a0_1 a1_0 a1_1 a2_0 a2_1 a3_0 a3_1 a4_0 a4_1)) else (valancelaw10_StickLeast.j3 kj162 true t226 true a0_0 a0_1 a1_0 a1_1 a2_0 a2_1 a3_0 a3_1 a4_0 a4_1)) = some r := by rw [if_pos rfl] at H; exact H
                                clear H
                                have H := H1
                                clear H1
                                by_cases c185 : t226 = 0
                                · rw [if_pos c185] at H
                                  have c185b0 : (t226 == 0) = true := beq_iff_eq.mpr c185
                                  have c185b1 : (t226 != 0) = false := bne_eq_false_iff_eq.mpr c185
                                  clear c185
                                  (first | rw [c185b0] | (simp only [i64_w, i32_w]; rw [c185b0]) | skip)
                                  by_cases c186 : t226 > 0
                                  · rw [if_pos c186] at H
                                    have c186b0 : decide (0 < t226) = true := decide_eq_true c186
                                    clear c186
                                    have H' := Aside0.mk H
                                    clear H
                                    go_wp2
                                    go_meet
                                    case rel => exact ⟨_, (true), (by first | rfl | (simp; done) | (simp [*]; done)), H', ⟨by have := HJ7.out; have := HJ127.out; have := HJ162.out; first | omega | exact Nat.le_refl _⟩, ⟨by (with_reducible repeat (first | refine blk_drewN ?_ _ | refine blk_drew ?_ | refine blk_alloc ?_ _)); exact BK217.out⟩, ⟨by (with_reducible repeat (first | refine blk_drewN ?_ _ | refine blk_drew ?_ | refine blk_alloc ?_ _)); exact BK218.out⟩, ⟨by (with_reducible repeat (first | refine blk_drewN ?_ _ | refine blk_drew ?_ | refine blk_alloc ?_ _)); exact BK219.out⟩, ⟨by (with_reducible repeat (first | refine blk_drewN ?_ _ | refine blk_drew ?_ | refine blk_alloc ?_ _)); exact BK220.out⟩, ⟨by (with_reducible repeat (first | refine blk_drewN ?_ _ | refine blk_drew ?_ | refine blk_alloc ?_ _)); exact BK221.out⟩, ⟨by repeat (first | (with_reducible first | exact HB.out | apply below_alloc | apply pw_below_drewN | apply below_drew1 | refine below_set ?_ GE217.out | refine below_set ?_ GE218.out | refine below_set ?_ GE219.out | refine below_set ?_ GE220.out | refine below_set ?_ GE221.out) | exact HB.out)⟩⟩
                                  · rw [if_neg c186] at H
                                    have c186b0 : decide (0 < t226) = false := decide_eq_false c186
                                    clear c186
                                    have H' := Aside0.mk H
                                    clear H
                                    go_wp2
                                    go_meet
                                    case rel => exact ⟨_, (decide (t226 < 0)), (by first | rfl | (simp; done) | (simp [*]; done)), H', ⟨by have := HJ7.out; have := HJ127.out; have := HJ162.out; first | omega | exact Nat.le_refl _⟩, ⟨by (with_reducible repeat (first | refine blk_drewN ?_ _ | refine blk_drew ?_ | refine blk_alloc ?_ _)); exact BK217.out⟩, ⟨by (with_reducible repeat (first | refine blk_drewN ?_ _ | refine blk_drew ?_ | refine blk_alloc ?_ _)); exact BK218.out⟩, ⟨by (with_reducible repeat (first | refine blk_drewN ?_ _ | refine blk_drew ?_ | refine blk_alloc ?_ _)); exact BK219.out⟩, ⟨by (with_reducible repeat (first | refine blk_drewN ?_ _ | refine blk_drew ?_ | refine blk_alloc ?_ _)); exact BK220.out⟩, ⟨by (with_reducible repeat (first | refine blk_drewN ?_ _ | refine blk_drew ?_ | refine blk_alloc ?_ _)); exact BK221.out⟩, ⟨by repeat (first | (with_reducible first | exact HB.out | apply below_alloc | apply pw_below_drewN | apply below_drew1 | refine below_set ?_ GE217.out | refine below_set ?_ GE218.out | refine below_set ?_ GE219.out | refine below_set ?_ GE220.out | refine below_set ?_ GE221.out) | exact HB.out)⟩⟩
                                · rw [if_neg c185] at H
                                  have c185b0 : (t226 == 0) = false := beq_eq_false_iff_ne.mpr c185
                                  have c185b1 : (t226 != 0) = true := bne_iff_ne.mpr c185
                                  (first | rw [c185b0] | (simp only [i64_w, i32_w]; rw [c185b0]) | skip)
                                  have H' := Aside0.mk H
                                  clear H
                                  go_wp2
                                  go_meet
                                  case rel => exact ⟨_, (true), (by first | rfl | (simp; done) | (simp [*]; done)), H', ⟨by have := HJ7.out; have := HJ127.out; have := HJ162.out; first | omega | exact Nat.le_refl _⟩, ⟨by (with_reducible repeat (first | refine blk_drewN ?_ _ | refine blk_drew ?_ | refine blk_alloc ?_ _)); exact BK217.out⟩, ⟨by (with_reducible repeat (first | refine blk_drewN ?_ _ | refine blk_drew ?_ | refine blk_alloc ?_ _)); exact BK218.out⟩, ⟨by (with_reducible repeat (first | refine blk_drewN ?_ _ | refine blk_drew ?_ | refine blk_alloc ?_ _)); exact BK219.out⟩, ⟨by (with_reducible repeat (first | refine blk_drewN ?_ _ | refine blk_drew ?_ | refine blk_alloc ?_ _)); exact BK220.out⟩, ⟨by (with_reducible repeat (first | refine blk_drewN ?_ _ | refine blk_drew ?_ | refine blk_alloc ?_ _)); exact BK221.out⟩, ⟨by repeat (first | (with_reducible first | exact HB.out | apply below_alloc | apply pw_below_drewN | apply below_drew1 | refine below_set ?_ GE217.out | refine below_set ?_ GE218.out | refine below_set ?_ GE219.out | refine below_set ?_ GE220.out | refine below_set ?_ GE221.out) | exact HB.out)⟩⟩
                              · replace c184 := Bool.eq_false_iff.mpr c184
                                subst c184
                                have H1 : (if t226 > 0 then (valancelaw10_StickLeast.j3 kj162 true t226 true a0_0 a0_1 a1_0 a1_1 a2_0 a2_1 a3_0 a3_1 a4_0 a4_1) else (valancelaw10_StickLeast.j3 kj162 true t226 false a0_0 a0_1 a1_0 a1_1 a2_0 a2_1 a3_0 a3_1 a4_0 a4_1)) = some r := by rw [if_neg (show ¬ (false = true) by decide)] at H; exact H
                                clear H
                                have H := H1
                                clear H1
                                by_cases c187 : t226 > 0
                                · rw [if_pos c187] at H
                                  have c187b0 : decide (0 < t226) = true := decide_eq_true c187
                                  clear c187
                                  have H' := Aside0.mk H
                                  clear H
                                  go_wp2
                                  go_meet
                                  case rel => exact ⟨_, (true), (by first | rfl | (simp; done) | (simp [*]; done)), H', ⟨by have := HJ7.out; have := HJ127.out; have := HJ162.out; first | omega | exact Nat.le_refl _⟩, ⟨by (with_reducible repeat (first | refine blk_drewN ?_ _ | refine blk_drew ?_ | refine blk_alloc ?_ _)); exact BK217.out⟩, ⟨by (with_reducible repeat (first | refine blk_drewN ?_ _ | refine blk_drew ?_ | refine blk_alloc ?_ _)); exact BK218.out⟩, ⟨by (with_reducible repeat (first | refine blk_drewN ?_ _ | refine blk_drew ?_ | refine blk_alloc ?_ _)); exact BK219.out⟩, ⟨by (with_reducible repeat (first | refine blk_drewN ?_ _ | refine blk_drew ?_ | refine blk_alloc ?_ _)); exact BK220.out⟩, ⟨by (with_reducible repeat (first | refine blk_drewN ?_ _ | refine blk_drew ?_ | refine blk_alloc ?_ _)); exact BK221.out⟩, ⟨by repeat (first | (with_reducible first | exact HB.out | apply below_alloc | apply pw_below_drewN | apply below_drew1 | refine below_set ?_ GE217.out | refine below_set ?_ GE218.out | refine below_set ?_ GE219.out | refine below_set ?_ GE220.out | refine below_set ?_ GE221.out) | exact HB.out)⟩⟩
                                · rw [if_neg c187] at H
                                  have c187b0 : decide (0 < t226) = false := decide_eq_false c187
                                  clear c187
                                  have H' := Aside0.mk H
                                  clear H
                                  go_wp2
                                  go_meet
                                  case rel => exact ⟨_, (false), (by first | rfl | (simp; done) | (simp [*]; done)), H', ⟨by have := HJ7.out; have := HJ127.out; have := HJ162.out; first | omega | exact Nat.le_refl _⟩, ⟨by (with_reducible repeat (first | refine blk_drewN ?_ _ | refine blk_drew ?_ | refine blk_alloc ?_ _)); exact BK217.out⟩, ⟨by (with_reducible repeat (first | refine blk_drewN ?_ _ | refine blk_drew ?_ | refine blk_alloc ?_ _)); exact BK218.out⟩, ⟨by (with_reducible repeat (first | refine blk_drewN ?_ _ | refine blk_drew ?_ | refine blk_alloc ?_ _)); exact BK219.out⟩, ⟨by (with_reducible repeat (first | refine blk_drewN ?_ _ | refine blk_drew ?_ | refine blk_alloc ?_ _)); exact BK220.out⟩, ⟨by (with_reducible repeat (first | refine blk_drewN ?_ _ | refine blk_drew ?_ | refine blk_alloc ?_ _)); exact BK221.out⟩, ⟨by repeat (first | (with_reducible first | exact HB.out | apply below_alloc | apply pw_below_drewN | apply below_drew1 | refine below_set ?_ GE217.out | refine below_set ?_ GE218.out | refine below_set ?_ GE219.out | refine below_set ?_ GE220.out | refine below_set ?_ GE221.out) | exact HB.out)⟩⟩
                            · replace c183 := Bool.eq_false_iff.mpr c183
                              subst c183
                              have H1 : (if x14_162 = true then (valancelaw10_StickLeast.j3 kj162 true t226 (decide (t226 < 0)) a0_0 a0_1 a1_0 a1_1 a2_0 a2_1 a3_0 a3_1 a4_0 a4_1) else (valancelaw10_StickLeast.j3 kj162 true t226 false a0_0 a0_1 a1_0 a1_1 a2_0 a2_1 a3_0 a3_1 a4_0 a4_1)) = some r := by rw [if_neg (show ¬ (false = true) by decide)] at H; exact H
                              clear H
                              have H := H1
                              clear H1
                              by_cases c188 : x14_162 = true
                              · subst c188
                                have H1 : (valancelaw10_StickLeast.j3 kj162 true t226 (decide (t226 < 0)) a0_0 a0_1 a1_0 a1_1 a2_0 a2_1 a3_0 a3_1 a4_0 a4_1) = some r := by rw [if_pos rfl] at H; exact H
                                clear H
                                have H := H1
                                clear H1
                                have H' := Aside0.mk H
                                clear H
                                go_wp2
                                go_meet
                                case rel => exact ⟨_, (decide (t226 < 0)), (by first | rfl | (simp; done) | (simp [*]; done)), H', ⟨by have := HJ7.out; have := HJ127.out; have := HJ162.out; first | omega | exact Nat.le_refl _⟩, ⟨by (with_reducible repeat (first | refine blk_drewN ?_ _ | refine blk_drew ?_ | refine blk_alloc ?_ _)); exact BK217.out⟩, ⟨by (with_reducible repeat (first | refine blk_drewN ?_ _ | refine blk_drew ?_ | refine blk_alloc ?_ _)); exact BK218.out⟩, ⟨by (with_reducible repeat (first | refine blk_drewN ?_ _ | refine blk_drew ?_ | refine blk_alloc ?_ _)); exact BK219.out⟩, ⟨by (with_reducible repeat (first | refine blk_drewN ?_ _ | refine blk_drew ?_ | refine blk_alloc ?_ _)); exact BK220.out⟩, ⟨by (with_reducible repeat (first | refine blk_drewN ?_ _ | refine blk_drew ?_ | refine blk_alloc ?_ _)); exact BK221.out⟩, ⟨by repeat (first | (with_reducible first | exact HB.out | apply below_alloc | apply pw_below_drewN | apply below_drew1 | refine below_set ?_ GE217.out | refine below_set ?_ GE218.out | refine below_set ?_ GE219.out | refine below_set ?_ GE220.out | refine below_set ?_ GE221.out) | exact HB.out)⟩⟩
                              · replace c188 := Bool.eq_false_iff.mpr c188
                                subst c188
                                have H1 : (valancelaw10_StickLeast.j3 kj162 true t226 false a0_0 a0_1 a1_0 a1_1 a2_0 a2_1 a3_0 a3_1 a4_0 a4_1) = some r := by rw [if_neg (show ¬ (false = true) by decide)] at H; exact H
                                clear H
                                have H := H1
                                clear H1
                                have H' := Aside0.mk H
                                clear H
                                go_wp2
                                go_meet
                                case rel => exact ⟨_, (false), (by first | rfl | (simp; done) | (simp [*]; done)), H', ⟨by have := HJ7.out; have := HJ127.out; have := HJ162.out; first | omega | exact Nat.le_refl _⟩, ⟨by (with_reducible repeat (first | refine blk_drewN ?_ _ | refine blk_drew ?_ | refine blk_alloc ?_ _)); exact BK217.out⟩, ⟨by (with_reducible repeat (first | refine blk_drewN ?_ _ | refine blk_drew ?_ | refine blk_alloc ?_ _)); exact BK218.out⟩, ⟨by (with_reducible repeat (first | refine blk_drewN ?_ _ | refine blk_drew ?_ | refine blk_alloc ?_ _)); exact BK219.out⟩, ⟨by (with_reducible repeat (first | refine blk_drewN ?_ _ | refine blk_drew ?_ | refine blk_alloc ?_ _)); exact BK220.out⟩, ⟨by (with_reducible repeat (first | refine blk_drewN ?_ _ | refine blk_drew ?_ | refine blk_alloc ?_ _)); exact BK221.out⟩, ⟨by repeat (first | (with_reducible first | exact HB.out | apply below_alloc | apply pw_below_drewN | apply below_drew1 | refine below_set ?_ GE217.out | refine below_set ?_ GE218.out | refine below_set ?_ GE219.out | refine below_set ?_ GE220.out | refine below_set ?_ GE221.out) | exact HB.out)⟩⟩
                        case rest =>
                          as_aux_lemma =>
                            clear HC182
                            try clear c1
                            try clear c2
                            try clear p2
                            try clear c3
                            try clear c4
                            try clear c5
                            try clear c6
                            try clear p6
                            try clear c7
                            try clear c8
                            try clear c9
                            try clear c10
                            try clear c11
                            try clear c12
                            try clear c13
                            try clear c14
                            try clear c15
                            try clear c16
                            try clear c17
                            try clear c18
                            try clear c20
                            try clear c21
                            try clear c21b0
                            try clear c22
                            try clear c23
                            try clear c24
                            try clear c25
                            try clear c28
                            try clear c29
                            try clear c30
                            try clear c33
                            try clear c34
                            try clear c37
                            try clear c39
                            try clear c39b0
                            try clear c40
                            try clear c41
                            try clear c42
                            try clear c43
                            try clear c46
                            try clear c47
                            try clear c48
                            try clear c51
                            try clear c52
                            try clear c55
                            try clear c57
                            try clear c57b0
                            try clear c58
                            try clear c59
                            try clear c60
                            try clear c61
                            try clear c64
                            try clear p64
                            try clear c65
                            try clear c66
                            try clear c69
                            try clear c70
                            try clear c73
                            try clear c76
                            try clear c77
                            try clear c78
                            try clear c79
                            try clear c82
                            try clear c83
                            try clear c84
                            try clear c87
                            try clear c88
                            try clear c91
                            try clear c94
                            try clear c95
                            try clear c96
                            try clear c97
                            try clear c100
                            try clear c101
                            try clear c102
                            try clear c105
                            try clear c106
                            try clear c109
                            try clear c110
                            try clear c111
                            try clear c112
                            try clear c115
                            try clear c116
                            try clear c117
                            try clear c120
                            try clear c121
                            try clear c122
                            try clear c123
                            try clear c126
                            try clear c129
                            try clear c130
                            try clear c131
                            try clear c132
                            try clear c134
                            try clear c135
                            try clear c136
                            try clear c138
                            try clear c139
                            try clear c141
                            try clear c145
                            try clear c146
                            try clear c147
                            try clear c148
                            try clear c149
                            try clear c151
                            try clear c152
                            try clear c153
                            try clear c155
                            try clear c156
                            try clear c158
                            try clear c159
                            try clear c160
                            try clear c161
                            try clear c164
                            try clear c165
                            try clear c166
                            try clear c167
                            try clear c168
                            try clear c170
                            try clear c171
                            try clear c172
                            try clear c174
                            try clear c175
                            try clear c177
                            try clear c178
                            try clear c179
                            try clear c180
                            try clear c183
                            try clear c184
                            try clear c185
                            try clear c185b0
                            try clear c185b1
                            try clear c186
                            try clear c186b0
                            try clear c187
                            try clear c187b0
                            try clear c188
                            try clear hcz103_0
                            try clear hcz103_1
                            try clear hcz107_0
                            try clear hcz107_1
                            try clear hcz113_0
                            try clear hcz113_1
                            try clear hcz118_0
                            try clear hcz118_1
                            try clear hcz124_0
                            try clear hcz124_1
                            try clear hcz133_0
                            try clear hcz133_1
                            try clear hcz137_0
                            try clear hcz137_1
                            try clear hcz140_0
                            try clear hcz140_1
                            try clear hcz142_0
                            try clear hcz142_1
                            try clear hcz143_0
                            try clear hcz143_1
                            try clear hcz150_0
                            try clear hcz150_1
                            try clear hcz154_0
                            try clear hcz154_1
                            try clear hcz157_0
                            try clear hcz157_1
                            try clear hcz162_0
                            try clear hcz162_1
                            try clear hcz169_0
                            try clear hcz169_1
                            try clear hcz173_0
                            try clear hcz173_1
                            try clear hcz176_0
                            try clear hcz176_1
                            try clear hcz181_0
                            try clear hcz181_1
                            try clear hcz26_0
                            try clear hcz26_1
                            try clear hcz31_0
                            try clear hcz31_1
                            try clear hcz35_0
                            try clear hcz35_1
                            try clear hcz38_0
                            try clear hcz38_1
                            try clear hcz44_0
                            try clear hcz44_1
                            try clear hcz49_0
                            try clear hcz49_1
                            try clear hcz53_0
                            try clear hcz53_1
                            try clear hcz56_0
                            try clear hcz56_1
                            try clear hcz62_0
                            try clear hcz62_1
                            try clear hcz67_0
                            try clear hcz67_1
                            try clear hcz71_0
                            try clear hcz71_1
                            try clear hcz74_0
                            try clear hcz74_1
                            try clear hcz75_0
                            try clear hcz75_1
                            try clear hcz80_0
                            try clear hcz80_1
                            try clear hcz85_0
                            try clear hcz85_1
                            try clear hcz89_0
                            try clear hcz89_1
                            try clear hcz92_0
                            try clear hcz92_1
                            try clear hcz93_0
                            try clear hcz93_1
                            try clear hcz98_0
                            try clear hcz98_1
                            try clear hfz103_0
                            try clear hfz103_1
                            try clear hfz107_0
                            try clear hfz107_1
                            try clear hfz113_0
                            try clear hfz113_1
                            try clear hfz118_0
                            try clear hfz118_1
                            try clear hfz124_0
                            try clear hfz124_1
                            try clear hfz133_0
                            try clear hfz133_1
                            try clear hfz137_0
                            try clear hfz137_1
                            try clear hfz140_0
                            try clear hfz140_1
                            try clear hfz142_0
                            try clear hfz142_1
                            try clear hfz143_0
                            try clear hfz143_1
                            try clear hfz150_0
                            try clear hfz150_1
                            try clear hfz154_0
                            try clear hfz154_1
                            try clear hfz157_0
                            try clear hfz157_1
                            try clear hfz162_0
                            try clear hfz162_1
                            try clear hfz169_0
                            try clear hfz169_1
                            try clear hfz173_0
                            try clear hfz173_1
                            try clear hfz176_0
                            try clear hfz176_1
                            try clear hfz181_0
                            try clear hfz181_1
                            try clear hfz26_0
                            try clear hfz26_1
                            try clear hfz31_0
                            try clear hfz31_1
                            try clear hfz35_0
                            try clear hfz35_1
                            try clear hfz38_0
                            try clear hfz38_1
                            try clear hfz44_0
                            try clear hfz44_1
                            try clear hfz49_0
                            try clear hfz49_1
                            try clear hfz53_0
                            try clear hfz53_1
                            try clear hfz56_0
                            try clear hfz56_1
                            try clear hfz62_0
                            try clear hfz62_1
                            try clear hfz67_0
                            try clear hfz67_1
                            try clear hfz71_0
                            try clear hfz71_1
                            try clear hfz74_0
                            try clear hfz74_1
                            try clear hfz75_0
                            try clear hfz75_1
                            try clear hfz80_0
                            try clear hfz80_1
                            try clear hfz85_0
                            try clear hfz85_1
                            try clear hfz89_0
                            try clear hfz89_1
                            try clear hfz92_0
                            try clear hfz92_1
                            try clear hfz93_0
                            try clear hfz93_1
                            try clear hfz98_0
                            try clear hfz98_1
                            try clear p2
                            try clear p6
                            try clear p64
                            obtain ⟨kq, x106_181, rfl, HA, HJ181, BK217, BK218, BK219, BK220, BK221, HB⟩ := hcut
                            cases kq with
                            | zero => exact absurd HA.out (by simp [valancelaw10_StickLeast.j3])
                            | succ kj181 =>
                              have H := HA.out
                              clear HA
                              simp only [valancelaw10_StickLeast.j3] at H
                              by_cases c189 : x106_181 = true
                              · subst c189
                                have H1 : (none) = some r := by rw [if_pos rfl] at H; exact H
                                clear H
                                have H := H1
                                clear H1
                                exact absurd H (by simp)
                              · replace c189 := Bool.eq_false_iff.mpr c189
                                subst c189
                                have H1 : (if t226 > 0 then (if (wrap64 (a0_1 + t226)) = a1_1 then (if a3_0 = true then (if true = true then (if t226 ≥ 0 then (some true) else (if (wrap64 (a0_0 + t226)) = a1_0 then (some true) else (if (wrap64 (a0_1 + t226)) = (wrap64 (a2_1 - a4_1)) then (some true) else (some ((wrap64 (a0_0 + t226)) == (wrap64 (a2_0 + a3_1))))))) else (none)) else (if true = true then (if t226 ≥ 0 then (some true) else (if (wrap64 (a0_0 + t226)) = a1_0 then (some true) else (if (wrap64 (a0_1 + t226)) = (wrap64 (a2_1 - a4_1)) then (some true) else (none)))) else (none))) else (if (wrap64 (a0_0 + t226)) = (wrap64 (a2_0 + a3_1)) then (if a3_0 = true then (if true = true then (if t226 ≥ 0 then (some true) else (if (wrap64 (a0_0 + t226)) = a1_0 then (some true) else (if (wrap64 (a0_1 + t226)) = (wrap64 (a2_1 - a4_1)) then (some true) else (some ((wrap64 (a0_0 + t226)) == (wrap64 (a2_0 + a3_1))))))) else (none)) else (if true = true then (if t226 ≥ 0 then (some true) else (if (wrap64 (a0_0 + t226)) = a1_0 then (some true) else (if (wrap64 (a0_1 + t226)) = (wrap64 (a2_1 - a4_1)) then (some true) else (none)))) else (none))) else (none))) else (if a3_0 = true then (if true = true then (if t226 ≥ 0 then (some true) else (if (wrap64 (a0_0 + t226)) = a1_0 then (some true) else (if (wrap64 (a0_1 + t226)) = (wrap64 (a2_1 - a4_1)) then (some true) else (some ((wrap64 (a0_0 + t226)) == (wrap64 (a2_0 + a3_1))))))) else (none)) else (if true = true then (if t226 ≥ 0 then (some true) else (if (wrap64 (a0_0 + t226)) = a1_0 then (some true) else (if (wrap64 (a0_1 + t226)) = (wrap64 (a2_1 - a4_1)) then (some true) else (none)))) else (none)))) = some r := by rw [if_neg (show ¬ (false = true) by decide)] at H; exact H
                                clear H
                                have H := H1
                                clear H1
                                by_cases c190 : t226 > 0
                                · rw [if_pos c190] at H
                                  have c190b0 : decide (0 < t226) = true := decide_eq_true c190
                                  clear c190
                                  by_cases c191 : (wrap64 (a0_1 + t226)) = a1_1
                                  · rw [if_pos c191] at H
                                    have c191b0 : ((wrap64 (a0_1 + t226)) == a1_1) = true := beq_iff_eq.mpr c191
                                    have c191b1 : ((wrap64 (a0_1 + t226)) != a1_1) = false := bne_eq_false_iff_eq.mpr c191
                                    clear c191
                                    by_cases c192 : a3_0 = true
                                    · subst c192
                                      have H1 : (if true = true then (if t226 ≥ 0 then (some true) else (if (wrap64 (a0_0 + t226)) = a1_0 then (some true) else (if (wrap64 (a0_1 + t226)) = (wrap64 (a2_1 - a4_1)) then (some true) else (some ((wrap64 (a0_0 + t226)) == (wrap64 (a2_0 + a3_1))))))) else (none)) = some r := by rw [if_pos rfl] at H; exact H
                                      clear H
                                      have H := H1
                                      clear H1
                                      by_cases c193 : true = true
                                      · clear c193
                                        have H1 : (if t226 ≥ 0 then (some true) else (if (wrap64 (a0_0 + t226)) = a1_0 then (some true) else (if (wrap64 (a0_1 + t226)) = (wrap64 (a2_1 - a4_1)) then (some true) else (some ((wrap64 (a0_0 + t226)) == (wrap64 (a2_0 + a3_1))))))) = some r := by first | (rw [if_pos rfl] at H; exact H) | (rw [if_pos True.intro] at H; exact H)
                                        clear H
                                        have H := H1
                                        clear H1
                                        by_cases c194 : t226 ≥ 0
                                        · rw [if_pos c194] at H
                                          have c194b0 : decide (0 ≤ t226) = true := decide_eq_true c194
                                          clear c194
                                          obtain rfl := Option.some.inj H
                                          have hnb195 := NB217_218.out
                                          have hnc195 := NB218_217.out
                                          have hnb196 := NB217_219.out
                                          have hnc196 := NB219_217.out
                                          have hnb197 := NB217_220.out
                                          have hnc197 := NB220_217.out
                                          have hnb198 := NB217_221.out
                                          have hnc198 := NB221_217.out
                                          have hcz199_0 : wc.cell? ⟨gb217, 0, none⟩ = some (.int .i64 a0_0) := (blk_cell BK217.out 0).trans rfl
                                          have hcz199_1 : wc.cell? ⟨gb217, 1, none⟩ = some (.int .i64 a0_1) := (blk_cell BK217.out 1).trans rfl
                                          have hfz199_0 := blk_frozen BK217.out 0
                                          have hfz199_1 := blk_frozen BK217.out 1
                                          have hnb200 := NB218_219.out
                                          have hnc200 := NB219_218.out
                                          have hnb201 := NB218_220.out
                                          have hnc201 := NB220_218.out
                                          have hnb202 := NB218_221.out
                                          have hnc202 := NB221_218.out
                                          have hcz203_0 : wc.cell? ⟨gb218, 0, none⟩ = some (.int .i64 a1_0) := (blk_cell BK218.out 0).trans rfl
                                          have hcz203_1 : wc.cell? ⟨gb218, 1, none⟩ = some (.int .i64 a1_1) := (blk_cell BK218.out 1).trans rfl
                                          have hfz203_0 := blk_frozen BK218.out 0
                                          have hfz203_1 := blk_frozen BK218.out 1
                                          have hnb204 := NB220_219.out
                                          have hnc204 := NB219_220.out
                                          have hnb205 := NB220_221.out
                                          have hnc205 := NB221_220.out
                                          have hcz206_0 : wc.cell? ⟨gb220, 0, none⟩ = some (.bool true) := (blk_cell BK220.out 0).trans rfl
                                          have hcz206_1 : wc.cell? ⟨gb220, 1, none⟩ = some (.int .i64 a3_1) := (blk_cell BK220.out 1).trans rfl
                                          have hfz206_0 := blk_frozen BK220.out 0
                                          have hfz206_1 := blk_frozen BK220.out 1
                                          have hnb207 := NB219_221.out
                                          have hnc207 := NB221_219.out
                                          have hcz208_0 : wc.cell? ⟨gb219, 0, none⟩ = some (.int .i64 a2_0) := (blk_cell BK219.out 0).trans rfl
                                          have hcz208_1 : wc.cell? ⟨gb219, 1, none⟩ = some (.int .i64 a2_1) := (blk_cell BK219.out 1).trans rfl
                                          have hfz208_0 := blk_frozen BK219.out 0
                                          have hfz208_1 := blk_frozen BK219.out 1
                                          go_wp2
                                          go_ret
                                          exact ⟨by first | rfl | (simp [errW_none, errW_some] <;> rfl) | (simp [*, errW_none, errW_some] <;> rfl), by repeat (first | (with_reducible first | exact HB.out | apply below_alloc | apply pw_below_drewN | apply below_drew1 | refine below_set ?_ GE217.out | refine below_set ?_ GE218.out | refine below_set ?_ GE219.out | refine below_set ?_ GE220.out | refine below_set ?_ GE221.out) | exact HB.out)⟩
                                        · rw [if_neg c194] at H
                                          have c194b0 : decide (0 ≤ t226) = false := decide_eq_false c194
                                          clear c194
                                          by_cases c209 : (wrap64 (a0_0 + t226)) = a1_0
                                          · rw [if_pos c209] at H
                                            have c209b0 : ((wrap64 (a0_0 + t226)) == a1_0) = true := beq_iff_eq.mpr c209
                                            have c209b1 : ((wrap64 (a0_0 + t226)) != a1_0) = false := bne_eq_false_iff_eq.mpr c209
                                            clear c209
                                            obtain rfl := Option.some.inj H
                                            have hnb210 := NB217_218.out
                                            have hnc210 := NB218_217.out
                                            have hnb211 := NB217_219.out
                                            have hnc211 := NB219_217.out
                                            have hnb212 := NB217_220.out
                                            have hnc212 := NB220_217.out
                                            have hnb213 := NB217_221.out
                                            have hnc213 := NB221_217.out
                                            have hcz214_0 : wc.cell? ⟨gb217, 0, none⟩ = some (.int .i64 a0_0) := (blk_cell BK217.out 0).trans rfl
                                            have hcz214_1 : wc.cell? ⟨gb217, 1, none⟩ = some (.int .i64 a0_1) := (blk_cell BK217.out 1).trans rfl
                                            have hfz214_0 := blk_frozen BK217.out 0
                                            have hfz214_1 := blk_frozen BK217.out 1
                                            have hnb215 := NB218_219.out
                                            have hnc215 := NB219_218.out
                                            have hnb216 := NB218_220.out
                                            have hnc216 := NB220_218.out
                                            have hnb217 := NB218_221.out
                                            have hnc217 := NB221_218.out
                                            have hcz218_0 : wc.cell? ⟨gb218, 0, none⟩ = some (.int .i64 a1_0) := (blk_cell BK218.out 0).trans rfl
                                            have hcz218_1 : wc.cell? ⟨gb218, 1, none⟩ = some (.int .i64 a1_1) := (blk_cell BK218.out 1).trans rfl
                                            have hfz218_0 := blk_frozen BK218.out 0
                                            have hfz218_1 := blk_frozen BK218.out 1
                                            have hnb219 := NB220_219.out
                                            have hnc219 := NB219_220.out
                                            have hnb220 := NB220_221.out
                                            have hnc220 := NB221_220.out
                                            have hcz221_0 : wc.cell? ⟨gb220, 0, none⟩ = some (.bool true) := (blk_cell BK220.out 0).trans rfl
                                            have hcz221_1 : wc.cell? ⟨gb220, 1, none⟩ = some (.int .i64 a3_1) := (blk_cell BK220.out 1).trans rfl
                                            have hfz221_0 := blk_frozen BK220.out 0
                                            have hfz221_1 := blk_frozen BK220.out 1
                                            have hnb222 := NB219_221.out
                                            have hnc222 := NB221_219.out
                                            have hcz223_0 : wc.cell? ⟨gb219, 0, none⟩ = some (.int .i64 a2_0) := (blk_cell BK219.out 0).trans rfl
                                            have hcz223_1 : wc.cell? ⟨gb219, 1, none⟩ = some (.int .i64 a2_1) := (blk_cell BK219.out 1).trans rfl
                                            have hfz223_0 := blk_frozen BK219.out 0
                                            have hfz223_1 := blk_frozen BK219.out 1
                                            go_wp2
                                            go_ret
                                            exact ⟨by first | rfl | (simp [errW_none, errW_some] <;> rfl) | (simp [*, errW_none, errW_some] <;> rfl), by repeat (first | (with_reducible first | exact HB.out | apply below_alloc | apply pw_below_drewN | apply below_drew1 | refine below_set ?_ GE217.out | refine below_set ?_ GE218.out | refine below_set ?_ GE219.out | refine below_set ?_ GE220.out | refine below_set ?_ GE221.out) | exact HB.out)⟩
                                          · rw [if_neg c209] at H
                                            have c209b0 : ((wrap64 (a0_0 + t226)) == a1_0) = false := beq_eq_false_iff_ne.mpr c209
                                            have c209b1 : ((wrap64 (a0_0 + t226)) != a1_0) = true := bne_iff_ne.mpr c209
                                            by_cases c224 : (wrap64 (a0_1 + t226)) = (wrap64 (a2_1 - a4_1))
                                            · rw [if_pos c224] at H
                                              have c224b0 : ((wrap64 (a0_1 + t226)) == (wrap64 (a2_1 - a4_1))) = true := beq_iff_eq.mpr c224
                                              have c224b1 : ((wrap64 (a0_1 + t226)) != (wrap64 (a2_1 - a4_1))) = false := bne_eq_false_iff_eq.mpr c224
                                              clear c224
                                              obtain rfl := Option.some.inj H
                                              have hnb225 := NB217_218.out
                                              have hnc225 := NB218_217.out
                                              have hnb226 := NB217_219.out
                                              have hnc226 := NB219_217.out
                                              have hnb227 := NB217_220.out
                                              have hnc227 := NB220_217.out
                                              have hnb228 := NB217_221.out
                                              have hnc228 := NB221_217.out
                                              have hcz229_0 : wc.cell? ⟨gb217, 0, none⟩ = some (.int .i64 a0_0) := (blk_cell BK217.out 0).trans rfl
                                              have hcz229_1 : wc.cell? ⟨gb217, 1, none⟩ = some (.int .i64 a0_1) := (blk_cell BK217.out 1).trans rfl
                                              have hfz229_0 := blk_frozen BK217.out 0
                                              have hfz229_1 := blk_frozen BK217.out 1
                                              have hnb230 := NB218_219.out
                                              have hnc230 := NB219_218.out
                                              have hnb231 := NB218_220.out
                                              have hnc231 := NB220_218.out
                                              have hnb232 := NB218_221.out
                                              have hnc232 := NB221_218.out
                                              have hcz233_0 : wc.cell? ⟨gb218, 0, none⟩ = some (.int .i64 a1_0) := (blk_cell BK218.out 0).trans rfl
                                              have hcz233_1 : wc.cell? ⟨gb218, 1, none⟩ = some (.int .i64 a1_1) := (blk_cell BK218.out 1).trans rfl
                                              have hfz233_0 := blk_frozen BK218.out 0
                                              have hfz233_1 := blk_frozen BK218.out 1
                                              have hnb234 := NB220_219.out
                                              have hnc234 := NB219_220.out
                                              have hnb235 := NB220_221.out
                                              have hnc235 := NB221_220.out
                                              have hcz236_0 : wc.cell? ⟨gb220, 0, none⟩ = some (.bool true) := (blk_cell BK220.out 0).trans rfl
                                              have hcz236_1 : wc.cell? ⟨gb220, 1, none⟩ = some (.int .i64 a3_1) := (blk_cell BK220.out 1).trans rfl
                                              have hfz236_0 := blk_frozen BK220.out 0
                                              have hfz236_1 := blk_frozen BK220.out 1
                                              have hnb237 := NB219_221.out
                                              have hnc237 := NB221_219.out
                                              have hcz238_0 : wc.cell? ⟨gb219, 0, none⟩ = some (.int .i64 a2_0) := (blk_cell BK219.out 0).trans rfl
                                              have hcz238_1 : wc.cell? ⟨gb219, 1, none⟩ = some (.int .i64 a2_1) := (blk_cell BK219.out 1).trans rfl
                                              have hfz238_0 := blk_frozen BK219.out 0
                                              have hfz238_1 := blk_frozen BK219.out 1
                                              have hcz239_0 : wc.cell? ⟨gb221, 0, none⟩ = some (.bool a4_0) := (blk_cell BK221.out 0).trans rfl
                                              have hcz239_1 : wc.cell? ⟨gb221, 1, none⟩ = some (.int .i64 a4_1) := (blk_cell BK221.out 1).trans rfl
                                              have hfz239_0 := blk_frozen BK221.out 0
                                              have hfz239_1 := blk_frozen BK221.out 1
                                              go_wp2
                                              go_ret
                                              exact ⟨by first | rfl | (simp [errW_none, errW_some] <;> rfl) | (simp [*, errW_none, errW_some] <;> rfl), by repeat (first | (with_reducible first | exact HB.out | apply below_alloc | apply pw_below_drewN | apply below_drew1 | refine below_set ?_ GE217.out | refine below_set ?_ GE218.out | refine below_set ?_ GE219.out | refine below_set ?_ GE220.out | refine below_set ?_ GE221.out) | exact HB.out)⟩
                                            · rw [if_neg c224] at H
                                              have c224b0 : ((wrap64 (a0_1 + t226)) == (wrap64 (a2_1 - a4_1))) = false := beq_eq_false_iff_ne.mpr c224
                                              have c224b1 : ((wrap64 (a0_1 + t226)) != (wrap64 (a2_1 - a4_1))) = true := bne_iff_ne.mpr c224
                                              obtain rfl := Option.some.inj H
                                              have hnb240 := NB217_218.out
                                              have hnc240 := NB218_217.out
                                              have hnb241 := NB217_219.out
                                              have hnc241 := NB219_217.out
                                              have hnb242 := NB217_220.out
                                              have hnc242 := NB220_217.out
                                              have hnb243 := NB217_221.out
                                              have hnc243 := NB221_217.out
                                              have hcz244_0 : wc.cell? ⟨gb217, 0, none⟩ = some (.int .i64 a0_0) := (blk_cell BK217.out 0).trans rfl
                                              have hcz244_1 : wc.cell? ⟨gb217, 1, none⟩ = some (.int .i64 a0_1) := (blk_cell BK217.out 1).trans rfl
                                              have hfz244_0 := blk_frozen BK217.out 0
                                              have hfz244_1 := blk_frozen BK217.out 1
                                              have hnb245 := NB218_219.out
                                              have hnc245 := NB219_218.out
                                              have hnb246 := NB218_220.out
                                              have hnc246 := NB220_218.out
                                              have hnb247 := NB218_221.out
                                              have hnc247 := NB221_218.out
                                              have hcz248_0 : wc.cell? ⟨gb218, 0, none⟩ = some (.int .i64 a1_0) := (blk_cell BK218.out 0).trans rfl
                                              have hcz248_1 : wc.cell? ⟨gb218, 1, none⟩ = some (.int .i64 a1_1) := (blk_cell BK218.out 1).trans rfl
                                              have hfz248_0 := blk_frozen BK218.out 0
                                              have hfz248_1 := blk_frozen BK218.out 1
                                              have hnb249 := NB220_219.out
                                              have hnc249 := NB219_220.out
                                              have hnb250 := NB220_221.out
                                              have hnc250 := NB221_220.out
                                              have hcz251_0 : wc.cell? ⟨gb220, 0, none⟩ = some (.bool true) := (blk_cell BK220.out 0).trans rfl
                                              have hcz251_1 : wc.cell? ⟨gb220, 1, none⟩ = some (.int .i64 a3_1) := (blk_cell BK220.out 1).trans rfl
                                              have hfz251_0 := blk_frozen BK220.out 0
                                              have hfz251_1 := blk_frozen BK220.out 1
                                              have hnb252 := NB219_221.out
                                              have hnc252 := NB221_219.out
                                              have hcz253_0 : wc.cell? ⟨gb219, 0, none⟩ = some (.int .i64 a2_0) := (blk_cell BK219.out 0).trans rfl
                                              have hcz253_1 : wc.cell? ⟨gb219, 1, none⟩ = some (.int .i64 a2_1) := (blk_cell BK219.out 1).trans rfl
                                              have hfz253_0 := blk_frozen BK219.out 0
                                              have hfz253_1 := blk_frozen BK219.out 1
                                              have hcz254_0 : wc.cell? ⟨gb221, 0, none⟩ = some (.bool a4_0) := (blk_cell BK221.out 0).trans rfl
                                              have hcz254_1 : wc.cell? ⟨gb221, 1, none⟩ = some (.int .i64 a4_1) := (blk_cell BK221.out 1).trans rfl
                                              have hfz254_0 := blk_frozen BK221.out 0
                                              have hfz254_1 := blk_frozen BK221.out 1
                                              go_wp2
                                              go_ret
                                              exact ⟨by first | rfl | (simp [errW_none, errW_some] <;> rfl) | (simp [*, errW_none, errW_some] <;> rfl), by repeat (first | (with_reducible first | exact HB.out | apply below_alloc | apply pw_below_drewN | apply below_drew1 | refine below_set ?_ GE217.out | refine below_set ?_ GE218.out | refine below_set ?_ GE219.out | refine below_set ?_ GE220.out | refine below_set ?_ GE221.out) | exact HB.out)⟩
                                      · exact absurd rfl c193
                                    · replace c192 := Bool.eq_false_iff.mpr c192
                                      subst c192
                                      have H1 : (if true = true then (if t226 ≥ 0 then (some true) else (if (wrap64 (a0_0 + t226)) = a1_0 then (some true) else (if (wrap64 (a0_1 + t226)) = (wrap64 (a2_1 - a4_1)) then (some true) else (none)))) else (none)) = some r := by rw [if_neg (show ¬ (false = true) by decide)] at H; exact H
                                      clear H
                                      have H := H1
                                      clear H1
                                      by_cases c255 : true = true
                                      · clear c255
                                        have H1 : (if t226 ≥ 0 then (some true) else (if (wrap64 (a0_0 + t226)) = a1_0 then (some true) else (if (wrap64 (a0_1 + t226)) = (wrap64 (a2_1 - a4_1)) then (some true) else (none)))) = some r := by first | (rw [if_pos rfl] at H; exact H) | (rw [if_pos True.intro] at H; exact H)
                                        clear H
                                        have H := H1
                                        clear H1
                                        by_cases c256 : t226 ≥ 0
                                        · rw [if_pos c256] at H
                                          have c256b0 : decide (0 ≤ t226) = true := decide_eq_true c256
                                          clear c256
                                          obtain rfl := Option.some.inj H
                                          have hnb257 := NB217_218.out
                                          have hnc257 := NB218_217.out
                                          have hnb258 := NB217_219.out
                                          have hnc258 := NB219_217.out
                                          have hnb259 := NB217_220.out
                                          have hnc259 := NB220_217.out
                                          have hnb260 := NB217_221.out
                                          have hnc260 := NB221_217.out
                                          have hcz261_0 : wc.cell? ⟨gb217, 0, none⟩ = some (.int .i64 a0_0) := (blk_cell BK217.out 0).trans rfl
                                          have hcz261_1 : wc.cell? ⟨gb217, 1, none⟩ = some (.int .i64 a0_1) := (blk_cell BK217.out 1).trans rfl
                                          have hfz261_0 := blk_frozen BK217.out 0
                                          have hfz261_1 := blk_frozen BK217.out 1
                                          have hnb262 := NB218_219.out
                                          have hnc262 := NB219_218.out
                                          have hnb263 := NB218_220.out
                                          have hnc263 := NB220_218.out
                                          have hnb264 := NB218_221.out
                                          have hnc264 := NB221_218.out
                                          have hcz265_0 : wc.cell? ⟨gb218, 0, none⟩ = some (.int .i64 a1_0) := (blk_cell BK218.out 0).trans rfl
                                          have hcz265_1 : wc.cell? ⟨gb218, 1, none⟩ = some (.int .i64 a1_1) := (blk_cell BK218.out 1).trans rfl
                                          have hfz265_0 := blk_frozen BK218.out 0
                                          have hfz265_1 := blk_frozen BK218.out 1
                                          have hnb266 := NB220_219.out
                                          have hnc266 := NB219_220.out
                                          have hnb267 := NB220_221.out
                                          have hnc267 := NB221_220.out
                                          have hcz268_0 : wc.cell? ⟨gb220, 0, none⟩ = some (.bool false) := (blk_cell BK220.out 0).trans rfl
                                          have hcz268_1 : wc.cell? ⟨gb220, 1, none⟩ = some (.int .i64 a3_1) := (blk_cell BK220.out 1).trans rfl
                                          have hfz268_0 := blk_frozen BK220.out 0
                                          have hfz268_1 := blk_frozen BK220.out 1
                                          go_wp2
                                          go_ret
                                          exact ⟨by first | rfl | (simp [errW_none, errW_some] <;> rfl) | (simp [*, errW_none, errW_some] <;> rfl), by repeat (first | (with_reducible first | exact HB.out | apply below_alloc | apply pw_below_drewN | apply below_drew1 | refine below_set ?_ GE217.out | refine below_set ?_ GE218.out | refine below_set ?_ GE219.out | refine below_set ?_ GE220.out | refine below_set ?_ GE221.out) | exact HB.out)⟩
                                        · rw [if_neg c256] at H
                                          have c256b0 : decide (0 ≤ t226) = false := decide_eq_false c256
                                          clear c256
                                          by_cases c269 : (wrap64 (a0_0 + t226)) = a1_0
                                          · rw [if_pos c269] at H
                                            have c269b0 : ((wrap64 (a0_0 + t226)) == a1_0) = true := beq_iff_eq.mpr c269
                                            have c269b1 : ((wrap64 (a0_0 + t226)) != a1_0) = false := bne_eq_false_iff_eq.mpr c269
                                            clear c269
                                            obtain rfl := Option.some.inj H
                                            have hnb270 := NB217_218.out
                                            have hnc270 := NB218_217.out
                                            have hnb271 := NB217_219.out
                                            have hnc271 := NB219_217.out
                                            have hnb272 := NB217_220.out
                                            have hnc272 := NB220_217.out
                                            have hnb273 := NB217_221.out
                                            have hnc273 := NB221_217.out
                                            have hcz274_0 : wc.cell? ⟨gb217, 0, none⟩ = some (.int .i64 a0_0) := (blk_cell BK217.out 0).trans rfl
                                            have hcz274_1 : wc.cell? ⟨gb217, 1, none⟩ = some (.int .i64 a0_1) := (blk_cell BK217.out 1).trans rfl
                                            have hfz274_0 := blk_frozen BK217.out 0
                                            have hfz274_1 := blk_frozen BK217.out 1
                                            have hnb275 := NB218_219.out
                                            have hnc275 := NB219_218.out
                                            have hnb276 := NB218_220.out
                                            have hnc276 := NB220_218.out
                                            have hnb277 := NB218_221.out
                                            have hnc277 := NB221_218.out
                                            have hcz278_0 : wc.cell? ⟨gb218, 0, none⟩ = some (.int .i64 a1_0) := (blk_cell BK218.out 0).trans rfl
                                            have hcz278_1 : wc.cell? ⟨gb218, 1, none⟩ = some (.int .i64 a1_1) := (blk_cell BK218.out 1).trans rfl
                                            have hfz278_0 := blk_frozen BK218.out 0
                                            have hfz278_1 := blk_frozen BK218.out 1
                                            have hnb279 := NB220_219.out
                                            have hnc279 := NB219_220.out
                                            have hnb280 := NB220_221.out
                                            have hnc280 := NB221_220.out
                                            have hcz281_0 : wc.cell? ⟨gb220, 0, none⟩ = some (.bool false) := (blk_cell BK220.out 0).trans rfl
                                            have hcz281_1 : wc.cell? ⟨gb220, 1, none⟩ = some (.int .i64 a3_1) := (blk_cell BK220.out 1).trans rfl
                                            have hfz281_0 := blk_frozen BK220.out 0
                                            have hfz281_1 := blk_frozen BK220.out 1
                                            go_wp2
                                            go_ret
                                            exact ⟨by first | rfl | (simp [errW_none, errW_some] <;> rfl) | (simp [*, errW_none, errW_some] <;> rfl), by repeat (first | (with_reducible first | exact HB.out | apply below_alloc | apply pw_below_drewN | apply below_drew1 | refine below_set ?_ GE217.out | refine below_set ?_ GE218.out | refine below_set ?_ GE219.out | refine below_set ?_ GE220.out | refine below_set ?_ GE221.out) | exact HB.out)⟩
                                          · rw [if_neg c269] at H
                                            have c269b0 : ((wrap64 (a0_0 + t226)) == a1_0) = false := beq_eq_false_iff_ne.mpr c269
                                            have c269b1 : ((wrap64 (a0_0 + t226)) != a1_0) = true := bne_iff_ne.mpr c269
                                            by_cases c282 : (wrap64 (a0_1 + t226)) = (wrap64 (a2_1 - a4_1))
                                            · rw [if_pos c282] at H
                                              have c282b0 : ((wrap64 (a0_1 + t226)) == (wrap64 (a2_1 - a4_1))) = true := beq_iff_eq.mpr c282
                                              have c282b1 : ((wrap64 (a0_1 + t226)) != (wrap64 (a2_1 - a4_1))) = false := bne_eq_false_iff_eq.mpr c282
                                              clear c282
                                              obtain rfl := Option.some.inj H
                                              have hnb283 := NB217_218.out
                                              have hnc283 := NB218_217.out
                                              have hnb284 := NB217_219.out
                                              have hnc284 := NB219_217.out
                                              have hnb285 := NB217_220.out
                                              have hnc285 := NB220_217.out
                                              have hnb286 := NB217_221.out
                                              have hnc286 := NB221_217.out
                                              have hcz287_0 : wc.cell? ⟨gb217, 0, none⟩ = some (.int .i64 a0_0) := (blk_cell BK217.out 0).trans rfl
                                              have hcz287_1 : wc.cell? ⟨gb217, 1, none⟩ = some (.int .i64 a0_1) := (blk_cell BK217.out 1).trans rfl
                                              have hfz287_0 := blk_frozen BK217.out 0
                                              have hfz287_1 := blk_frozen BK217.out 1
                                              have hnb288 := NB218_219.out
                                              have hnc288 := NB219_218.out
                                              have hnb289 := NB218_220.out
                                              have hnc289 := NB220_218.out
                                              have hnb290 := NB218_221.out
                                              have hnc290 := NB221_218.out
                                              have hcz291_0 : wc.cell? ⟨gb218, 0, none⟩ = some (.int .i64 a1_0) := (blk_cell BK218.out 0).trans rfl
                                              have hcz291_1 : wc.cell? ⟨gb218, 1, none⟩ = some (.int .i64 a1_1) := (blk_cell BK218.out 1).trans rfl
                                              have hfz291_0 := blk_frozen BK218.out 0
                                              have hfz291_1 := blk_frozen BK218.out 1
                                              have hnb292 := NB220_219.out
                                              have hnc292 := NB219_220.out
                                              have hnb293 := NB220_221.out
                                              have hnc293 := NB221_220.out
                                              have hcz294_0 : wc.cell? ⟨gb220, 0, none⟩ = some (.bool false) := (blk_cell BK220.out 0).trans rfl
                                              have hcz294_1 : wc.cell? ⟨gb220, 1, none⟩ = some (.int .i64 a3_1) := (blk_cell BK220.out 1).trans rfl
                                              have hfz294_0 := blk_frozen BK220.out 0
                                              have hfz294_1 := blk_frozen BK220.out 1
                                              have hnb295 := NB219_221.out
                                              have hnc295 := NB221_219.out
                                              have hcz296_0 : wc.cell? ⟨gb219, 0, none⟩ = some (.int .i64 a2_0) := (blk_cell BK219.out 0).trans rfl
                                              have hcz296_1 : wc.cell? ⟨gb219, 1, none⟩ = some (.int .i64 a2_1) := (blk_cell BK219.out 1).trans rfl
                                              have hfz296_0 := blk_frozen BK219.out 0
                                              have hfz296_1 := blk_frozen BK219.out 1
                                              have hcz297_0 : wc.cell? ⟨gb221, 0, none⟩ = some (.bool a4_0) := (blk_cell BK221.out 0).trans rfl
                                              have hcz297_1 : wc.cell? ⟨gb221, 1, none⟩ = some (.int .i64 a4_1) := (blk_cell BK221.out 1).trans rfl
                                              have hfz297_0 := blk_frozen BK221.out 0
                                              have hfz297_1 := blk_frozen BK221.out 1
                                              go_wp2
                                              go_ret
                                              exact ⟨by first | rfl | (simp [errW_none, errW_some] <;> rfl) | (simp [*, errW_none, errW_some] <;> rfl), by repeat (first | (with_reducible first | exact HB.out | apply below_alloc | apply pw_below_drewN | apply below_drew1 | refine below_set ?_ GE217.out | refine below_set ?_ GE218.out | refine below_set ?_ GE219.out | refine below_set ?_ GE220.out | refine below_set ?_ GE221.out) | exact HB.out)⟩
                                            · rw [if_neg c282] at H
                                              exact absurd H (by simp)
                                      · exact absurd rfl c255
                                  · rw [if_neg c191] at H
                                    have c191b0 : ((wrap64 (a0_1 + t226)) == a1_1) = false := beq_eq_false_iff_ne.mpr c191
                                    have c191b1 : ((wrap64 (a0_1 + t226)) != a1_1) = true := bne_iff_ne.mpr c191
                                    by_cases c298 : (wrap64 (a0_0 + t226)) = (wrap64 (a2_0 + a3_1))
                                    · rw [if_pos c298] at H
                                      have c298b0 : ((wrap64 (a0_0 + t226)) == (wrap64 (a2_0 + a3_1))) = true := beq_iff_eq.mpr c298
                                      have c298b1 : ((wrap64 (a0_0 + t226)) != (wrap64 (a2_0 + a3_1))) = false := bne_eq_false_iff_eq.mpr c298
                                      clear c298
                                      by_cases c299 : a3_0 = true
                                      · subst c299
                                        have H1 : (if true = true then (if t226 ≥ 0 then (some true) else (if (wrap64 (a0_0 + t226)) = a1_0 then (some true) else (if (wrap64 (a0_1 + t226)) = (wrap64 (a2_1 - a4_1)) then (some true) else (some ((wrap64 (a0_0 + t226)) == (wrap64 (a2_0 + a3_1))))))) else (none)) = some r := by rw [if_pos rfl] at H; exact H
                                        clear H
                                        have H := H1
                                        clear H1
                                        by_cases c300 : true = true
                                        · clear c300
                                          have H1 : (if t226 ≥ 0 then (some true) else (if (wrap64 (a0_0 + t226)) = a1_0 then (some true) else (if (wrap64 (a0_1 + t226)) = (wrap64 (a2_1 - a4_1)) then (some true) else (some ((wrap64 (a0_0 + t226)) == (wrap64 (a2_0 + a3_1))))))) = some r := by first | (rw [if_pos rfl] at H; exact H) | (rw [if_pos True.intro] at H; exact H)
                                          clear H
                                          have H := H1
                                          clear H1
                                          by_cases c301 : t226 ≥ 0
                                          · rw [if_pos c301] at H
                                            have c301b0 : decide (0 ≤ t226) = true := decide_eq_true c301
                                            clear c301
                                            obtain rfl := Option.some.inj H
                                            have hnb302 := NB217_218.out
                                            have hnc302 := NB218_217.out
                                            have hnb303 := NB217_219.out
                                            have hnc303 := NB219_217.out
                                            have hnb304 := NB217_220.out
                                            have hnc304 := NB220_217.out
                                            have hnb305 := NB217_221.out
                                            have hnc305 := NB221_217.out
                                            have hcz306_0 : wc.cell? ⟨gb217, 0, none⟩ = some (.int .i64 a0_0) := (blk_cell BK217.out 0).trans rfl
                                            have hcz306_1 : wc.cell? ⟨gb217, 1, none⟩ = some (.int .i64 a0_1) := (blk_cell BK217.out 1).trans rfl
                                            have hfz306_0 := blk_frozen BK217.out 0
                                            have hfz306_1 := blk_frozen BK217.out 1
                                            have hnb307 := NB218_219.out
                                            have hnc307 := NB219_218.out
                                            have hnb308 := NB218_220.out
                                            have hnc308 := NB220_218.out
                                            have hnb309 := NB218_221.out
                                            have hnc309 := NB221_218.out
                                            have hcz310_0 : wc.cell? ⟨gb218, 0, none⟩ = some (.int .i64 a1_0) := (blk_cell BK218.out 0).trans rfl
                                            have hcz310_1 : wc.cell? ⟨gb218, 1, none⟩ = some (.int .i64 a1_1) := (blk_cell BK218.out 1).trans rfl
                                            have hfz310_0 := blk_frozen BK218.out 0
                                            have hfz310_1 := blk_frozen BK218.out 1
                                            have hnb311 := NB219_220.out
                                            have hnc311 := NB220_219.out
                                            have hnb312 := NB219_221.out
                                            have hnc312 := NB221_219.out
                                            have hcz313_0 : wc.cell? ⟨gb219, 0, none⟩ = some (.int .i64 a2_0) := (blk_cell BK219.out 0).trans rfl
                                            have hcz313_1 : wc.cell? ⟨gb219, 1, none⟩ = some (.int .i64 a2_1) := (blk_cell BK219.out 1).trans rfl
                                            have hfz313_0 := blk_frozen BK219.out 0
                                            have hfz313_1 := blk_frozen BK219.out 1
                                            have hnb314 := NB220_221.out
                                            have hnc314 := NB221_220.out
                                            have hcz315_0 : wc.cell? ⟨gb220, 0, none⟩ = some (.bool true) := (blk_cell BK220.out 0).trans rfl
                                            have hcz315_1 : wc.cell? ⟨gb220, 1, none⟩ = some (.int .i64 a3_1) := (blk_cell BK220.out 1).trans rfl
                                            have hfz315_0 := blk_frozen BK220.out 0
                                            have hfz315_1 := blk_frozen BK220.out 1
                                            go_wp2
                                            go_ret
                                            exact ⟨by first | rfl | (simp [errW_none, errW_some] <;> rfl) | (simp [*, errW_none, errW_some] <;> rfl), by repeat (first | (with_reducible first | exact HB.out | apply below_alloc | apply pw_below_drewN | apply below_drew1 | refine below_set ?_ GE217.out | refine below_set ?_ GE218.out | refine below_set ?_ GE219.out | refine below_set ?_ GE220.out | refine below_set ?_ GE221.out) | exact HB.out)⟩
                                          · rw [if_neg c301] at H
                                            have c301b0 : decide (0 ≤ t226) = false := decide_eq_false c301
                                            clear c301
                                            by_cases c316 : (wrap64 (a0_0 + t226)) = a1_0
                                            · rw [if_pos c316] at H
                                              have c316b0 : ((wrap64 (a0_0 + t226)) == a1_0) = true := beq_iff_eq.mpr c316
                                              have c316b1 : ((wrap64 (a0_0 + t226)) != a1_0) = false := bne_eq_false_iff_eq.mpr c316
                                              clear c316
                                              obtain rfl := Option.some.inj H
                                              have hnb317 := NB217_218.out
                                              have hnc317 := NB218_217.out
                                              have hnb318 := NB217_219.out
                                              have hnc318 := NB219_217.out
                                              have hnb319 := NB217_220.out
                                              have hnc319 := NB220_217.out
                                              have hnb320 := NB217_221.out
                                              have hnc320 := NB221_217.out
                                              have hcz321_0 : wc.cell? ⟨gb217, 0, none⟩ = some (.int .i64 a0_0) := (blk_cell BK217.out 0).trans rfl
                                              have hcz321_1 : wc.cell? ⟨gb217, 1, none⟩ = some (.int .i64 a0_1) := (blk_cell BK217.out 1).trans rfl
                                              have hfz321_0 := blk_frozen BK217.out 0
                                              have hfz321_1 := blk_frozen BK217.out 1
                                              have hnb322 := NB218_219.out
                                              have hnc322 := NB219_218.out
                                              have hnb323 := NB218_220.out
                                              have hnc323 := NB220_218.out
                                              have hnb324 := NB218_221.out
                                              have hnc324 := NB221_218.out
                                              have hcz325_0 : wc.cell? ⟨gb218, 0, none⟩ = some (.int .i64 a1_0) := (blk_cell BK218.out 0).trans rfl
                                              have hcz325_1 : wc.cell? ⟨gb218, 1, none⟩ = some (.int .i64 a1_1) := (blk_cell BK218.out 1).trans rfl
                                              have hfz325_0 := blk_frozen BK218.out 0
                                              have hfz325_1 := blk_frozen BK218.out 1
                                              have hnb326 := NB219_220.out
                                              have hnc326 := NB220_219.out
                                              have hnb327 := NB219_221.out
                                              have hnc327 := NB221_219.out
                                              have hcz328_0 : wc.cell? ⟨gb219, 0, none⟩ = some (.int .i64 a2_0) := (blk_cell BK219.out 0).trans rfl
                                              have hcz328_1 : wc.cell? ⟨gb219, 1, none⟩ = some (.int .i64 a2_1) := (blk_cell BK219.out 1).trans rfl
                                              have hfz328_0 := blk_frozen BK219.out 0
                                              have hfz328_1 := blk_frozen BK219.out 1
                                              have hnb329 := NB220_221.out
                                              have hnc329 := NB221_220.out
                                              have hcz330_0 : wc.cell? ⟨gb220, 0, none⟩ = some (.bool true) := (blk_cell BK220.out 0).trans rfl
                                              have hcz330_1 : wc.cell? ⟨gb220, 1, none⟩ = some (.int .i64 a3_1) := (blk_cell BK220.out 1).trans rfl
                                              have hfz330_0 := blk_frozen BK220.out 0
                                              have hfz330_1 := blk_frozen BK220.out 1
                                              go_wp2
                                              go_ret
                                              exact ⟨by first | rfl | (simp [errW_none, errW_some] <;> rfl) | (simp [*, errW_none, errW_some] <;> rfl), by repeat (first | (with_reducible first | exact HB.out | apply below_alloc | apply pw_below_drewN | apply below_drew1 | refine below_set ?_ GE217.out | refine below_set ?_ GE218.out | refine below_set ?_ GE219.out | refine below_set ?_ GE220.out | refine below_set ?_ GE221.out) | exact HB.out)⟩
                                            · rw [if_neg c316] at H
                                              have c316b0 : ((wrap64 (a0_0 + t226)) == a1_0) = false := beq_eq_false_iff_ne.mpr c316
                                              have c316b1 : ((wrap64 (a0_0 + t226)) != a1_0) = true := bne_iff_ne.mpr c316
                                              by_cases c331 : (wrap64 (a0_1 + t226)) = (wrap64 (a2_1 - a4_1))
                                              · rw [if_pos c331] at H
                                                have c331b0 : ((wrap64 (a0_1 + t226)) == (wrap64 (a2_1 - a4_1))) = true := beq_iff_eq.mpr c331
                                                have c331b1 : ((wrap64 (a0_1 + t226)) != (wrap64 (a2_1 - a4_1))) = false := bne_eq_false_iff_eq.mpr c331
                                                clear c331
                                                obtain rfl := Option.some.inj H
                                                have hnb332 := NB217_218.out
                                                have hnc332 := NB218_217.out
                                                have hnb333 := NB217_219.out
                                                have hnc333 := NB219_217.out
                                                have hnb334 := NB217_220.out
                                                have hnc334 := NB220_217.out
                                                have hnb335 := NB217_221.out
                                                have hnc335 := NB221_217.out
                                                have hcz336_0 : wc.cell? ⟨gb217, 0, none⟩ = some (.int .i64 a0_0) := (blk_cell BK217.out 0).trans rfl
                                                have hcz336_1 : wc.cell? ⟨gb217, 1, none⟩ = some (.int .i64 a0_1) := (blk_cell BK217.out 1).trans rfl
                                                have hfz336_0 := blk_frozen BK217.out 0
                                                have hfz336_1 := blk_frozen BK217.out 1
                                                have hnb337 := NB218_219.out
                                                have hnc337 := NB219_218.out
                                                have hnb338 := NB218_220.out
                                                have hnc338 := NB220_218.out
                                                have hnb339 := NB218_221.out
                                                have hnc339 := NB221_218.out
                                                have hcz340_0 : wc.cell? ⟨gb218, 0, none⟩ = some (.int .i64 a1_0) := (blk_cell BK218.out 0).trans rfl
                                                have hcz340_1 : wc.cell? ⟨gb218, 1, none⟩ = some (.int .i64 a1_1) := (blk_cell BK218.out 1).trans rfl
                                                have hfz340_0 := blk_frozen BK218.out 0
                                                have hfz340_1 := blk_frozen BK218.out 1
                                                have hnb341 := NB219_220.out
                                                have hnc341 := NB220_219.out
                                                have hnb342 := NB219_221.out
                                                have hnc342 := NB221_219.out
                                                have hcz343_0 : wc.cell? ⟨gb219, 0, none⟩ = some (.int .i64 a2_0) := (blk_cell BK219.out 0).trans rfl
                                                have hcz343_1 : wc.cell? ⟨gb219, 1, none⟩ = some (.int .i64 a2_1) := (blk_cell BK219.out 1).trans rfl
                                                have hfz343_0 := blk_frozen BK219.out 0
                                                have hfz343_1 := blk_frozen BK219.out 1
                                                have hnb344 := NB220_221.out
                                                have hnc344 := NB221_220.out
                                                have hcz345_0 : wc.cell? ⟨gb220, 0, none⟩ = some (.bool true) := (blk_cell BK220.out 0).trans rfl
                                                have hcz345_1 : wc.cell? ⟨gb220, 1, none⟩ = some (.int .i64 a3_1) := (blk_cell BK220.out 1).trans rfl
                                                have hfz345_0 := blk_frozen BK220.out 0
                                                have hfz345_1 := blk_frozen BK220.out 1
                                                have hcz346_0 : wc.cell? ⟨gb221, 0, none⟩ = some (.bool a4_0) := (blk_cell BK221.out 0).trans rfl
                                                have hcz346_1 : wc.cell? ⟨gb221, 1, none⟩ = some (.int .i64 a4_1) := (blk_cell BK221.out 1).trans rfl
                                                have hfz346_0 := blk_frozen BK221.out 0
                                                have hfz346_1 := blk_frozen BK221.out 1
                                                go_wp2
                                                go_ret
                                                exact ⟨by first | rfl | (simp [errW_none, errW_some] <;> rfl) | (simp [*, errW_none, errW_some] <;> rfl), by repeat (first | (with_reducible first | exact HB.out | apply below_alloc | apply pw_below_drewN | apply below_drew1 | refine below_set ?_ GE217.out | refine below_set ?_ GE218.out | refine below_set ?_ GE219.out | refine below_set ?_ GE220.out | refine below_set ?_ GE221.out) | exact HB.out)⟩
                                              · rw [if_neg c331] at H
                                                have c331b0 : ((wrap64 (a0_1 + t226)) == (wrap64 (a2_1 - a4_1))) = false := beq_eq_false_iff_ne.mpr c331
                                                have c331b1 : ((wrap64 (a0_1 + t226)) != (wrap64 (a2_1 - a4_1))) = true := bne_iff_ne.mpr c331
                                                obtain rfl := Option.some.inj H
                                                have hnb347 := NB217_218.out
                                                have hnc347 := NB218_217.out
                                                have hnb348 := NB217_219.out
                                                have hnc348 := NB219_217.out
                                                have hnb349 := NB217_220.out
                                                have hnc349 := NB220_217.out
                                                have hnb350 := NB217_221.out
                                                have hnc350 := NB221_217.out
                                                have hcz351_0 : wc.cell? ⟨gb217, 0, none⟩ = some (.int .i64 a0_0) := (blk_cell BK217.out 0).trans rfl
                                                have hcz351_1 : wc.cell? ⟨gb217, 1, none⟩ = some (.int .i64 a0_1) := (blk_cell BK217.out 1).trans rfl
                                                have hfz351_0 := blk_frozen BK217.out 0
                                                have hfz351_1 := blk_frozen BK217.out 1
                                                have hnb352 := NB218_219.out
                                                have hnc352 := NB219_218.out
                                                have hnb353 := NB218_220.out
                                                have hnc353 := NB220_218.out
                                                have hnb354 := NB218_221.out
                                                have hnc354 := NB221_218.out
                                                have hcz355_0 : wc.cell? ⟨gb218, 0, none⟩ = some (.int .i64 a1_0) := (blk_cell BK218.out 0).trans rfl
                                                have hcz355_1 : wc.cell? ⟨gb218, 1, none⟩ = some (.int .i64 a1_1) := (blk_cell BK218.out 1).trans rfl
                                                have hfz355_0 := blk_frozen BK218.out 0
                                                have hfz355_1 := blk_frozen BK218.out 1
                                                have hnb356 := NB219_220.out
                                                have hnc356 := NB220_219.out
                                                have hnb357 := NB219_221.out
                                                have hnc357 := NB221_219.out
                                                have hcz358_0 : wc.cell? ⟨gb219, 0, none⟩ = some (.int .i64 a2_0) := (blk_cell BK219.out 0).trans rfl
                                                have hcz358_1 : wc.cell? ⟨gb219, 1, none⟩ = some (.int .i64 a2_1) := (blk_cell BK219.out 1).trans rfl
                                                have hfz358_0 := blk_frozen BK219.out 0
                                                have hfz358_1 := blk_frozen BK219.out 1
                                                have hnb359 := NB220_221.out
                                                have hnc359 := NB221_220.out
                                                have hcz360_0 : wc.cell? ⟨gb220, 0, none⟩ = some (.bool true) := (blk_cell BK220.out 0).trans rfl
                                                have hcz360_1 : wc.cell? ⟨gb220, 1, none⟩ = some (.int .i64 a3_1) := (blk_cell BK220.out 1).trans rfl
                                                have hfz360_0 := blk_frozen BK220.out 0
                                                have hfz360_1 := blk_frozen BK220.out 1
                                                have hcz361_0 : wc.cell? ⟨gb221, 0, none⟩ = some (.bool a4_0) := (blk_cell BK221.out 0).trans rfl
                                                have hcz361_1 : wc.cell? ⟨gb221, 1, none⟩ = some (.int .i64 a4_1) := (blk_cell BK221.out 1).trans rfl
                                                have hfz361_0 := blk_frozen BK221.out 0
                                                have hfz361_1 := blk_frozen BK221.out 1
                                                go_wp2
                                                go_ret
                                                exact ⟨by first | rfl | (simp [errW_none, errW_some] <;> rfl) | (simp [*, errW_none, errW_some] <;> rfl), by repeat (first | (with_reducible first | exact HB.out | apply below_alloc | apply pw_below_drewN | apply below_drew1 | refine below_set ?_ GE217.out | refine below_set ?_ GE218.out | refine below_set ?_ GE219.out | refine below_set ?_ GE220.out | refine below_set ?_ GE221.out) | exact HB.out)⟩
                                        · exact absurd rfl c300
                                      · replace c299 := Bool.eq_false_iff.mpr c299
                                        subst c299
                                        have H1 : (if true = true then (if t226 ≥ 0 then (some true) else (if (wrap64 (a0_0 + t226)) = a1_0 then (some true) else (if (wrap64 (a0_1 + t226)) = (wrap64 (a2_1 - a4_1)) then (some true) else (none)))) else (none)) = some r := by rw [if_neg (show ¬ (false = true) by decide)] at H; exact H
                                        clear H
                                        have H := H1
                                        clear H1
                                        by_cases c362 : true = true
                                        · clear c362
                                          have H1 : (if t226 ≥ 0 then (some true) else (if (wrap64 (a0_0 + t226)) = a1_0 then (some true) else (if (wrap64 (a0_1 + t226)) = (wrap64 (a2_1 - a4_1)) then (some true) else (none)))) = some r := by first | (rw [if_pos rfl] at H; exact H) | (rw [if_pos True.intro] at H; exact H)
                                          clear H
                                          have H := H1
                                          clear H1
                                          by_cases c363 : t226 ≥ 0
                                          · rw [if_pos c363] at H
                                            have c363b0 : decide (0 ≤ t226) = true := decide_eq_true c363
                                            clear c363
                                            obtain rfl := Option.some.inj H
                                            have hnb364 := NB217_218.out
                                            have hnc364 := NB218_217.out
                                            have hnb365 := NB217_219.out
                                            have hnc365 := NB219_217.out
                                            have hnb366 := NB217_220.out
                                            have hnc366 := NB220_217.out
                                            have hnb367 := NB217_221.out
                                            have hnc367 := NB221_217.out
                                            have hcz368_0 : wc.cell? ⟨gb217, 0, none⟩ = some (.int .i64 a0_0) := (blk_cell BK217.out 0).trans rfl
                                            have hcz368_1 : wc.cell? ⟨gb217, 1, none⟩ = some (.int .i64 a0_1) := (blk_cell BK217.out 1).trans rfl
                                            have hfz368_0 := blk_frozen BK217.out 0
                                            have hfz368_1 := blk_frozen BK217.out 1
                                            have hnb369 := NB218_219.out
                                            have hnc369 := NB219_218.out
                                            have hnb370 := NB218_220.out
                                            have hnc370 := NB220_218.out
                                            have hnb371 := NB218_221.out
                                            have hnc371 := NB221_218.out
                                            have hcz372_0 : wc.cell? ⟨gb218, 0, none⟩ = some (.int .i64 a1_0) := (blk_cell BK218.out 0).trans rfl
                                            have hcz372_1 : wc.cell? ⟨gb218, 1, none⟩ = some (.int .i64 a1_1) := (blk_cell BK218.out 1).trans rfl
                                            have hfz372_0 := blk_frozen BK218.out 0
                                            have hfz372_1 := blk_frozen BK218.out 1
                                            have hnb373 := NB219_220.out
                                            have hnc373 := NB220_219.out
                                            have hnb374 := NB219_221.out
                                            have hnc374 := NB221_219.out
                                            have hcz375_0 : wc.cell? ⟨gb219, 0, none⟩ = some (.int .i64 a2_0) := (blk_cell BK219.out 0).trans rfl
                                            have hcz375_1 : wc.cell? ⟨gb219, 1, none⟩ = some (.int .i64 a2_1) := (blk_cell BK219.out 1).trans rfl
                                            have hfz375_0 := blk_frozen BK219.out 0
                                            have hfz375_1 := blk_frozen BK219.out 1
                                            have hnb376 := NB220_221.out
                                            have hnc376 := NB221_220.out
                                            have hcz377_0 : wc.cell? ⟨gb220, 0, none⟩ = some (.bool false) := (blk_cell BK220.out 0).trans rfl
                                            have hcz377_1 : wc.cell? ⟨gb220, 1, none⟩ = some (.int .i64 a3_1) := (blk_cell BK220.out 1).trans rfl
                                            have hfz377_0 := blk_frozen BK220.out 0
                                            have hfz377_1 := blk_frozen BK220.out 1
                                            go_wp2
                                            go_ret
                                            exact ⟨by first | rfl | (simp [errW_none, errW_some] <;> rfl) | (simp [*, errW_none, errW_some] <;> rfl), by repeat (first | (with_reducible first | exact HB.out | apply below_alloc | apply pw_below_drewN | apply below_drew1 | refine below_set ?_ GE217.out | refine below_set ?_ GE218.out | refine below_set ?_ GE219.out | refine below_set ?_ GE220.out | refine below_set ?_ GE221.out) | exact HB.out)⟩
                                          · rw [if_neg c363] at H
                                            have c363b0 : decide (0 ≤ t226) = false := decide_eq_false c363
                                            clear c363
                                            by_cases c378 : (wrap64 (a0_0 + t226)) = a1_0
                                            · rw [if_pos c378] at H
                                              have c378b0 : ((wrap64 (a0_0 + t226)) == a1_0) = true := beq_iff_eq.mpr c378
                                              have c378b1 : ((wrap64 (a0_0 + t226)) != a1_0) = false := bne_eq_false_iff_eq.mpr c378
                                              clear c378
                                              obtain rfl := Option.some.inj H
                                              have hnb379 := NB217_218.out
                                              have hnc379 := NB218_217.out
                                              have hnb380 := NB217_219.out
                                              have hnc380 := NB219_217.out
                                              have hnb381 := NB217_220.out
                                              have hnc381 := NB220_217.out
                                              have hnb382 := NB217_221.out
                                              have hnc382 := NB221_217.out
                                              have hcz383_0 : wc.cell? ⟨gb217, 0, none⟩ = some (.int .i64 a0_0) := (blk_cell BK217.out 0).trans rfl
                                              have hcz383_1 : wc.cell? ⟨gb217, 1, none⟩ = some (.int .i64 a0_1) := (blk_cell BK217.out 1).trans rfl
                                              have hfz383_0 := blk_frozen BK217.out 0
                                              have hfz383_1 := blk_frozen BK217.out 1
                                              have hnb384 := NB218_219.out
                                              have hnc384 := NB219_218.out
                                              have hnb385 := NB218_220.out
                                              have hnc385 := NB220_218.out
                                              have hnb386 := NB218_221.out
                                              have hnc386 := NB221_218.out
                                              have hcz387_0 : wc.cell? ⟨gb218, 0, none⟩ = some (.int .i64 a1_0) := (blk_cell BK218.out 0).trans rfl
                                              have hcz387_1 : wc.cell? ⟨gb218, 1, none⟩ = some (.int .i64 a1_1) := (blk_cell BK218.out 1).trans rfl
                                              have hfz387_0 := blk_frozen BK218.out 0
                                              have hfz387_1 := blk_frozen BK218.out 1
                                              have hnb388 := NB219_220.out
                                              have hnc388 := NB220_219.out
                                              have hnb389 := NB219_221.out
                                              have hnc389 := NB221_219.out
                                              have hcz390_0 : wc.cell? ⟨gb219, 0, none⟩ = some (.int .i64 a2_0) := (blk_cell BK219.out 0).trans rfl
                                              have hcz390_1 : wc.cell? ⟨gb219, 1, none⟩ = some (.int .i64 a2_1) := (blk_cell BK219.out 1).trans rfl
                                              have hfz390_0 := blk_frozen BK219.out 0
                                              have hfz390_1 := blk_frozen BK219.out 1
                                              have hnb391 := NB220_221.out
                                              have hnc391 := NB221_220.out
                                              have hcz392_0 : wc.cell? ⟨gb220, 0, none⟩ = some (.bool false) := (blk_cell BK220.out 0).trans rfl
                                              have hcz392_1 : wc.cell? ⟨gb220, 1, none⟩ = some (.int .i64 a3_1) := (blk_cell BK220.out 1).trans rfl
                                              have hfz392_0 := blk_frozen BK220.out 0
                                              have hfz392_1 := blk_frozen BK220.out 1
                                              go_wp2
                                              go_ret
                                              exact ⟨by first | rfl | (simp [errW_none, errW_some] <;> rfl) | (simp [*, errW_none, errW_some] <;> rfl), by repeat (first | (with_reducible first | exact HB.out | apply below_alloc | apply pw_below_drewN | apply below_drew1 | refine below_set ?_ GE217.out | refine below_set ?_ GE218.out | refine below_set ?_ GE219.out | refine below_set ?_ GE220.out | refine below_set ?_ GE221.out) | exact HB.out)⟩
                                            · rw [if_neg c378] at H
                                              have c378b0 : ((wrap64 (a0_0 + t226)) == a1_0) = false := beq_eq_false_iff_ne.mpr c378
                                              have c378b1 : ((wrap64 (a0_0 + t226)) != a1_0) = true := bne_iff_ne.mpr c378
                                              by_cases c393 : (wrap64 (a0_1 + t226)) = (wrap64 (a2_1 - a4_1))
                                              · rw [if_pos c393] at H
                                                have c393b0 : ((wrap64 (a0_1 + t226)) == (wrap64 (a2_1 - a4_1))) = true := beq_iff_eq.mpr c393
                                                have c393b1 : ((wrap64 (a0_1 + t226)) != (wrap64 (a2_1 - a4_1))) = false := bne_eq_false_iff_eq.mpr c393
                                                clear c393
                                                obtain rfl := Option.some.inj H
                                                have hnb394 := NB217_218.out
                                                have hnc394 := NB218_217.out
                                                have hnb395 := NB217_219.out
                                                have hnc395 := NB219_217.out
                                                have hnb396 := NB217_220.out
                                                have hnc396 := NB220_217.out
                                                have hnb397 := NB217_221.out
                                                have hnc397 := NB221_217.out
                                                have hcz398_0 : wc.cell? ⟨gb217, 0, none⟩ = some (.int .i64 a0_0) := (blk_cell BK217.out 0).trans rfl
                                                have hcz398_1 : wc.cell? ⟨gb217, 1, none⟩ = some (.int .i64 a0_1) := (blk_cell BK217.out 1).trans rfl
                                                have hfz398_0 := blk_frozen BK217.out 0
                                                have hfz398_1 := blk_frozen BK217.out 1
                                                have hnb399 := NB218_219.out
                                                have hnc399 := NB219_218.out
                                                have hnb400 := NB218_220.out
                                                have hnc400 := NB220_218.out
                                                have hnb401 := NB218_221.out
                                                have hnc401 := NB221_218.out
                                                have hcz402_0 : wc.cell? ⟨gb218, 0, none⟩ = some (.int .i64 a1_0) := (blk_cell BK218.out 0).trans rfl
                                                have hcz402_1 : wc.cell? ⟨gb218, 1, none⟩ = some (.int .i64 a1_1) := (blk_cell BK218.out 1).trans rfl
                                                have hfz402_0 := blk_frozen BK218.out 0
                                                have hfz402_1 := blk_frozen BK218.out 1
                                                have hnb403 := NB219_220.out
                                                have hnc403 := NB220_219.out
                                                have hnb404 := NB219_221.out
                                                have hnc404 := NB221_219.out
                                                have hcz405_0 : wc.cell? ⟨gb219, 0, none⟩ = some (.int .i64 a2_0) := (blk_cell BK219.out 0).trans rfl
                                                have hcz405_1 : wc.cell? ⟨gb219, 1, none⟩ = some (.int .i64 a2_1) := (blk_cell BK219.out 1).trans rfl
                                                have hfz405_0 := blk_frozen BK219.out 0
                                                have hfz405_1 := blk_frozen BK219.out 1
                                                have hnb406 := NB220_221.out
                                                have hnc406 := NB221_220.out
                                                have hcz407_0 : wc.cell? ⟨gb220, 0, none⟩ = some (.bool false) := (blk_cell BK220.out 0).trans rfl
                                                have hcz407_1 : wc.cell? ⟨gb220, 1, none⟩ = some (.int .i64 a3_1) := (blk_cell BK220.out 1).trans rfl
                                                have hfz407_0 := blk_frozen BK220.out 0
                                                have hfz407_1 := blk_frozen BK220.out 1
                                                have hcz408_0 : wc.cell? ⟨gb221, 0, none⟩ = some (.bool a4_0) := (blk_cell BK221.out 0).trans rfl
                                                have hcz408_1 : wc.cell? ⟨gb221, 1, none⟩ = some (.int .i64 a4_1) := (blk_cell BK221.out 1).trans rfl
                                                have hfz408_0 := blk_frozen BK221.out 0
                                                have hfz408_1 := blk_frozen BK221.out 1
                                                go_wp2
                                                go_ret
                                                exact ⟨by first | rfl | (simp [errW_none, errW_some] <;> rfl) | (simp [*, errW_none, errW_some] <;> rfl), by repeat (first | (with_reducible first | exact HB.out | apply below_alloc | apply pw_below_drewN | apply below_drew1 | refine below_set ?_ GE217.out | refine below_set ?_ GE218.out | refine below_set ?_ GE219.out | refine below_set ?_ GE220.out | refine below_set ?_ GE221.out) | exact HB.out)⟩
                                              · rw [if_neg c393] at H
                                                exact absurd H (by simp)
                                        · exact absurd rfl c362
                                    · rw [if_neg c298] at H
                                      exact absurd H (by simp)
                                · rw [if_neg c190] at H
                                  have c190b0 : decide (0 < t226) = false := decide_eq_false c190
                                  clear c190
                                  by_cases c409 : a3_0 = true
                                  · subst c409
                                    have H1 : (if true = true then (if t226 ≥ 0 then (some true) else (if (wrap64 (a0_0 + t226)) = a1_0 then (some true) else (if (wrap64 (a0_1 + t226)) = (wrap64 (a2_1 - a4_1)) then (some true) else (some ((wrap64 (a0_0 + t226)) == (wrap64 (a2_0 + a3_1))))))) else (none)) = some r := by rw [if_pos rfl] at H; exact H
                                    clear H
                                    have H := H1
                                    clear H1
                                    by_cases c410 : true = true
                                    · clear c410
                                      have H1 : (if t226 ≥ 0 then (some true) else (if (wrap64 (a0_0 + t226)) = a1_0 then (some true) else (if (wrap64 (a0_1 + t226)) = (wrap64 (a2_1 - a4_1)) then (some true) else (some ((wrap64 (a0_0 + t226)) == (wrap64 (a2_0 + a3_1))))))) = some r := by first | (rw [if_pos rfl] at H; exact H) | (rw [if_pos True.intro] at H; exact H)
                                      clear H
                                      have H := H1
                                      clear H1
                                      by_cases c411 : t226 ≥ 0
                                      · rw [if_pos c411] at H
                                        have c411b0 : decide (0 ≤ t226) = true := decide_eq_true c411
                                        clear c411
                                        obtain rfl := Option.some.inj H
                                        have hnb412 := NB220_217.out
                                        have hnc412 := NB217_220.out
                                        have hnb413 := NB220_218.out
                                        have hnc413 := NB218_220.out
                                        have hnb414 := NB220_219.out
                                        have hnc414 := NB219_220.out
                                        have hnb415 := NB220_221.out
                                        have hnc415 := NB221_220.out
                                        have hcz416_0 : wc.cell? ⟨gb220, 0, none⟩ = some (.bool true) := (blk_cell BK220.out 0).trans rfl
                                        have hcz416_1 : wc.cell? ⟨gb220, 1, none⟩ = some (.int .i64 a3_1) := (blk_cell BK220.out 1).trans rfl
                                        have hfz416_0 := blk_frozen BK220.out 0
                                        have hfz416_1 := blk_frozen BK220.out 1
                                        have hnb417 := NB217_218.out
                                        have hnc417 := NB218_217.out
                                        have hnb418 := NB217_219.out
                                        have hnc418 := NB219_217.out
                                        have hnb419 := NB217_221.out
                                        have hnc419 := NB221_217.out
                                        have hcz420_0 : wc.cell? ⟨gb217, 0, none⟩ = some (.int .i64 a0_0) := (blk_cell BK217.out 0).trans rfl
                                        have hcz420_1 : wc.cell? ⟨gb217, 1, none⟩ = some (.int .i64 a0_1) := (blk_cell BK217.out 1).trans rfl
                                        have hfz420_0 := blk_frozen BK217.out 0
                                        have hfz420_1 := blk_frozen BK217.out 1
                                        have hnb421 := NB219_218.out
                                        have hnc421 := NB218_219.out
                                        have hnb422 := NB219_221.out
                                        have hnc422 := NB221_219.out
                                        have hcz423_0 : wc.cell? ⟨gb219, 0, none⟩ = some (.int .i64 a2_0) := (blk_cell BK219.out 0).trans rfl
                                        have hcz423_1 : wc.cell? ⟨gb219, 1, none⟩ = some (.int .i64 a2_1) := (blk_cell BK219.out 1).trans rfl
                                        have hfz423_0 := blk_frozen BK219.out 0
                                        have hfz423_1 := blk_frozen BK219.out 1
                                        go_wp2
                                        go_ret
                                        exact ⟨by first | rfl | (simp [errW_none, errW_some] <;> rfl) | (simp [*, errW_none, errW_some] <;> rfl), by repeat (first | (with_reducible first | exact HB.out | apply below_alloc | apply pw_below_drewN | apply below_drew1 | refine below_set ?_ GE217.out | refine below_set ?_ GE218.out | refine below_set ?_ GE219.out | refine below_set ?_ GE220.out | refine below_set ?_ GE221.out) | exact HB.out)⟩
                                      · rw [if_neg c411] at H
                                        have c411b0 : decide (0 ≤ t226) = false := decide_eq_false c411
                                        clear c411
                                        by_cases c424 : (wrap64 (a0_0 + t226)) = a1_0
                                        · rw [if_pos c424] at H
                                          have c424b0 : ((wrap64 (a0_0 + t226)) == a1_0) = true := beq_iff_eq.mpr c424
                                          have c424b1 : ((wrap64 (a0_0 + t226)) != a1_0) = false := bne_eq_false_iff_eq.mpr c424
                                          clear c424
                                          obtain rfl := Option.some.inj H
                                          have hnb425 := NB220_217.out
                                          have hnc425 := NB217_220.out
                                          have hnb426 := NB220_218.out
                                          have hnc426 := NB218_220.out
                                          have hnb427 := NB220_219.out
                                          have hnc427 := NB219_220.out
                                          have hnb428 := NB220_221.out
                                          have hnc428 := NB221_220.out
                                          have hcz429_0 : wc.cell? ⟨gb220, 0, none⟩ = some (.bool true) := (blk_cell BK220.out 0).trans rfl
                                          have hcz429_1 : wc.cell? ⟨gb220, 1, none⟩ = some (.int .i64 a3_1) := (blk_cell BK220.out 1).trans rfl
                                          have hfz429_0 := blk_frozen BK220.out 0
                                          have hfz429_1 := blk_frozen BK220.out 1
                                          have hnb430 := NB217_218.out
                                          have hnc430 := NB218_217.out
                                          have hnb431 := NB217_219.out
                                          have hnc431 := NB219_217.out
                                          have hnb432 := NB217_221.out
                                          have hnc432 := NB221_217.out
                                          have hcz433_0 : wc.cell? ⟨gb217, 0, none⟩ = some (.int .i64 a0_0) := (blk_cell BK217.out 0).trans rfl
                                          have hcz433_1 : wc.cell? ⟨gb217, 1, none⟩ = some (.int .i64 a0_1) := (blk_cell BK217.out 1).trans rfl
                                          have hfz433_0 := blk_frozen BK217.out 0
                                          have hfz433_1 := blk_frozen BK217.out 1
                                          have hnb434 := NB219_218.out
                                          have hnc434 := NB218_219.out
                                          have hnb435 := NB219_221.out
                                          have hnc435 := NB221_219.out
                                          have hcz436_0 : wc.cell? ⟨gb219, 0, none⟩ = some (.int .i64 a2_0) := (blk_cell BK219.out 0).trans rfl
                                          have hcz436_1 : wc.cell? ⟨gb219, 1, none⟩ = some (.int .i64 a2_1) := (blk_cell BK219.out 1).trans rfl
                                          have hfz436_0 := blk_frozen BK219.out 0
                                          have hfz436_1 := blk_frozen BK219.out 1
                                          have hnb437 := NB218_221.out
                                          have hnc437 := NB221_218.out
                                          have hcz438_0 : wc.cell? ⟨gb218, 0, none⟩ = some (.int .i64 a1_0) := (blk_cell BK218.out 0).trans rfl
                                          have hcz438_1 : wc.cell? ⟨gb218, 1, none⟩ = some (.int .i64 a1_1) := (blk_cell BK218.out 1).trans rfl
                                          have hfz438_0 := blk_frozen BK218.out 0
                                          have hfz438_1 := blk_frozen BK218.out 1
                                          go_wp2
                                          go_ret
                                          exact ⟨by first | rfl | (simp [errW_none, errW_some] <;> rfl) | (simp [*, errW_none, errW_some] <;> rfl), by repeat (first | (with_reducible first | exact HB.out | apply below_alloc | apply pw_below_drewN | apply below_drew1 | refine below_set ?_ GE217.out | refine below_set ?_ GE218.out | refine below_set ?_ GE219.out | refine below_set ?_ GE220.out | refine below_set ?_ GE221.out) | exact HB.out)⟩
                                        · rw [if_neg c424] at H
                                          have c424b0 : ((wrap64 (a0_0 + t226)) == a1_0) = false := beq_eq_false_iff_ne.mpr c424
                                          have c424b1 : ((wrap64 (a0_0 + t226)) != a1_0) = true := bne_iff_ne.mpr c424
                                          by_cases c439 : (wrap64 (a0_1 + t226)) = (wrap64 (a2_1 - a4_1))
                                          · rw [if_pos c439] at H
                                            have c439b0 : ((wrap64 (a0_1 + t226)) == (wrap64 (a2_1 - a4_1))) = true := beq_iff_eq.mpr c439
                                            have c439b1 : ((wrap64 (a0_1 + t226)) != (wrap64 (a2_1 - a4_1))) = false := bne_eq_false_iff_eq.mpr c439
                                            clear c439
                                            obtain rfl := Option.some.inj H
                                            have hnb440 := NB220_217.out
                                            have hnc440 := NB217_220.out
                                            have hnb441 := NB220_218.out
                                            have hnc441 := NB218_220.out
                                            have hnb442 := NB220_219.out
                                            have hnc442 := NB219_220.out
                                            have hnb443 := NB220_221.out
                                            have hnc443 := NB221_220.out
                                            have hcz444_0 : wc.cell? ⟨gb220, 0, none⟩ = some (.bool true) := (blk_cell BK220.out 0).trans rfl
                                            have hcz444_1 : wc.cell? ⟨gb220, 1, none⟩ = some (.int .i64 a3_1) := (blk_cell BK220.out 1).trans rfl
                                            have hfz444_0 := blk_frozen BK220.out 0
                                            have hfz444_1 := blk_frozen BK220.out 1
                                            have hnb445 := NB217_218.out
                                            have hnc445 := NB218_217.out
                                            have hnb446 := NB217_219.out
                                            have hnc446 := NB219_217.out
                                            have hnb447 := NB217_221.out
                                            have hnc447 := NB221_217.out
                                            have hcz448_0 : wc.cell? ⟨gb217, 0, none⟩ = some (.int .i64 a0_0) := (blk_cell BK217.out 0).trans rfl
                                            have hcz448_1 : wc.cell? ⟨gb217, 1, none⟩ = some (.int .i64 a0_1) := (blk_cell BK217.out 1).trans rfl
                                            have hfz448_0 := blk_frozen BK217.out 0
                                            have hfz448_1 := blk_frozen BK217.out 1
                                            have hnb449 := NB219_218.out
                                            have hnc449 := NB218_219.out
                                            have hnb450 := NB219_221.out
                                            have hnc450 := NB221_219.out
                                            have hcz451_0 : wc.cell? ⟨gb219, 0, none⟩ = some (.int .i64 a2_0) := (blk_cell BK219.out 0).trans rfl
                                            have hcz451_1 : wc.cell? ⟨gb219, 1, none⟩ = some (.int .i64 a2_1) := (blk_cell BK219.out 1).trans rfl
                                            have hfz451_0 := blk_frozen BK219.out 0
                                            have hfz451_1 := blk_frozen BK219.out 1
                                            have hnb452 := NB218_221.out
                                            have hnc452 := NB221_218.out
                                            have hcz453_0 : wc.cell? ⟨gb218, 0, none⟩ = some (.int .i64 a1_0) := (blk_cell BK218.out 0).trans rfl
                                            have hcz453_1 : wc.cell? ⟨gb218, 1, none⟩ = some (.int .i64 a1_1) := (blk_cell BK218.out 1).trans rfl
                                            have hfz453_0 := blk_frozen BK218.out 0
                                            have hfz453_1 := blk_frozen BK218.out 1
                                            have hcz454_0 : wc.cell? ⟨gb221, 0, none⟩ = some (.bool a4_0) := (blk_cell BK221.out 0).trans rfl
                                            have hcz454_1 : wc.cell? ⟨gb221, 1, none⟩ = some (.int .i64 a4_1) := (blk_cell BK221.out 1).trans rfl
                                            have hfz454_0 := blk_frozen BK221.out 0
                                            have hfz454_1 := blk_frozen BK221.out 1
                                            go_wp2
                                            go_ret
                                            exact ⟨by first | rfl | (simp [errW_none, errW_some] <;> rfl) | (simp [*, errW_none, errW_some] <;> rfl), by repeat (first | (with_reducible first | exact HB.out | apply below_alloc | apply pw_below_drewN | apply below_drew1 | refine below_set ?_ GE217.out | refine below_set ?_ GE218.out | refine below_set ?_ GE219.out | refine below_set ?_ GE220.out | refine below_set ?_ GE221.out) | exact HB.out)⟩
                                          · rw [if_neg c439] at H
                                            have c439b0 : ((wrap64 (a0_1 + t226)) == (wrap64 (a2_1 - a4_1))) = false := beq_eq_false_iff_ne.mpr c439
                                            have c439b1 : ((wrap64 (a0_1 + t226)) != (wrap64 (a2_1 - a4_1))) = true := bne_iff_ne.mpr c439
                                            obtain rfl := Option.some.inj H
                                            have hnb455 := NB220_217.out
                                            have hnc455 := NB217_220.out
                                            have hnb456 := NB220_218.out
                                            have hnc456 := NB218_220.out
                                            have hnb457 := NB220_219.out
                                            have hnc457 := NB219_220.out
                                            have hnb458 := NB220_221.out
                                            have hnc458 := NB221_220.out
                                            have hcz459_0 : wc.cell? ⟨gb220, 0, none⟩ = some (.bool true) := (blk_cell BK220.out 0).trans rfl
                                            have hcz459_1 : wc.cell? ⟨gb220, 1, none⟩ = some (.int .i64 a3_1) := (blk_cell BK220.out 1).trans rfl
                                            have hfz459_0 := blk_frozen BK220.out 0
                                            have hfz459_1 := blk_frozen BK220.out 1
                                            have hnb460 := NB217_218.out
                                            have hnc460 := NB218_217.out
                                            have hnb461 := NB217_219.out
                                            have hnc461 := NB219_217.out
                                            have hnb462 := NB217_221.out
                                            have hnc462 := NB221_217.out
                                            have hcz463_0 : wc.cell? ⟨gb217, 0, none⟩ = some (.int .i64 a0_0) := (blk_cell BK217.out 0).trans rfl
                                            have hcz463_1 : wc.cell? ⟨gb217, 1, none⟩ = some (.int .i64 a0_1) := (blk_cell BK217.out 1).trans rfl
                                            have hfz463_0 := blk_frozen BK217.out 0
                                            have hfz463_1 := blk_frozen BK217.out 1
                                            have hnb464 := NB219_218.out
                                            have hnc464 := NB218_219.out
                                            have hnb465 := NB219_221.out
                                            have hnc465 := NB221_219.out
                                            have hcz466_0 : wc.cell? ⟨gb219, 0, none⟩ = some (.int .i64 a2_0) := (blk_cell BK219.out 0).trans rfl
                                            have hcz466_1 : wc.cell? ⟨gb219, 1, none⟩ = some (.int .i64 a2_1) := (blk_cell BK219.out 1).trans rfl
                                            have hfz466_0 := blk_frozen BK219.out 0
                                            have hfz466_1 := blk_frozen BK219.out 1
                                            have hnb467 := NB218_221.out
                                            have hnc467 := NB221_218.out
                                            have hcz468_0 : wc.cell? ⟨gb218, 0, none⟩ = some (.int .i64 a1_0) := (blk_cell BK218.out 0).trans rfl
                                            have hcz468_1 : wc.cell? ⟨gb218, 1, none⟩ = some (.int .i64 a1_1) := (blk_cell BK218.out 1).trans rfl
                                            have hfz468_0 := blk_frozen BK218.out 0
                                            have hfz468_1 := blk_frozen BK218.out 1
                                            have hcz469_0 : wc.cell? ⟨gb221, 0, none⟩ = some (.bool a4_0) := (blk_cell BK221.out 0).trans rfl
                                            have hcz469_1 : wc.cell? ⟨gb221, 1, none⟩ = some (.int .i64 a4_1) := (blk_cell BK221.out 1).trans rfl
                                            have hfz469_0 := blk_frozen BK221.out 0
                                            have hfz469_1 := blk_frozen BK221.out 1
                                            go_wp2
                                            go_ret
                                            exact ⟨by first | rfl | (simp [errW_none, errW_some] <;> rfl) | (simp [*, errW_none, errW_some] <;> rfl), by repeat (first | (with_reducible first | exact HB.out | apply below_alloc | apply pw_below_drewN | apply below_drew1 | refine below_set ?_ GE217.out | refine below_set ?_ GE218.out | refine below_set ?_ GE219.out | refine below_set ?_ GE220.out | refine below_set ?_ GE221.out) | exact HB.out)⟩
                                    · exact absurd rfl c410
                                  · replace c409 := Bool.eq_false_iff.mpr c409
                                    subst c409
                                    have H1 : (if true = true then (if t226 ≥ 0 then (some true) else (if (wrap64 (a0_0 + t226)) = a1_0 then (some true) else (if (wrap64 (a0_1 + t226)) = (wrap64 (a2_1 - a4_1)) then (some true) else (none)))) else (none)) = some r := by rw [if_neg (show ¬ (false = true) by decide)] at H; exact H
                                    clear H
                                    have H := H1
                                    clear H1
                                    by_cases c470 : true = true
                                    · clear c470
                                      have H1 : (if t226 ≥ 0 then (some true) else (if (wrap64 (a0_0 + t226)) = a1_0 then (some true) else (if (wrap64 (a0_1 + t226)) = (wrap64 (a2_1 - a4_1)) then (some true) else (none)))) = some r := by first | (rw [if_pos rfl] at H; exact H) | (rw [if_pos True.intro] at H; exact H)
                                      clear H
                                      have H := H1
                                      clear H1
                                      by_cases c471 : t226 ≥ 0
                                      · rw [if_pos c471] at H
                                        have c471b0 : decide (0 ≤ t226) = true := decide_eq_true c471
                                        clear c471
                                        obtain rfl := Option.some.inj H
                                        have hnb472 := NB220_217.out
                                        have hnc472 := NB217_220.out
                                        have hnb473 := NB220_218.out
                                        have hnc473 := NB218_220.out
                                        have hnb474 := NB220_219.out
                                        have hnc474 := NB219_220.out
                                        have hnb475 := NB220_221.out
                                        have hnc475 := NB221_220.out
                                        have hcz476_0 : wc.cell? ⟨gb220, 0, none⟩ = some (.bool false) := (blk_cell BK220.out 0).trans rfl
                                        have hcz476_1 : wc.cell? ⟨gb220, 1, none⟩ = some (.int .i64 a3_1) := (blk_cell BK220.out 1).trans rfl
                                        have hfz476_0 := blk_frozen BK220.out 0
                                        have hfz476_1 := blk_frozen BK220.out 1
                                        go_wp2
                                        go_ret
                                        exact ⟨by first | rfl | (simp [errW_none, errW_some] <;> rfl) | (simp [*, errW_none, errW_some] <;> rfl), by repeat (first | (with_reducible first | exact HB.out | apply below_alloc | apply pw_below_drewN | apply below_drew1 | refine below_set ?_ GE217.out | refine below_set ?_ GE218.out | refine below_set ?_ GE219.out | refine below_set ?_ GE220.out | refine below_set ?_ GE221.out) | exact HB.out)⟩
                                      · rw [if_neg c471] at H
                                        have c471b0 : decide (0 ≤ t226) = false := decide_eq_false c471
                                        clear c471
                                        by_cases c477 : (wrap64 (a0_0 + t226)) = a1_0
                                        · rw [if_pos c477] at H
                                          have c477b0 : ((wrap64 (a0_0 + t226)) == a1_0) = true := beq_iff_eq.mpr c477
                                          have c477b1 : ((wrap64 (a0_0 + t226)) != a1_0) = false := bne_eq_false_iff_eq.mpr c477
                                          clear c477
                                          obtain rfl := Option.some.inj H
                                          have hnb478 := NB220_217.out
                                          have hnc478 := NB217_220.out
                                          have hnb479 := NB220_218.out
                                          have hnc479 := NB218_220.out
                                          have hnb480 := NB220_219.out
                                          have hnc480 := NB219_220.out
                                          have hnb481 := NB220_221.out
                                          have hnc481 := NB221_220.out
                                          have hcz482_0 : wc.cell? ⟨gb220, 0, none⟩ = some (.bool false) := (blk_cell BK220.out 0).trans rfl
                                          have hcz482_1 : wc.cell? ⟨gb220, 1, none⟩ = some (.int .i64 a3_1) := (blk_cell BK220.out 1).trans rfl
                                          have hfz482_0 := blk_frozen BK220.out 0
                                          have hfz482_1 := blk_frozen BK220.out 1
                                          have hnb483 := NB217_218.out
                                          have hnc483 := NB218_217.out
                                          have hnb484 := NB217_219.out
                                          have hnc484 := NB219_217.out
                                          have hnb485 := NB217_221.out
                                          have hnc485 := NB221_217.out
                                          have hcz486_0 : wc.cell? ⟨gb217, 0, none⟩ = some (.int .i64 a0_0) := (blk_cell BK217.out 0).trans rfl
                                          have hcz486_1 : wc.cell? ⟨gb217, 1, none⟩ = some (.int .i64 a0_1) := (blk_cell BK217.out 1).trans rfl
                                          have hfz486_0 := blk_frozen BK217.out 0
                                          have hfz486_1 := blk_frozen BK217.out 1
                                          have hnb487 := NB218_219.out
                                          have hnc487 := NB219_218.out
                                          have hnb488 := NB218_221.out
                                          have hnc488 := NB221_218.out
                                          have hcz489_0 : wc.cell? ⟨gb218, 0, none⟩ = some (.int .i64 a1_0) := (blk_cell BK218.out 0).trans rfl
                                          have hcz489_1 : wc.cell? ⟨gb218, 1, none⟩ = some (.int .i64 a1_1) := (blk_cell BK218.out 1).trans rfl
                                          have hfz489_0 := blk_frozen BK218.out 0
                                          have hfz489_1 := blk_frozen BK218.out 1
                                          go_wp2
                                          go_ret
                                          exact ⟨by first | rfl | (simp [errW_none, errW_some] <;> rfl) | (simp [*, errW_none, errW_some] <;> rfl), by repeat (first | (with_reducible first | exact HB.out | apply below_alloc | apply pw_below_drewN | apply below_drew1 | refine below_set ?_ GE217.out | refine below_set ?_ GE218.out | refine below_set ?_ GE219.out | refine below_set ?_ GE220.out | refine below_set ?_ GE221.out) | exact HB.out)⟩
                                        · rw [if_neg c477] at H
                                          have c477b0 : ((wrap64 (a0_0 + t226)) == a1_0) = false := beq_eq_false_iff_ne.mpr c477
                                          have c477b1 : ((wrap64 (a0_0 + t226)) != a1_0) = true := bne_iff_ne.mpr c477
                                          by_cases c490 : (wrap64 (a0_1 + t226)) = (wrap64 (a2_1 - a4_1))
                                          · rw [if_pos c490] at H
                                            have c490b0 : ((wrap64 (a0_1 + t226)) == (wrap64 (a2_1 - a4_1))) = true := beq_iff_eq.mpr c490
                                            have c490b1 : ((wrap64 (a0_1 + t226)) != (wrap64 (a2_1 - a4_1))) = false := bne_eq_false_iff_eq.mpr c490
                                            clear c490
                                            obtain rfl := Option.some.inj H
                                            have hnb491 := NB220_217.out
                                            have hnc491 := NB217_220.out
                                            have hnb492 := NB220_218.out
                                            have hnc492 := NB218_220.out
                                            have hnb493 := NB220_219.out
                                            have hnc493 := NB219_220.out
                                            have hnb494 := NB220_221.out
                                            have hnc494 := NB221_220.out
                                            have hcz495_0 : wc.cell? ⟨gb220, 0, none⟩ = some (.bool false) := (blk_cell BK220.out 0).trans rfl
                                            have hcz495_1 : wc.cell? ⟨gb220, 1, none⟩ = some (.int .i64 a3_1) := (blk_cell BK220.out 1).trans rfl
                                            have hfz495_0 := blk_frozen BK220.out 0
                                            have hfz495_1 := blk_frozen BK220.out 1
                                            have hnb496 := NB217_218.out
                                            have hnc496 := NB218_217.out
                                            have hnb497 := NB217_219.out
                                            have hnc497 := NB219_217.out
                                            have hnb498 := NB217_221.out
                                            have hnc498 := NB221_217.out
                                            have hcz499_0 : wc.cell? ⟨gb217, 0, none⟩ = some (.int .i64 a0_0) := (blk_cell BK217.out 0).trans rfl
                                            have hcz499_1 : wc.cell? ⟨gb217, 1, none⟩ = some (.int .i64 a0_1) := (blk_cell BK217.out 1).trans rfl
                                            have hfz499_0 := blk_frozen BK217.out 0
                                            have hfz499_1 := blk_frozen BK217.out 1
                                            have hnb500 := NB218_219.out
                                            have hnc500 := NB219_218.out
                                            have hnb501 := NB218_221.out
                                            have hnc501 := NB221_218.out
                                            have hcz502_0 : wc.cell? ⟨gb218, 0, none⟩ = some (.int .i64 a1_0) := (blk_cell BK218.out 0).trans rfl
                                            have hcz502_1 : wc.cell? ⟨gb218, 1, none⟩ = some (.int .i64 a1_1) := (blk_cell BK218.out 1).trans rfl
                                            have hfz502_0 := blk_frozen BK218.out 0
                                            have hfz502_1 := blk_frozen BK218.out 1
                                            have hnb503 := NB219_221.out
                                            have hnc503 := NB221_219.out
                                            have hcz504_0 : wc.cell? ⟨gb219, 0, none⟩ = some (.int .i64 a2_0) := (blk_cell BK219.out 0).trans rfl
                                            have hcz504_1 : wc.cell? ⟨gb219, 1, none⟩ = some (.int .i64 a2_1) := (blk_cell BK219.out 1).trans rfl
                                            have hfz504_0 := blk_frozen BK219.out 0
                                            have hfz504_1 := blk_frozen BK219.out 1
                                            have hcz505_0 : wc.cell? ⟨gb221, 0, none⟩ = some (.bool a4_0) := (blk_cell BK221.out 0).trans rfl
                                            have hcz505_1 : wc.cell? ⟨gb221, 1, none⟩ = some (.int .i64 a4_1) := (blk_cell BK221.out 1).trans rfl
                                            have hfz505_0 := blk_frozen BK221.out 0
                                            have hfz505_1 := blk_frozen BK221.out 1
                                            go_wp2
                                            go_ret
                                            exact ⟨by first | rfl | (simp [errW_none, errW_some] <;> rfl) | (simp [*, errW_none, errW_some] <;> rfl), by repeat (first | (with_reducible first | exact HB.out | apply below_alloc | apply pw_below_drewN | apply below_drew1 | refine below_set ?_ GE217.out | refine below_set ?_ GE218.out | refine below_set ?_ GE219.out | refine below_set ?_ GE220.out | refine below_set ?_ GE221.out) | exact HB.out)⟩
                                          · rw [if_neg c490] at H
                                            exact absurd H (by simp)
                                    · exact absurd rfl c470
  · replace c7 := Bool.eq_false_iff.mpr c7
    subst c7
    have H1 : (none) = some r := by rw [if_neg (show ¬ (false = true) by decide)] at H; exact H
    clear H
    have H := H1
    clear H1
    exact absurd H (by simp)

/-- THE ONE PURE STATEMENT of valancelaw10_StickLeast: yours. -/
def valancelaw10_StickLeast.Pure : Prop := ∀ (a0_0 : Int) (a0_1 : Int) (a1_0 : Int) (a1_1 : Int) (a2_0 : Int) (a2_1 : Int) (a3_0 : Bool) (a3_1 : Int) (a4_0 : Bool) (a4_1 : Int), (Lit.int .i64 a0_0).wf = true → (Lit.int .i64 a0_1).wf = true → (Lit.int .i64 a1_0).wf = true → (Lit.int .i64 a1_1).wf = true → (Lit.int .i64 a2_0).wf = true → (Lit.int .i64 a2_1).wf = true → (Lit.int .i64 a3_1).wf = true → (Lit.int .i64 a4_1).wf = true → ∃ k, valancelaw10_StickLeast.f k a0_0 a0_1 a1_0 a1_1 a2_0 a2_1 a3_0 a3_1 a4_0 a4_1 = some true
theorem valancelaw10_StickLeast.walk (P : valancelaw10_StickLeast.Pure) (a0_0 : Int) (a0_1 : Int) (a1_0 : Int) (a1_1 : Int) (a2_0 : Int) (a2_1 : Int) (a3_0 : Bool) (a3_1 : Int) (a4_0 : Bool) (a4_1 : Int) (w : World) (w0_0 : (Lit.int .i64 a0_0).wf = true) (w0_1 : (Lit.int .i64 a0_1).wf = true) (w1_0 : (Lit.int .i64 a1_0).wf = true) (w1_1 : (Lit.int .i64 a1_1).wf = true) (w2_0 : (Lit.int .i64 a2_0).wf = true) (w2_1 : (Lit.int .i64 a2_1).wf = true) (w3_1 : (Lit.int .i64 a3_1).wf = true) (w4_1 : (Lit.int .i64 a4_1).wf = true) :
    Calls Try.prog 6 #[.agg #[.int .i64 a0_0, .int .i64 a0_1], .agg #[.int .i64 a1_0, .int .i64 a1_1], .agg #[.int .i64 a2_0, .int .i64 a2_1], .agg #[.bool a3_0, .int .i64 a3_1], .agg #[.bool a4_0, .int .i64 a4_1]] w fun e w' => e = .returned (.bool true) ∧ Below w.heap.size w w' := by
  obtain ⟨k, h⟩ := P a0_0 a0_1 a1_0 a1_1 a2_0 a2_1 a3_0 a3_1 a4_0 a4_1 w0_0 w0_1 w1_0 w1_1 w2_0 w2_1 w3_1 w4_1
  refine (valancelaw10_StickLeast.calls k a0_0 a0_1 a1_0 a1_1 a2_0 a2_1 a3_0 a3_1 a4_0 a4_1 true w h).mono ?_
  rintro e w' ⟨rfl, hd⟩
  exact ⟨rfl, hd⟩

end Go.Proofs.Ytnmcefpnpfaklab.V
