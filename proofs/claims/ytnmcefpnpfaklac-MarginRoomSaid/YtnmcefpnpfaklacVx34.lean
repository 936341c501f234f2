/- What the functions of this seat answer, as plain Lean functions, and that the calls come to just that (written by a program of this repo, over the kit's printer; Lean checks it). -/
import Derived.Test.YtnmcefpnpfaklacVx0
import Derived.Test.YtnmcefpnpfaklacVx17
import Derived.Test.YtnmcefpnpfaklacVx18
import Derived.Test.YtnmcefpnpfaklacVx23
namespace Go.Proofs.Ytnmcefpnpfaklac.V
open Go.RowKit Go.Proofs.YtnmcefpnpfaklacW.PrintWords Go.Proofs.YtnmcefpnpfaklacW.PrintLast Go.Proofs.YtnmcefpnpfaklacW.PrintMore
attribute [local go_sem] max2_int min2_int max_two min_two max_three min_three max_four min_four   -- for this text's walks alone
set_option linter.unusedVariables false
set_option linter.unusedSimpArgs false

/-! ### valancelaw06_MarginRoom: function 12 -/
mutual
def valancelaw06_MarginRoom.j0 : Nat → Int → Int → Int → Bool → Int → Int → Int → Int → Bool → Int → Int → Int → Int → Option (Bool)
  | 0, _, _, _, _, _, _, _, _, _, _, _, _, _ => none
  | k + 1, x0, x1, x4, x11, x12, x13, x14, x15, x65, x295000, x295001, x296000, x296001 => if x65 = true then (some x11) else ((length_Fixed.f x295000 x295001 x4).bind fun t301 => (if t301 = true then ((length_Fixed.f x296000 x296001 x4).bind fun t302 => (valancelaw06_MarginRoom.j1 k x0 x1 x4 x11 x12 x13 x14 x15 t302 x295000 x295001 x296000 x296001)) else (valancelaw06_MarginRoom.j1 k x0 x1 x4 x11 x12 x13 x14 x15 false x295000 x295001 x296000 x296001)))
def valancelaw06_MarginRoom.j1 : Nat → Int → Int → Int → Bool → Int → Int → Int → Int → Bool → Int → Int → Int → Int → Option (Bool)
  | 0, _, _, _, _, _, _, _, _, _, _, _, _, _ => none
  | k + 1, x0, x1, x4, x11, x12, x13, x14, x15, x16, x295000, x295001, x296000, x296001 => if x16 = true then (valancelaw06_MarginRoom.j2 k x0 x1 x4 x11 x12 x13 x14 x15 true x295000 x295001 x296000 x296001) else (valancelaw06_MarginRoom.j2 k x0 x1 x4 x11 x12 x13 x14 x15 (decide ((wrap64 ((wrap64 (x1 + x14)) + x15)) ≥ x0)) x295000 x295001 x296000 x296001)
def valancelaw06_MarginRoom.j2 : Nat → Int → Int → Int → Bool → Int → Int → Int → Int → Bool → Int → Int → Int → Int → Option (Bool)
  | 0, _, _, _, _, _, _, _, _, _, _, _, _, _ => none
  | k + 1, x0, x1, x4, x11, x12, x13, x14, x15, x84, x295000, x295001, x296000, x296001 => if x84 = true then (if x11 = true then (if x12 = x14 then (some (x13 == x15)) else (none)) else (none)) else ((length_Fixed.f x295000 x295001 x4).bind fun t303 => (if t303 = true then (if x11 = true then (if (wrap64 ((wrap64 (x1 + x12)) + x13)) = x0 then (if x12 ≥ (mn x14 0) then (some (decide (x13 ≥ (mn x15 0)))) else (none)) else (none)) else (none)) else ((length_Fixed.f x296000 x296001 x4).bind fun t304 => (if t304 = true then (if x11 = true then (if (wrap64 ((wrap64 (x1 + x12)) + x13)) = x0 then (if x12 ≥ (mn x14 0) then (some (decide (x13 ≥ (mn x15 0)))) else (none)) else (none)) else (none)) else (if (wrap64 (x13 - x12)) ≤ 1 then (if x11 = true then (if (wrap64 ((wrap64 (x1 + x12)) + x13)) = x0 then (if x13 ≥ x12 then (if x12 ≥ (mn x14 0) then (some (decide (x13 ≥ (mn x15 0)))) else (none)) else (none)) else (none)) else (none)) else (none))))))
end
def valancelaw06_MarginRoom.f (k : Nat) (a0 : Int) (a1 : Int) (a2_0 : Int) (a2_1 : Int) (a3_0 : Int) (a3_1 : Int) (a4 : Int) : Option (Bool) := (valancelaw06_works.f k).bind fun t296 => (if t296 = true then ((margin_Auto.f a0 a1 a2_0 a2_1 a3_0 a3_1 a4).bind fun bt297 => ((length_Of.f a2_0 a2_1 a4 0).bind fun t299 => ((length_Of.f a3_0 a3_1 a4 0).bind fun t300 => (if a0 < 0 then (valancelaw06_MarginRoom.j0 k a0 a1 a4 t296 bt297.1 bt297.2 t299 t300 true a2_0 a2_1 a3_0 a3_1) else (if a0 > 1073741824 then (valancelaw06_MarginRoom.j0 k a0 a1 a4 t296 bt297.1 bt297.2 t299 t300 true a2_0 a2_1 a3_0 a3_1) else (if a1 < 0 then (valancelaw06_MarginRoom.j0 k a0 a1 a4 t296 bt297.1 bt297.2 t299 t300 true a2_0 a2_1 a3_0 a3_1) else (if a1 > 1073741824 then (valancelaw06_MarginRoom.j0 k a0 a1 a4 t296 bt297.1 bt297.2 t299 t300 true a2_0 a2_1 a3_0 a3_1) else (if t299 < (-1073741824) then (valancelaw06_MarginRoom.j0 k a0 a1 a4 t296 bt297.1 bt297.2 t299 t300 true a2_0 a2_1 a3_0 a3_1) else (if t299 > 1073741824 then (valancelaw06_MarginRoom.j0 k a0 a1 a4 t296 bt297.1 bt297.2 t299 t300 true a2_0 a2_1 a3_0 a3_1) else (if t300 < (-1073741824) then (valancelaw06_MarginRoom.j0 k a0 a1 a4 t296 bt297.1 bt297.2 t299 t300 true a2_0 a2_1 a3_0 a3_1) else (valancelaw06_MarginRoom.j0 k a0 a1 a4 t296 bt297.1 bt297.2 t299 t300 (decide (t300 > 1073741824)) a2_0 a2_1 a3_0 a3_1))))))))))) else (none))
theorem valancelaw06_MarginRoom.mono_l : ∀ k, (∀ y0 y1 y2 y3 y4 y5 y6 y7 y8 y9 y10 y11 y12, LeO (valancelaw06_MarginRoom.j0 k y0 y1 y2 y3 y4 y5 y6 y7 y8 y9 y10 y11 y12) (valancelaw06_MarginRoom.j0 (k + 1) y0 y1 y2 y3 y4 y5 y6 y7 y8 y9 y10 y11 y12)) ∧ (∀ y0 y1 y2 y3 y4 y5 y6 y7 y8 y9 y10 y11 y12, LeO (valancelaw06_MarginRoom.j1 k y0 y1 y2 y3 y4 y5 y6 y7 y8 y9 y10 y11 y12) (valancelaw06_MarginRoom.j1 (k + 1) y0 y1 y2 y3 y4 y5 y6 y7 y8 y9 y10 y11 y12)) ∧ (∀ y0 y1 y2 y3 y4 y5 y6 y7 y8 y9 y10 y11 y12, LeO (valancelaw06_MarginRoom.j2 k y0 y1 y2 y3 y4 y5 y6 y7 y8 y9 y10 y11 y12) (valancelaw06_MarginRoom.j2 (k + 1) y0 y1 y2 y3 y4 y5 y6 y7 y8 y9 y10 y11 y12))
  | 0 => ⟨fun _ _ _ _ _ _ _ _ _ _ _ _ _ r h => by simp [valancelaw06_MarginRoom.j0] at h, fun _ _ _ _ _ _ _ _ _ _ _ _ _ r h => by simp [valancelaw06_MarginRoom.j1] at h, fun _ _ _ _ _ _ _ _ _ _ _ _ _ r h => by simp [valancelaw06_MarginRoom.j2] at h⟩
  | k + 1 => by
    obtain ⟨ih0, ih1, ih2⟩ := valancelaw06_MarginRoom.mono_l k
    refine ⟨?_, ?_, ?_⟩
    · intro y0 y1 y2 y3 y4 y5 y6 y7 y8 y9 y10 y11 y12
      unfold valancelaw06_MarginRoom.j0
      repeat' first
      | (with_reducible exact ih0 _ _ _ _ _ _ _ _ _ _ _ _ _)
      | (with_reducible exact ih1 _ _ _ _ _ _ _ _ _ _ _ _ _)
      | (with_reducible exact ih2 _ _ _ _ _ _ _ _ _ _ _ _ _)
      | (with_reducible exact valancelaw06_works.mono _)
      | (with_reducible exact LeO.refl _)
      | (with_reducible exact LeO.none _)
      | (with_reducible refine LeO.ite ?_ ?_)
      | (with_reducible refine LeO.bind ?_ (fun _ => ?_))
      | exact ih0 _ _ _ _ _ _ _ _ _ _ _ _ _
      | exact ih1 _ _ _ _ _ _ _ _ _ _ _ _ _
      | exact ih2 _ _ _ _ _ _ _ _ _ _ _ _ _
      | exact valancelaw06_works.mono _
      | exact LeO.none _
      | refine LeO.ite ?_ ?_
      | refine LeO.bind ?_ (fun _ => ?_)
    · intro y0 y1 y2 y3 y4 y5 y6 y7 y8 y9 y10 y11 y12
      unfold valancelaw06_MarginRoom.j1
      repeat' first
      | (with_reducible exact ih0 _ _ _ _ _ _ _ _ _ _ _ _ _)
      | (with_reducible exact ih1 _ _ _ _ _ _ _ _ _ _ _ _ _)
      | (with_reducible exact ih2 _ _ _ _ _ _ _ _ _ _ _ _ _)
      | (with_reducible exact valancelaw06_works.mono _)
      | (with_reducible exact LeO.refl _)
      | (with_reducible exact LeO.none _)
      | (with_reducible refine LeO.ite ?_ ?_)
      | (with_reducible refine LeO.bind ?_ (fun _ => ?_))
      | exact ih0 _ _ _ _ _ _ _ _ _ _ _ _ _
      | exact ih1 _ _ _ _ _ _ _ _ _ _ _ _ _
      | exact ih2 _ _ _ _ _ _ _ _ _ _ _ _ _
      | exact valancelaw06_works.mono _
      | exact LeO.none _
      | refine LeO.ite ?_ ?_
      | refine LeO.bind ?_ (fun _ => ?_)
    · intro y0 y1 y2 y3 y4 y5 y6 y7 y8 y9 y10 y11 y12
      unfold valancelaw06_MarginRoom.j2
      repeat' first
      | (with_reducible exact ih0 _ _ _ _ _ _ _ _ _ _ _ _ _)
      | (with_reducible exact ih1 _ _ _ _ _ _ _ _ _ _ _ _ _)
      | (with_reducible exact ih2 _ _ _ _ _ _ _ _ _ _ _ _ _)
      | (with_reducible exact valancelaw06_works.mono _)
      | (with_reducible exact LeO.refl _)
      | (with_reducible exact LeO.none _)
      | (with_reducible refine LeO.ite ?_ ?_)
      | (with_reducible refine LeO.bind ?_ (fun _ => ?_))
      | exact ih0 _ _ _ _ _ _ _ _ _ _ _ _ _
      | exact ih1 _ _ _ _ _ _ _ _ _ _ _ _ _
      | exact ih2 _ _ _ _ _ _ _ _ _ _ _ _ _
      | exact valancelaw06_works.mono _
      | exact LeO.none _
      | refine LeO.ite ?_ ?_
      | refine LeO.bind ?_ (fun _ => ?_)
theorem valancelaw06_MarginRoom.mono : ∀ a0 a1 a2 a3 a4 a5 a6 k, LeO (valancelaw06_MarginRoom.f k a0 a1 a2 a3 a4 a5 a6) (valancelaw06_MarginRoom.f (k + 1) a0 a1 a2 a3 a4 a5 a6) := by
  intro a0 a1 a2 a3 a4 a5 a6 k
  obtain ⟨ih0, ih1, ih2⟩ := valancelaw06_MarginRoom.mono_l k
  unfold valancelaw06_MarginRoom.f
  repeat' first
      | (with_reducible exact ih0 _ _ _ _ _ _ _ _ _ _ _ _ _)
      | (with_reducible exact ih1 _ _ _ _ _ _ _ _ _ _ _ _ _)
      | (with_reducible exact ih2 _ _ _ _ _ _ _ _ _ _ _ _ _)
      | (with_reducible exact valancelaw06_works.mono _)
      | (with_reducible exact LeO.refl _)
      | (with_reducible exact LeO.none _)
      | (with_reducible refine LeO.ite ?_ ?_)
      | (with_reducible refine LeO.bind ?_ (fun _ => ?_))
      | exact ih0 _ _ _ _ _ _ _ _ _ _ _ _ _
      | exact ih1 _ _ _ _ _ _ _ _ _ _ _ _ _
      | exact ih2 _ _ _ _ _ _ _ _ _ _ _ _ _
      | exact valancelaw06_works.mono _
      | exact LeO.none _
      | refine LeO.ite ?_ ?_
      | refine LeO.bind ?_ (fun _ => ?_)
set_option maxHeartbeats 8000000 in
set_option maxRecDepth 100000 in
theorem valancelaw06_MarginRoom.calls (k : Nat) (a0 : Int) (a1 : Int) (a2_0 : Int) (a2_1 : Int) (a3_0 : Int) (a3_1 : Int) (a4 : Int) (r : Bool) (w : World) (h : valancelaw06_MarginRoom.f k a0 a1 a2_0 a2_1 a3_0 a3_1 a4 = some r) :
    Calls Try.prog 12 #[.int .i64 a0, .int .i64 a1, .agg #[.int .i64 a2_0, .int .i64 a2_1], .agg #[.int .i64 a3_0, .int .i64 a3_1], .int .i64 a4] w fun e w' => e = .returned (.bool r) ∧ Below w.heap.size w w' := by
  have hu51 := Try.underlying51
  have HB := Aside0.mk (Below.refl w.heap.size w)
  have H : ((valancelaw06_works.f k).bind fun t296 => (if t296 = true then ((margin_Auto.f a0 a1 a2_0 a2_1 a3_0 a3_1 a4).bind fun bt297 => ((length_Of.f a2_0 a2_1 a4 0).bind fun t299 => ((length_Of.f a3_0 a3_1 a4 0).bind fun t300 => (if a0 < 0 then (valancelaw06_MarginRoom.j0 k a0 a1 a4 t296 bt297.1 bt297.2 t299 t300 true a2_0 a2_1 a3_0 a3_1) else (if a0 > 1073741824 then (valancelaw06_MarginRoom.j0 k a0 a1 a4 t296 bt297.1 bt297.2 t299 t300 true a2_0 a2_1 a3_0 a3_1) else (if a1 < 0 then (valancelaw06_MarginRoom.j0 k a0 a1 a4 t296 bt297.1 bt297.2 t299 t300 true a2_0 a2_1 a3_0 a3_1) else (if a1 > 1073741824 then (valancelaw06_MarginRoom.j0 k a0 a1 a4 t296 bt297.1 bt297.2 t299 t300 true a2_0 a2_1 a3_0 a3_1) else (if t299 < (-1073741824) then (valancelaw06_MarginRoom.j0 k a0 a1 a4 t296 bt297.1 bt297.2 t299 t300 true a2_0 a2_1 a3_0 a3_1) else (if t299 > 1073741824 then (valancelaw06_MarginRoom.j0 k a0 a1 a4 t296 bt297.1 bt297.2 t299 t300 true a2_0 a2_1 a3_0 a3_1) else (if t300 < (-1073741824) then (valancelaw06_MarginRoom.j0 k a0 a1 a4 t296 bt297.1 bt297.2 t299 t300 true a2_0 a2_1 a3_0 a3_1) else (valancelaw06_MarginRoom.j0 k a0 a1 a4 t296 bt297.1 bt297.2 t299 t300 (decide (t300 > 1073741824)) a2_0 a2_1 a3_0 a3_1))))))))))) else (none))) = some r := h
  clear h
  replace H := Option.bind_eq_some_iff.mp H
  obtain ⟨t296, A60, H⟩ := H
  replace H : (if t296 = true then ((margin_Auto.f a0 a1 a2_0 a2_1 a3_0 a3_1 a4).bind fun bt297 => ((length_Of.f a2_0 a2_1 a4 0).bind fun t299 => ((length_Of.f a3_0 a3_1 a4 0).bind fun t300 => (if a0 < 0 then (valancelaw06_MarginRoom.j0 k a0 a1 a4 t296 bt297.1 bt297.2 t299 t300 true a2_0 a2_1 a3_0 a3_1) else (if a0 > 1073741824 then (valancelaw06_MarginRoom.j0 k a0 a1 a4 t296 bt297.1 bt297.2 t299 t300 true a2_0 a2_1 a3_0 a3_1) else (if a1 < 0 then (valancelaw06_MarginRoom.j0 k a0 a1 a4 t296 bt297.1 bt297.2 t299 t300 true a2_0 a2_1 a3_0 a3_1) else (if a1 > 1073741824 then (valancelaw06_MarginRoom.j0 k a0 a1 a4 t296 bt297.1 bt297.2 t299 t300 true a2_0 a2_1 a3_0 a3_1) else (if t299 < (-1073741824) then (valancelaw06_MarginRoom.j0 k a0 a1 a4 t296 bt297.1 bt297.2 t299 t300 true a2_0 a2_1 a3_0 a3_1) else (if t299 > 1073741824 then (valancelaw06_MarginRoom.j0 k a0 a1 a4 t296 bt297.1 bt297.2 t299 t300 true a2_0 a2_1 a3_0 a3_1) else (if t300 < (-1073741824) then (valancelaw06_MarginRoom.j0 k a0 a1 a4 t296 bt297.1 bt297.2 t299 t300 true a2_0 a2_1 a3_0 a3_1) else (valancelaw06_MarginRoom.j0 k a0 a1 a4 t296 bt297.1 bt297.2 t299 t300 (decide (t300 > 1073741824)) a2_0 a2_1 a3_0 a3_1))))))))))) else (none)) = some r := H
  have A6 := Aside0.mk A60
  clear A60
  by_cases c7 : t296 = true
  · subst c7
    have H1 : ((margin_Auto.f a0 a1 a2_0 a2_1 a3_0 a3_1 a4).bind fun bt297 => ((length_Of.f a2_0 a2_1 a4 0).bind fun t299 => ((length_Of.f a3_0 a3_1 a4 0).bind fun t300 => (if a0 < 0 then (valancelaw06_MarginRoom.j0 k a0 a1 a4 true bt297.1 bt297.2 t299 t300 true a2_0 a2_1 a3_0 a3_1) else (if a0 > 1073741824 then (valancelaw06_MarginRoom.j0 k a0 a1 a4 true bt297.1 bt297.2 t299 t300 true a2_0 a2_1 a3_0 a3_1) else (if a1 < 0 then (valancelaw06_MarginRoom.j0 k a0 a1 a4 true bt297.1 bt297.2 t299 t300 true a2_0 a2_1 a3_0 a3_1) else (if a1 > 1073741824 then (valancelaw06_MarginRoom.j0 k a0 a1 a4 true bt297.1 bt297.2 t299 t300 true a2_0 a2_1 a3_0 a3_1) else (if t299 < (-1073741824) then (valancelaw06_MarginRoom.j0 k a0 a1 a4 true bt297.1 bt297.2 t299 t300 true a2_0 a2_1 a3_0 a3_1) else (if t299 > 1073741824 then (valancelaw06_MarginRoom.j0 k a0 a1 a4 true bt297.1 bt297.2 t299 t300 true a2_0 a2_1 a3_0 a3_1) else (if t300 < (-1073741824) then (valancelaw06_MarginRoom.j0 k a0 a1 a4 true bt297.1 bt297.2 t299 t300 true a2_0 a2_1 a3_0 a3_1) else (valancelaw06_MarginRoom.j0 k a0 a1 a4 true bt297.1 bt297.2 t299 t300 (decide (t300 > 1073741824)) a2_0 a2_1 a3_0 a3_1))))))))))) = some r := by rw [if_pos rfl] at H; exact H
    clear H
    have H := H1
    clear H1
    replace H := Option.bind_eq_some_iff.mp H
    obtain ⟨⟨t297, t298⟩, A80, H⟩ := H
    replace H : ((length_Of.f a2_0 a2_1 a4 0).bind fun t299 => ((length_Of.f a3_0 a3_1 a4 0).bind fun t300 => (if a0 < 0 then (valancelaw06_MarginRoom.j0 k a0 a1 a4 true t297 t298 t299 t300 true a2_0 a2_1 a3_0 a3_1) else (if a0 > 1073741824 then (valancelaw06_MarginRoom.j0 k a0 a1 a4 true t297 t298 t299 t300 true a2_0 a2_1 a3_0 a3_1) else (if a1 < 0 then (valancelaw06_MarginRoom.j0 k a0 a1 a4 true t297 t298 t299 t300 true a2_0 a2_1 a3_0 a3_1) else (if a1 > 1073741824 then (valancelaw06_MarginRoom.j0 k a0 a1 a4 true t297 t298 t299 t300 true a2_0 a2_1 a3_0 a3_1) else (if t299 < (-1073741824) then (valancelaw06_MarginRoom.j0 k a0 a1 a4 true t297 t298 t299 t300 true a2_0 a2_1 a3_0 a3_1) else (if t299 > 1073741824 then (valancelaw06_MarginRoom.j0 k a0 a1 a4 true t297 t298 t299 t300 true a2_0 a2_1 a3_0 a3_1) else (if t300 < (-1073741824) then (valancelaw06_MarginRoom.j0 k a0 a1 a4 true t297 t298 t299 t300 true a2_0 a2_1 a3_0 a3_1) else (valancelaw06_MarginRoom.j0 k a0 a1 a4 true t297 t298 t299 t300 (decide (t300 > 1073741824)) a2_0 a2_1 a3_0 a3_1)))))))))) = some r := H
    have A8 := Aside0.mk A80
    clear A80
    replace H := Option.bind_eq_some_iff.mp H
    obtain ⟨t299, A90, H⟩ := H
    replace H : ((length_Of.f a3_0 a3_1 a4 0).bind fun t300 => (if a0 < 0 then (valancelaw06_MarginRoom.j0 k a0 a1 a4 true t297 t298 t299 t300 true a2_0 a2_1 a3_0 a3_1) else (if a0 > 1073741824 then (valancelaw06_MarginRoom.j0 k a0 a1 a4 true t297 t298 t299 t300 true a2_0 a2_1 a3_0 a3_1) else (if a1 < 0 then (valancelaw06_MarginRoom.j0 k a0 a1 a4 true t297 t298 t299 t300 true a2_0 a2_1 a3_0 a3_1) else (if a1 > 1073741824 then (valancelaw06_MarginRoom.j0 k a0 a1 a4 true t297 t298 t299 t300 true a2_0 a2_1 a3_0 a3_1) else (if t299 < (-1073741824) then (valancelaw06_MarginRoom.j0 k a0 a1 a4 true t297 t298 t299 t300 true a2_0 a2_1 a3_0 a3_1) else (if t299 > 1073741824 then (valancelaw06_MarginRoom.j0 k a0 a1 a4 true t297 t298 t299 t300 true a2_0 a2_1 a3_0 a3_1) else (if t300 < (-1073741824) then (valancelaw06_MarginRoom.j0 k a0 a1 a4 true t297 t298 t299 t300 true a2_0 a2_1 a3_0 a3_1) else (valancelaw06_MarginRoom.j0 k a0 a1 a4 true t297 t298 t299 t300 (decide (t300 > 1073741824)) a2_0 a2_1 a3_0 a3_1))))))))) = some r := H
    have A9 := Aside0.mk A90
    clear A90
    replace H := Option.bind_eq_some_iff.mp H
    obtain ⟨t300, A100, H⟩ := H
    replace H : (if a0 < 0 then (valancelaw06_MarginRoom.j0 k a0 a1 a4 true t297 t298 t299 t300 true a2_0 a2_1 a3_0 a3_1) else (if a0 > 1073741824 then (valancelaw06_MarginRoom.j0 k a0 a1 a4 true t297 t298 t299 t300 true a2_0 a2_1 a3_0 a3_1) else (if a1 < 0 then (valancelaw06_MarginRoom.j0 k a0 a1 a4 true t297 t298 t299 t300 true a2_0 a2_1 a3_0 a3_1) else (if a1 > 1073741824 then (valancelaw06_MarginRoom.j0 k a0 a1 a4 true t297 t298 t299 t300 true a2_0 a2_1 a3_0 a3_1) else (if t299 < (-1073741824) then (valancelaw06_MarginRoom.j0 k a0 a1 a4 true t297 t298 t299 t300 true a2_0 a2_1 a3_0 a3_1) else (if t299 > 1073741824 then (valancelaw06_MarginRoom.j0 k a0 a1 a4 true t297 t298 t299 t300 true a2_0 a2_1 a3_0 a3_1) else (if t300 < (-1073741824) then (valancelaw06_MarginRoom.j0 k a0 a1 a4 true t297 t298 t299 t300 true a2_0 a2_1 a3_0 a3_1) else (valancelaw06_MarginRoom.j0 k a0 a1 a4 true t297 t298 t299 t300 (decide (t300 > 1073741824)) a2_0 a2_1 a3_0 a3_1)))))))) = some r := H
    have A10 := Aside0.mk A100
    clear A100
    have HC11 := Aside0.mk H
    clear H
    go_enter Try.func12, Try.ntmps12
    go_upto_region 7 with (first | ((with_reducible refine gate_dst (N := 7) rfl ?_); (try (refine gate_guard (by rfl) ?_; dsimp only)); refine box_event ?hg (N := 7) ?hd (cs := #[.int .i64 a2_0, .int .i64 a2_1]) (t := 51) ?hr ?_; (case hd => rfl); (case hg => rfl); (case hr => first | (go_simp; done) | (go_simp; rfl)); intro gb294 hg w12 hbox hb; have n0_ := Aside0.mk (below_step (by repeat (first | (with_reducible first | exact HB.out | apply below_alloc | apply pw_below_drewN | apply below_drew1) | exact HB.out)) hb); have n1_ := Aside0.mk (hbox); have n2_ := Aside0.mk ((by rw [hg]; exact (below_size (by repeat (first | (with_reducible first | exact HB.out | apply below_alloc | apply pw_below_drewN | apply below_drew1) | exact HB.out))) : w.heap.size ≤ gb294)); have n3_ := Aside0.mk ((by rw [hg]; exact (below_size (by repeat (first | (with_reducible first | exact HB.out | apply below_alloc | apply pw_below_drewN | apply below_drew1) | exact HB.out))) : w.heap.size ≤ gb294)); clear HB; have HB := n0_; have BK294 := n1_; have GW294 := n2_; have GE294 := n3_; clear n0_ n1_ n2_ n3_; clear hb hbox hg) | ((with_reducible refine gate_dst (N := 8) rfl ?_); (try (refine gate_guard (by rfl) ?_; dsimp only)); refine box_event ?hg (N := 8) ?hd (cs := #[.int .i64 a3_0, .int .i64 a3_1]) (t := 51) ?hr ?_; (case hd => rfl); (case hg => rfl); (case hr => first | (go_simp; done) | (go_simp; rfl)); intro gb295 hg w13 hbox hb; have n0_ := Aside0.mk (blk_below (g := gb294) (o := .cells #[.int .i64 a2_0, .int .i64 a2_1] 51 (0, 0)) (by (with_reducible repeat (first | refine blk_drewN ?_ _ | refine blk_drew ?_ | refine blk_alloc ?_ _)); exact BK294.out) hb); have n1_ := Aside0.mk (below_step (by repeat (first | (with_reducible first | exact HB.out | apply below_alloc | apply pw_below_drewN | apply below_drew1 | refine below_set ?_ GE294.out) | exact HB.out)) hb); have n2_ := Aside0.mk (hbox); have n3_ := Aside0.mk ((by rw [hg]; exact (below_size (by repeat (first | (with_reducible first | exact HB.out | apply below_alloc | apply pw_below_drewN | apply below_drew1 | refine below_set ?_ GE294.out) | exact HB.out))) : w.heap.size ≤ gb295)); have n4_ := Aside0.mk ((by rw [hg]; exact (below_size (by repeat (first | (with_reducible first | exact HB.out | apply below_alloc | apply pw_below_drewN | apply below_drew1 | refine below_set ?_ GE294.out) | exact HB.out))) : w.heap.size ≤ gb295)); have n5_ := Aside0.mk ((by rw [hg]; exact Nat.ne_of_lt (blk_lt (g := gb294) (o := .cells #[.int .i64 a2_0, .int .i64 a2_1] 51 (0, 0)) (by (with_reducible repeat (first | refine blk_drewN ?_ _ | refine blk_drew ?_ | refine blk_alloc ?_ _)); exact BK294.out)) : gb294 ≠ gb295)); have n6_ := Aside0.mk ((by rw [hg]; exact Nat.ne_of_gt (blk_lt (g := gb294) (o := .cells #[.int .i64 a2_0, .int .i64 a2_1] 51 (0, 0)) (by (with_reducible repeat (first | refine blk_drewN ?_ _ | refine blk_drew ?_ | refine blk_alloc ?_ _)); exact BK294.out)) : gb295 ≠ gb294)); clear BK294; clear HB; have BK294 := n0_; have HB := n1_; have BK295 := n2_; have GW295 := n3_; have GE295 := n4_; have NB294_295 := n5_; have NB295_294 := n6_; clear n0_ n1_ n2_ n3_ n4_ n5_ n6_; clear hb hbox hg) | ((with_reducible refine gate_callee (f := 26) rfl ?_); refine goesL_ (some 18) rfl rfl Try.func26 (by kernel_rfl) rfl #[] rfl (by (try simp only [List.map_toArray, List.map_cons, List.map_nil]); first | done | rfl | (simp only [List.length_drop, List.length_take]; rfl)) ?_; (with_reducible refine (valancelaw06_works.calls k  true _ A6.out).mono ?_); rintro e w14 ⟨rfl, hb⟩; refine ⟨_, rfl, ?_⟩; have n0_ := Aside0.mk (blk_below (g := gb294) (o := .cells #[.int .i64 a2_0, .int .i64 a2_1] 51 (0, 0)) (by (with_reducible repeat (first | refine blk_drewN ?_ _ | refine blk_drew ?_ | refine blk_alloc ?_ _)); exact BK294.out) hb); have n1_ := Aside0.mk (blk_below (g := gb295) (o := .cells #[.int .i64 a3_0, .int .i64 a3_1] 51 (0, 0)) (by (with_reducible repeat (first | refine blk_drewN ?_ _ | refine blk_drew ?_ | refine blk_alloc ?_ _)); exact BK295.out) hb); have n2_ := Aside0.mk (below_step (by repeat (first | (with_reducible first | exact HB.out | apply below_alloc | apply pw_below_drewN | apply below_drew1 | refine below_set ?_ GE294.out | refine below_set ?_ GE295.out) | exact HB.out)) hb); clear BK294; clear BK295; clear HB; have BK294 := n0_; have BK295 := n1_; have HB := n2_; clear n0_ n1_ n2_; (try clear hb); (try clear hb2); (try clear hk); (try clear hi); have hnb15 := NB294_295.out; have hnc15 := NB295_294.out; have hcz16_0 : w14.cell? ⟨gb294, 0, none⟩ = some (.int .i64 a2_0) := (blk_cell BK294.out 0).trans rfl; have hcz16_1 : w14.cell? ⟨gb294, 1, none⟩ = some (.int .i64 a2_1) := (blk_cell BK294.out 1).trans rfl; have hfz16_0 := blk_frozen BK294.out 0; have hfz16_1 := blk_frozen BK294.out 1; have hcz17_0 : w14.cell? ⟨gb295, 0, none⟩ = some (.int .i64 a3_0) := (blk_cell BK295.out 0).trans rfl; have hcz17_1 : w14.cell? ⟨gb295, 1, none⟩ = some (.int .i64 a3_1) := (blk_cell BK295.out 1).trans rfl; have hfz17_0 := blk_frozen BK295.out 0; have hfz17_1 := blk_frozen BK295.out 1) | ((with_reducible refine gate_callee (f := 27) rfl ?_); refine goesL_ (some 27) rfl rfl Try.func27 (by kernel_rfl) rfl #[.int .i64 a0, .int .i64 a1, .agg #[.int .i64 a2_0, .int .i64 a2_1], .agg #[.int .i64 a3_0, .int .i64 a3_1], .int .i64 a4] rfl (by (try simp only [List.map_toArray, List.map_cons, List.map_nil]); first | done | rfl | (simp only [List.length_drop, List.length_take]; rfl)) ?_; (with_reducible refine (margin_Auto.calls a0 a1 a2_0 a2_1 a3_0 a3_1 a4 t297 t298 _ A8.out).mono ?_); rintro e w18 ⟨rfl, hb⟩; refine ⟨_, rfl, ?_⟩; have n0_ := Aside0.mk (blk_below (g := gb294) (o := .cells #[.int .i64 a2_0, .int .i64 a2_1] 51 (0, 0)) (by (with_reducible repeat (first | refine blk_drewN ?_ _ | refine blk_drew ?_ | refine blk_alloc ?_ _)); exact BK294.out) hb); have n1_ := Aside0.mk (blk_below (g := gb295) (o := .cells #[.int .i64 a3_0, .int .i64 a3_1] 51 (0, 0)) (by (with_reducible repeat (first | refine blk_drewN ?_ _ | refine blk_drew ?_ | refine blk_alloc ?_ _)); exact BK295.out) hb); have n2_ := Aside0.mk (below_step (by repeat (first | (with_reducible first | exact HB.out | apply below_alloc | apply pw_below_drewN | apply below_drew1 | refine below_set ?_ GE294.out | refine below_set ?_ GE295.out) | exact HB.out)) hb); clear BK294; clear BK295; clear HB; have BK294 := n0_; have BK295 := n1_; have HB := n2_; clear n0_ n1_ n2_; (try clear hb); (try clear hb2); (try clear hk); (try clear hi); have hcz19_0 : w18.cell? ⟨gb294, 0, none⟩ = some (.int .i64 a2_0) := (blk_cell BK294.out 0).trans rfl; have hcz19_1 : w18.cell? ⟨gb294, 1, none⟩ = some (.int .i64 a2_1) := (blk_cell BK294.out 1).trans rfl; have hfz19_0 := blk_frozen BK294.out 0; have hfz19_1 := blk_frozen BK294.out 1) | ((with_reducible refine gate_callee (f := 34) rfl ?_); refine goesL_ (some 32) rfl rfl Try.func34 (by kernel_rfl) rfl #[.agg #[.int .i64 a2_0, .int .i64 a2_1], .int .i64 a4, .int .i64 0] rfl (by (try simp only [List.map_toArray, List.map_cons, List.map_nil]); first | done | rfl | (simp only [List.length_drop, List.length_take]; rfl)) ?_; (with_reducible refine (length_Of.calls a2_0 a2_1 a4 0 t299 _ A9.out).mono ?_); rintro e w20 ⟨rfl, hb⟩; refine ⟨_, rfl, ?_⟩; have n0_ := Aside0.mk (blk_below (g := gb294) (o := .cells #[.int .i64 a2_0, .int .i64 a2_1] 51 (0, 0)) (by (with_reducible repeat (first | refine blk_drewN ?_ _ | refine blk_drew ?_ | refine blk_alloc ?_ _)); exact BK294.out) hb); have n1_ := Aside0.mk (blk_below (g := gb295) (o := .cells #[.int .i64 a3_0, .int .i64 a3_1] 51 (0, 0)) (by (with_reducible repeat (first | refine blk_drewN ?_ _ | refine blk_drew ?_ | refine blk_alloc ?_ _)); exact BK295.out) hb); have n2_ := Aside0.mk (below_step (by repeat (first | (with_reducible first | exact HB.out | apply below_alloc | apply pw_below_drewN | apply below_drew1 | refine below_set ?_ GE294.out | refine below_set ?_ GE295.out) | exact HB.out)) hb); clear BK294; clear BK295; clear HB; have BK294 := n0_; have BK295 := n1_; have HB := n2_; clear n0_ n1_ n2_; (try clear hb); (try clear hb2); (try clear hk); (try clear hi); have hcz21_0 : w20.cell? ⟨gb295, 0, none⟩ = some (.int .i64 a3_0) := (blk_cell BK295.out 0).trans rfl; have hcz21_1 : w20.cell? ⟨gb295, 1, none⟩ = some (.int .i64 a3_1) := (blk_cell BK295.out 1).trans rfl; have hfz21_0 := blk_frozen BK295.out 0; have hfz21_1 := blk_frozen BK295.out 1) | ((with_reducible refine gate_callee (f := 34) rfl ?_); refine goesL_ (some 35) rfl rfl Try.func34 (by kernel_rfl) rfl #[.agg #[.int .i64 a3_0, .int .i64 a3_1], .int .i64 a4, .int .i64 0] rfl (by (try simp only [List.map_toArray, List.map_cons, List.map_nil]); first | done | rfl | (simp only [List.length_drop, List.length_take]; rfl)) ?_; (with_reducible refine (length_Of.calls a3_0 a3_1 a4 0 t300 _ A10.out).mono ?_); rintro e w22 ⟨rfl, hb⟩; refine ⟨_, rfl, ?_⟩; have n0_ := Aside0.mk (blk_below (g := gb294) (o := .cells #[.int .i64 a2_0, .int .i64 a2_1] 51 (0, 0)) (by (with_reducible repeat (first | refine blk_drewN ?_ _ | refine blk_drew ?_ | refine blk_alloc ?_ _)); exact BK294.out) hb); have n1_ := Aside0.mk (blk_below (g := gb295) (o := .cells #[.int .i64 a3_0, .int .i64 a3_1] 51 (0, 0)) (by (with_reducible repeat (first | refine blk_drewN ?_ _ | refine blk_drew ?_ | refine blk_alloc ?_ _)); exact BK295.out) hb); have n2_ := Aside0.mk (below_step (by repeat (first | (with_reducible first | exact HB.out | apply below_alloc | apply pw_below_drewN | apply below_drew1 | refine below_set ?_ GE294.out | refine below_set ?_ GE295.out) | exact HB.out)) hb); clear BK294; clear BK295; clear HB; have BK294 := n0_; have BK295 := n1_; have HB := n2_; clear n0_ n1_ n2_; (try clear hb); (try clear hb2); (try clear hk); (try clear hi)))
    (try simp only [Act.put, List.setIfInBounds_toArray, List.set_cons_zero, List.set_cons_succ])
    go_cut [65] (fun v65 wc => ∃ (kq : Nat) (x65_10 : Bool), v65 = .bool x65_10 ∧ Aside0 (valancelaw06_MarginRoom.j0 kq a0 a1 a4 true t297 t298 t299 t300 x65_10 a2_0 a2_1 a3_0 a3_1 = some r) ∧ Aside0 (kq ≤ k) ∧ Aside0 (wc.heap[gb294]? = some (.cells #[.int .i64 a2_0, .int .i64 a2_1] 51 (0, 0))) ∧ Aside0 (wc.heap[gb295]? = some (.cells #[.int .i64 a3_0, .int .i64 a3_1] 51 (0, 0))) ∧ Aside0 (Below w.heap.size w wc))
    case first =>
      have H := HC11.out
      clear HC11
      by_cases c23 : a0 < 0
      · rw [if_pos c23] at H
        have c23b0 : decide (a0 < 0) = true := decide_eq_true c23
        clear c23
        (first | rw [c23b0] | (simp only [i64_w, i32_w]; rw [c23b0]) | skip)
        have H' := Aside0.mk H
        clear H
        go_wp2
        go_meet
        case rel => exact ⟨_, (true), (by first | rfl | (simp; done) | (simp [*]; done)), H', ⟨by first | omega | exact Nat.le_refl _⟩, ⟨by (with_reducible repeat (first | refine blk_drewN ?_ _ | refine blk_drew ?_ | refine blk_alloc ?_ _)); exact BK294.out⟩, ⟨by (with_reducible repeat (first | refine blk_drewN ?_ _ | refine blk_drew ?_ | refine blk_alloc ?_ _)); exact BK295.out⟩, ⟨by repeat (first | (with_reducible first | exact HB.out | apply below_alloc | apply pw_below_drewN | apply below_drew1 | refine below_set ?_ GE294.out | refine below_set ?_ GE295.out) | exact HB.out)⟩⟩
      · rw [if_neg c23] at H
        have c23b0 : decide (a0 < 0) = false := decide_eq_false c23
        clear c23
        (first | rw [c23b0] | (simp only [i64_w, i32_w]; rw [c23b0]) | skip)
        by_cases c24 : a0 > 1073741824
        · rw [if_pos c24] at H
          have c24b0 : decide (1073741824 < a0) = true := decide_eq_true c24
          clear c24
          have H' := Aside0.mk H
          clear H
          go_wp2
          go_meet
          case rel => exact ⟨_, (true), (by first | rfl | (simp; done) | (simp [*]; done)), H', ⟨by first | omega | exact Nat.le_refl _⟩, ⟨by (with_reducible repeat (first | refine blk_drewN ?_ _ | refine blk_drew ?_ | refine blk_alloc ?_ _)); exact BK294.out⟩, ⟨by (with_reducible repeat (first | refine blk_drewN ?_ _ | refine blk_drew ?_ | refine blk_alloc ?_ _)); exact BK295.out⟩, ⟨by repeat (first | (with_reducible first | exact HB.out | apply below_alloc | apply pw_below_drewN | apply below_drew1 | refine below_set ?_ GE294.out | refine below_set ?_ GE295.out) | exact HB.out)⟩⟩
        · rw [if_neg c24] at H
          have c24b0 : decide (1073741824 < a0) = false := decide_eq_false c24
          clear c24
          by_cases c25 : a1 < 0
          · rw [if_pos c25] at H
            have c25b0 : decide (a1 < 0) = true := decide_eq_true c25
            clear c25
            have H' := Aside0.mk H
            clear H
            go_wp2
            go_meet
            case rel => exact ⟨_, (true), (by first | rfl | (simp; done) | (simp [*]; done)), H', ⟨by first | omega | exact Nat.le_refl _⟩, ⟨by (with_reducible repeat (first | refine blk_drewN ?_ _ | refine blk_drew ?_ | refine blk_alloc ?_ _)); exact BK294.out⟩, ⟨by (with_reducible repeat (first | refine blk_drewN ?_ _ | refine blk_drew ?_ | refine blk_alloc ?_ _)); exact BK295.out⟩, ⟨by repeat (first | (with_reducible first | exact HB.out | apply below_alloc | apply pw_below_drewN | apply below_drew1 | refine below_set ?_ GE294.out | refine below_set ?_ GE295.out) | exact HB.out)⟩⟩
          · rw [if_neg c25] at H
            have c25b0 : decide (a1 < 0) = false := decide_eq_false c25
            clear c25
            by_cases c26 : a1 > 1073741824
            · rw [if_pos c26] at H
              have c26b0 : decide (1073741824 < a1) = true := decide_eq_true c26
              clear c26
              have H' := Aside0.mk H
              clear H
              go_wp2
              go_meet
              case rel => exact ⟨_, (true), (by first | rfl | (simp; done) | (simp [*]; done)), H', ⟨by first | omega | exact Nat.le_refl _⟩, ⟨by (with_reducible repeat (first | refine blk_drewN ?_ _ | refine blk_drew ?_ | refine blk_alloc ?_ _)); exact BK294.out⟩, ⟨by (with_reducible repeat (first | refine blk_drewN ?_ _ | refine blk_drew ?_ | refine blk_alloc ?_ _)); exact BK295.out⟩, ⟨by repeat (first | (with_reducible first | exact HB.out | apply below_alloc | apply pw_below_drewN | apply below_drew1 | refine below_set ?_ GE294.out | refine below_set ?_ GE295.out) | exact HB.out)⟩⟩
            · rw [if_neg c26] at H
              have c26b0 : decide (1073741824 < a1) = false := decide_eq_false c26
              clear c26
              by_cases c27 : t299 < (-1073741824)
              · rw [if_pos c27] at H
                have c27b0 : decide (t299 < (-1073741824)) = true := decide_eq_true c27
                clear c27
                have H' := Aside0.mk H
                clear H
                go_wp2
                go_meet
                case rel => exact ⟨_, (true), (by first | rfl | (simp; done) | (simp [*]; done)), H', ⟨by first | omega | exact Nat.le_refl _⟩, ⟨by (with_reducible repeat (first | refine blk_drewN ?_ _ | refine blk_drew ?_ | refine blk_alloc ?_ _)); exact BK294.out⟩, ⟨by (with_reducible repeat (first | refine blk_drewN ?_ _ | refine blk_drew ?_ | refine blk_alloc ?_ _)); exact BK295.out⟩, ⟨by repeat (first | (with_reducible first | exact HB.out | apply below_alloc | apply pw_below_drewN | apply below_drew1 | refine below_set ?_ GE294.out | refine below_set ?_ GE295.out) | exact HB.out)⟩⟩
              · rw [if_neg c27] at H
                have c27b0 : decide (t299 < (-1073741824)) = false := decide_eq_false c27
                clear c27
                by_cases c28 : t299 > 1073741824
                · rw [if_pos c28] at H
                  have c28b0 : decide (1073741824 < t299) = true := decide_eq_true c28
                  clear c28
                  have H' := Aside0.mk H
                  clear H
                  go_wp2
                  go_meet
                  case rel => exact ⟨_, (true), (by first | rfl | (simp; done) | (simp [*]; done)), H', ⟨by first | omega | exact Nat.le_refl _⟩, ⟨by (with_reducible repeat (first | refine blk_drewN ?_ _ | refine blk_drew ?_ | refine blk_alloc ?_ _)); exact BK294.out⟩, ⟨by (with_reducible repeat (first | refine blk_drewN ?_ _ | refine blk_drew ?_ | refine blk_alloc ?_ _)); exact BK295.out⟩, ⟨by repeat (first | (with_reducible first | exact HB.out | apply below_alloc | apply pw_below_drewN | apply below_drew1 | refine below_set ?_ GE294.out | refine below_set ?_ GE295.out) | exact HB.out)⟩⟩
                · rw [if_neg c28] at H
                  have c28b0 : decide (1073741824 < t299) = false := decide_eq_false c28
                  clear c28
                  by_cases c29 : t300 < (-1073741824)
                  · rw [if_pos c29] at H
                    have c29b0 : decide (t300 < (-1073741824)) = true := decide_eq_true c29
                    clear c29
                    have H' := Aside0.mk H
                    clear H
                    go_wp2
                    go_meet
                    case rel => exact ⟨_, (true), (by first | rfl | (simp; done) | (simp [*]; done)), H', ⟨by first | omega | exact Nat.le_refl _⟩, ⟨by (with_reducible repeat (first | refine blk_drewN ?_ _ | refine blk_drew ?_ | refine blk_alloc ?_ _)); exact BK294.out⟩, ⟨by (with_reducible repeat (first | refine blk_drewN ?_ _ | refine blk_drew ?_ | refine blk_alloc ?_ _)); exact BK295.out⟩, ⟨by repeat (first | (with_reducible first | exact HB.out | apply below_alloc | apply pw_below_drewN | apply below_drew1 | refine below_set ?_ GE294.out | refine below_set ?_ GE295.out) | exact HB.out)⟩⟩
                  · rw [if_neg c29] at H
                    have c29b0 : decide (t300 < (-1073741824)) = false := decide_eq_false c29
                    clear c29
                    have H' := Aside0.mk H
                    clear H
                    go_wp2
                    go_meet
                    case rel => exact ⟨_, (decide (t300 > 1073741824)), (by first | rfl | (simp; done) | (simp [*]; done)), H', ⟨by first | omega | exact Nat.le_refl _⟩, ⟨by (with_reducible repeat (first | refine blk_drewN ?_ _ | refine blk_drew ?_ | refine blk_alloc ?_ _)); exact BK294.out⟩, ⟨by (with_reducible repeat (first | refine blk_drewN ?_ _ | refine blk_drew ?_ | refine blk_alloc ?_ _)); exact BK295.out⟩, ⟨by repeat (first | (with_reducible first | exact HB.out | apply below_alloc | apply pw_below_drewN | apply below_drew1 | refine below_set ?_ GE294.out | refine below_set ?_ GE295.out) | exact HB.out)⟩⟩
    case rest =>
      clear HC11
      try clear c1
      try clear c2
      try clear p2
      try clear c3
      try clear c7
      try clear c12
      try clear c15
      try clear c23
      try clear c23b0
      try clear c24
      try clear c24b0
      try clear c25
      try clear c25b0
      try clear c26
      try clear c26b0
      try clear c27
      try clear c27b0
      try clear c28
      try clear c28b0
      try clear c29
      try clear c29b0
      try clear hcz16_0
      try clear hcz16_1
      try clear hcz17_0
      try clear hcz17_1
      try clear hcz19_0
      try clear hcz19_1
      try clear hcz21_0
      try clear hcz21_1
      try clear hfz16_0
      try clear hfz16_1
      try clear hfz17_0
      try clear hfz17_1
      try clear hfz19_0
      try clear hfz19_1
      try clear hfz21_0
      try clear hfz21_1
      obtain ⟨kq, x65_10, rfl, HA, HJ10, BK294, BK295, HB⟩ := hcut
      cases kq with
      | zero => exact absurd HA.out (by simp [valancelaw06_MarginRoom.j0])
      | succ kj10 =>
        have H := HA.out
        clear HA
        simp only [valancelaw06_MarginRoom.j0] at H
        by_cases c30 : x65_10 = true
        · subst c30
          have H1 : (some true) = some r := by rw [if_pos rfl] at H; exact H
          clear H
          have H := H1
          clear H1
          obtain rfl := Option.some.inj H
          go_wp2
          go_ret
          exact ⟨by first | rfl | (cases Option.some.inj (A48.out.symm.trans A32.out); rfl) | (cases Option.some.inj (A58.out.symm.trans A34.out); rfl) | (simp [errW_none, errW_some] <;> rfl) | (simp [*, errW_none, errW_some] <;> rfl), by repeat (first | (with_reducible first | exact HB.out | apply below_alloc | apply pw_below_drewN | apply below_drew1 | refine below_set ?_ GE294.out | refine below_set ?_ GE295.out) | exact HB.out)⟩
        · replace c30 := Bool.eq_false_iff.mpr c30
          subst c30
          have H1 : ((length_Fixed.f a2_0 a2_1 a4).bind fun t301 => (if t301 = true then ((length_Fixed.f a3_0 a3_1 a4).bind fun t302 => (valancelaw06_MarginRoom.j1 kj10 a0 a1 a4 true t297 t298 t299 t300 t302 a2_0 a2_1 a3_0 a3_1)) else (valancelaw06_MarginRoom.j1 kj10 a0 a1 a4 true t297 t298 t299 t300 false a2_0 a2_1 a3_0 a3_1))) = some r := by rw [if_neg (show ¬ (false = true) by decide)] at H; exact H
          clear H
          have H := H1
          clear H1
          have HC31 := Aside0.mk H
          clear H
          go_upto_region 9 with (fail)
          go_cut [16] (fun v16 wc => ∃ (kq : Nat) (x16_30 : Bool), v16 = .bool x16_30 ∧ Aside0 (valancelaw06_MarginRoom.j1 kq a0 a1 a4 true t297 t298 t299 t300 x16_30 a2_0 a2_1 a3_0 a3_1 = some r) ∧ Aside0 (kq ≤ kj10) ∧ Aside0 (wc.heap[gb294]? = some (.cells #[.int .i64 a2_0, .int .i64 a2_1] 51 (0, 0))) ∧ Aside0 (wc.heap[gb295]? = some (.cells #[.int .i64 a3_0, .int .i64 a3_1] 51 (0, 0))) ∧ Aside0 (Below w.heap.size w wc))
          case first =>
            have H := HC31.out
            clear HC31
            replace H := Option.bind_eq_some_iff.mp H
            obtain ⟨t301, A320, H⟩ := H
            replace H : (if t301 = true then ((length_Fixed.f a3_0 a3_1 a4).bind fun t302 => (valancelaw06_MarginRoom.j1 kj10 a0 a1 a4 true t297 t298 t299 t300 t302 a2_0 a2_1 a3_0 a3_1)) else (valancelaw06_MarginRoom.j1 kj10 a0 a1 a4 true t297 t298 t299 t300 false a2_0 a2_1 a3_0 a3_1)) = some r := H
            have A32 := Aside0.mk A320
            clear A320
            by_cases c33 : t301 = true
            · subst c33
              have H1 : ((length_Fixed.f a3_0 a3_1 a4).bind fun t302 => (valancelaw06_MarginRoom.j1 kj10 a0 a1 a4 true t297 t298 t299 t300 t302 a2_0 a2_1 a3_0 a3_1)) = some r := by rw [if_pos rfl] at H; exact H
              clear H
              have H := H1
              clear H1
              replace H := Option.bind_eq_some_iff.mp H
              obtain ⟨t302, A340, H⟩ := H
              replace H : (valancelaw06_MarginRoom.j1 kj10 a0 a1 a4 true t297 t298 t299 t300 t302 a2_0 a2_1 a3_0 a3_1) = some r := H
              have A34 := Aside0.mk A340
              clear A340
              have H' := Aside0.mk H
              clear H
              have hnb35 := NB294_295.out
              have hnc35 := NB295_294.out
              have hcz36_0 : wc.cell? ⟨gb294, 0, none⟩ = some (.int .i64 a2_0) := (blk_cell BK294.out 0).trans rfl
              have hcz36_1 : wc.cell? ⟨gb294, 1, none⟩ = some (.int .i64 a2_1) := (blk_cell BK294.out 1).trans rfl
              have hfz36_0 := blk_frozen BK294.out 0
              have hfz36_1 := blk_frozen BK294.out 1
              go_wp2_with (first | ((with_reducible refine gate_callee (f := 35) rfl ?_); refine goesL_ (some 69) rfl rfl Try.func35 (by kernel_rfl) rfl #[.agg #[.int .i64 a2_0, .int .i64 a2_1], .int .i64 a4] rfl (by (try simp only [List.map_toArray, List.map_cons, List.map_nil]); first | done | rfl | (simp only [List.length_drop, List.length_take]; rfl)) ?_; (with_reducible refine (length_Fixed.calls a2_0 a2_1 a4 true _ A32.out).mono ?_); rintro e w37 ⟨rfl, hb⟩; refine ⟨_, rfl, ?_⟩; have n0_ := Aside0.mk (blk_below (g := gb294) (o := .cells #[.int .i64 a2_0, .int .i64 a2_1] 51 (0, 0)) (by (with_reducible repeat (first | refine blk_drewN ?_ _ | refine blk_drew ?_ | refine blk_alloc ?_ _)); exact BK294.out) hb); have n1_ := Aside0.mk (blk_below (g := gb295) (o := .cells #[.int .i64 a3_0, .int .i64 a3_1] 51 (0, 0)) (by (with_reducible repeat (first | refine blk_drewN ?_ _ | refine blk_drew ?_ | refine blk_alloc ?_ _)); exact BK295.out) hb); have n2_ := Aside0.mk (below_step (by repeat (first | (with_reducible first | exact HB.out | apply below_alloc | apply pw_below_drewN | apply below_drew1 | refine below_set ?_ GE294.out | refine below_set ?_ GE295.out) | exact HB.out)) hb); clear BK294; clear BK295; clear HB; have BK294 := n0_; have BK295 := n1_; have HB := n2_; clear n0_ n1_ n2_; (try clear hb); (try clear hb2); (try clear hk); (try clear hi); have hcz38_0 : w37.cell? ⟨gb295, 0, none⟩ = some (.int .i64 a3_0) := (blk_cell BK295.out 0).trans rfl; have hcz38_1 : w37.cell? ⟨gb295, 1, none⟩ = some (.int .i64 a3_1) := (blk_cell BK295.out 1).trans rfl; have hfz38_0 := blk_frozen BK295.out 0; have hfz38_1 := blk_frozen BK295.out 1) | (go_at_call 35; (with_reducible refine (length_Fixed.calls a3_0 a3_1 a4 t302 _ A34.out).mono ?_); rintro e w39 ⟨rfl, hb⟩; have n0_ := Aside0.mk (blk_below (g := gb294) (o := .cells #[.int .i64 a2_0, .int .i64 a2_1] 51 (0, 0)) (by (with_reducible repeat (first | refine blk_drewN ?_ _ | refine blk_drew ?_ | refine blk_alloc ?_ _)); exact BK294.out) hb); have n1_ := Aside0.mk (blk_below (g := gb295) (o := .cells #[.int .i64 a3_0, .int .i64 a3_1] 51 (0, 0)) (by (with_reducible repeat (first | refine blk_drewN ?_ _ | refine blk_drew ?_ | refine blk_alloc ?_ _)); exact BK295.out) hb); have n2_ := Aside0.mk (below_step (by repeat (first | (with_reducible first | exact HB.out | apply below_alloc | apply pw_below_drewN | apply below_drew1 | refine below_set ?_ GE294.out | refine below_set ?_ GE295.out) | exact HB.out)) hb); clear BK294; clear BK295; clear HB; have BK294 := n0_; have BK295 := n1_; have HB := n2_; clear n0_ n1_ n2_; (try clear hb); (try clear hb2); (try clear hk); (try clear hi)))
              go_meet
              case rel => exact ⟨_, (t302), (by first | rfl | (simp; done) | (simp [*]; done)), H', ⟨by have := HJ10.out; first | omega | exact Nat.le_refl _⟩, ⟨by (with_reducible repeat (first | refine blk_drewN ?_ _ | refine blk_drew ?_ | refine blk_alloc ?_ _)); exact BK294.out⟩, ⟨by (with_reducible repeat (first | refine blk_drewN ?_ _ | refine blk_drew ?_ | refine blk_alloc ?_ _)); exact BK295.out⟩, ⟨by repeat (first | (with_reducible first | exact HB.out | apply below_alloc | apply pw_below_drewN | apply below_drew1 | refine below_set ?_ GE294.out | refine below_set ?_ GE295.out) | exact HB.out)⟩⟩
            · replace c33 := Bool.eq_false_iff.mpr c33
              subst c33
              have H1 : (valancelaw06_MarginRoom.j1 kj10 a0 a1 a4 true t297 t298 t299 t300 false a2_0 a2_1 a3_0 a3_1) = some r := by rw [if_neg (show ¬ (false = true) by decide)] at H; exact H
              clear H
              have H := H1
              clear H1
              have H' := Aside0.mk H
              clear H
              have hnb40 := NB294_295.out
              have hnc40 := NB295_294.out
              have hcz41_0 : wc.cell? ⟨gb294, 0, none⟩ = some (.int .i64 a2_0) := (blk_cell BK294.out 0).trans rfl
              have hcz41_1 : wc.cell? ⟨gb294, 1, none⟩ = some (.int .i64 a2_1) := (blk_cell BK294.out 1).trans rfl
              have hfz41_0 := blk_frozen BK294.out 0
              have hfz41_1 := blk_frozen BK294.out 1
              go_wp2_with (first | ((with_reducible refine gate_callee (f := 35) rfl ?_); refine goesL_ (some 69) rfl rfl Try.func35 (by kernel_rfl) rfl #[.agg #[.int .i64 a2_0, .int .i64 a2_1], .int .i64 a4] rfl (by (try simp only [List.map_toArray, List.map_cons, List.map_nil]); first | done | rfl | (simp only [List.length_drop, List.length_take]; rfl)) ?_; (with_reducible refine (length_Fixed.calls a2_0 a2_1 a4 false _ A32.out).mono ?_); rintro e w42 ⟨rfl, hb⟩; refine ⟨_, rfl, ?_⟩; have n0_ := Aside0.mk (blk_below (g := gb294) (o := .cells #[.int .i64 a2_0, .int .i64 a2_1] 51 (0, 0)) (by (with_reducible repeat (first | refine blk_drewN ?_ _ | refine blk_drew ?_ | refine blk_alloc ?_ _)); exact BK294.out) hb); have n1_ := Aside0.mk (blk_below (g := gb295) (o := .cells #[.int .i64 a3_0, .int .i64 a3_1] 51 (0, 0)) (by (with_reducible repeat (first | refine blk_drewN ?_ _ | refine blk_drew ?_ | refine blk_alloc ?_ _)); exact BK295.out) hb); have n2_ := Aside0.mk (below_step (by repeat (first | (with_reducible first | exact HB.out | apply below_alloc | apply pw_below_drewN | apply below_drew1 | refine below_set ?_ GE294.out | refine below_set ?_ GE295.out) | exact HB.out)) hb); clear BK294; clear BK295; clear HB; have BK294 := n0_; have BK295 := n1_; have HB := n2_; clear n0_ n1_ n2_; (try clear hb); (try clear hb2); (try clear hk); (try clear hi)))
              go_meet
              case rel => exact ⟨_, (false), (by first | rfl | (simp; done) | (simp [*]; done)), H', ⟨by have := HJ10.out; first | omega | exact Nat.le_refl _⟩, ⟨by (with_reducible repeat (first | refine blk_drewN ?_ _ | refine blk_drew ?_ | refine blk_alloc ?_ _)); exact BK294.out⟩, ⟨by (with_reducible repeat (first | refine blk_drewN ?_ _ | refine blk_drew ?_ | refine blk_alloc ?_ _)); exact BK295.out⟩, ⟨by repeat (first | (with_reducible first | exact HB.out | apply below_alloc | apply pw_below_drewN | apply below_drew1 | refine below_set ?_ GE294.out | refine below_set ?_ GE295.out) | exact HB.out)⟩⟩
          case rest =>
            clear HC31
            try clear c1
            try clear c2
            try clear p2
            try clear c3
            try clear c4
            try clear c7
            try clear c12
            try clear c15
            try clear c23
            try clear c23b0
            try clear c24
            try clear c24b0
            try clear c25
            try clear c25b0
            try clear c26
            try clear c26b0
            try clear c27
            try clear c27b0
            try clear c28
            try clear c28b0
            try clear c29
            try clear c29b0
            try clear c30
            try clear c33
            try clear c34
            try clear c35
            try clear c40
            try clear hcz16_0
            try clear hcz16_1
            try clear hcz17_0
            try clear hcz17_1
            try clear hcz19_0
            try clear hcz19_1
            try clear hcz21_0
            try clear hcz21_1
            try clear hcz36_0
            try clear hcz36_1
            try clear hcz38_0
            try clear hcz38_1
            try clear hcz41_0
            try clear hcz41_1
            try clear hfz16_0
            try clear hfz16_1
            try clear hfz17_0
            try clear hfz17_1
            try clear hfz19_0
            try clear hfz19_1
            try clear hfz21_0
            try clear hfz21_1
            try clear hfz36_0
            try clear hfz36_1
            try clear hfz38_0
            try clear hfz38_1
            try clear hfz41_0
            try clear hfz41_1
            try clear p2
            obtain ⟨kq, x16_30, rfl, HA, HJ30, BK294, BK295, HB⟩ := hcut
            cases kq with
            | zero => exact absurd HA.out (by simp [valancelaw06_MarginRoom.j1])
            | succ kj30 =>
              have H := HA.out
              clear HA
              simp only [valancelaw06_MarginRoom.j1] at H
              have HC43 := Aside0.mk H
              clear H
              go_upto_region 10 with (fail)
              go_cut [84] (fun v84 wc => ∃ (kq : Nat) (x84_42 : Bool), v84 = .bool x84_42 ∧ Aside0 (valancelaw06_MarginRoom.j2 kq a0 a1 a4 true t297 t298 t299 t300 x84_42 a2_0 a2_1 a3_0 a3_1 = some r) ∧ Aside0 (kq ≤ kj30) ∧ Aside0 (wc.heap[gb294]? = some (.cells #[.int .i64 a2_0, .int .i64 a2_1] 51 (0, 0))) ∧ Aside0 (wc.heap[gb295]? = some (.cells #[.int .i64 a3_0, .int .i64 a3_1] 51 (0, 0))) ∧ Aside0 (Below w.heap.size w wc))
              case first =>
                have H := HC43.out
                clear HC43
                by_cases c44 : x16_30 = true
                · subst c44
                  have H1 : (valancelaw06_MarginRoom.j2 kj30 a0 a1 a4 true t297 t298 t299 t300 true a2_0 a2_1 a3_0 a3_1) = some r := by rw [if_pos rfl] at H; exact H
                  clear H
                  have H := H1
                  clear H1
                  have H' := Aside0.mk H
                  clear H
                  go_wp2
                  go_meet
                  case rel => exact ⟨_, (true), (by first | rfl | (simp; done) | (simp [*]; done)), H', ⟨by have := HJ10.out; have := HJ30.out; first | omega | exact Nat.le_refl _⟩, ⟨by (with_reducible repeat (first | refine blk_drewN ?_ _ | refine blk_drew ?_ | refine blk_alloc ?_ _)); exact BK294.out⟩, ⟨by (with_reducible repeat (first | refine blk_drewN ?_ _ | refine blk_drew ?_ | refine blk_alloc ?_ _)); exact BK295.out⟩, ⟨by repeat (first | (with_reducible first | exact HB.out | apply below_alloc | apply pw_below_drewN | apply below_drew1 | refine below_set ?_ GE294.out | refine below_set ?_ GE295.out) | exact HB.out)⟩⟩
                · replace c44 := Bool.eq_false_iff.mpr c44
                  subst c44
                  have H1 : (valancelaw06_MarginRoom.j2 kj30 a0 a1 a4 true t297 t298 t299 t300 (decide ((wrap64 ((wrap64 (a1 + t299)) + t300)) ≥ a0)) a2_0 a2_1 a3_0 a3_1) = some r := by rw [if_neg (show ¬ (false = true) by decide)] at H; exact H
                  clear H
                  have H := H1
                  clear H1
                  have H' := Aside0.mk H
                  clear H
                  go_wp2
                  go_meet
                  case rel => exact ⟨_, (decide ((wrap64 ((wrap64 (a1 + t299)) + t300)) ≥ a0)), (by first | rfl | (simp; done) | (simp [*]; done)), H', ⟨by have := HJ10.out; have := HJ30.out; first | omega | exact Nat.le_refl _⟩, ⟨by (with_reducible repeat (first | refine blk_drewN ?_ _ | refine blk_drew ?_ | refine blk_alloc ?_ _)); exact BK294.out⟩, ⟨by (with_reducible repeat (first | refine blk_drewN ?_ _ | refine blk_drew ?_ | refine blk_alloc ?_ _)); exact BK295.out⟩, ⟨by repeat (first | (with_reducible first | exact HB.out | apply below_alloc | apply pw_below_drewN | apply below_drew1 | refine below_set ?_ GE294.out | refine below_set ?_ GE295.out) | exact HB.out)⟩⟩
              case rest =>
                clear HC43
                try clear c1
                try clear c2
                try clear p2
                try clear c3
                try clear c4
                try clear p6
                try clear c7
                try clear c12
                try clear c15
                try clear c23
                try clear c23b0
                try clear c24
                try clear c24b0
                try clear c25
                try clear c25b0
                try clear c26
                try clear c26b0
                try clear c27
                try clear c27b0
                try clear c28
                try clear c28b0
                try clear c29
                try clear c29b0
                try clear c30
                try clear c33
                try clear c34
                try clear c35
                try clear c40
                try clear c44
                try clear hcz16_0
                try clear hcz16_1
                try clear hcz17_0
                try clear hcz17_1
                try clear hcz19_0
                try clear hcz19_1
                try clear hcz21_0
                try clear hcz21_1
                try clear hcz36_0
                try clear hcz36_1
                try clear hcz38_0
                try clear hcz38_1
                try clear hcz41_0
                try clear hcz41_1
                try clear hfz16_0
                try clear hfz16_1
                try clear hfz17_0
                try clear hfz17_1
                try clear hfz19_0
                try clear hfz19_1
                try clear hfz21_0
                try clear hfz21_1
                try clear hfz36_0
                try clear hfz36_1
                try clear hfz38_0
                try clear hfz38_1
                try clear hfz41_0
                try clear hfz41_1
                try clear p2
                obtain ⟨kq, x84_42, rfl, HA, HJ42, BK294, BK295, HB⟩ := hcut
                cases kq with
                | zero => exact absurd HA.out (by simp [valancelaw06_MarginRoom.j2])
                | succ kj42 =>
                  have H := HA.out
                  clear HA
                  simp only [valancelaw06_MarginRoom.j2] at H
                  by_cases c45 : x84_42 = true
                  · subst c45
                    have H1 : (if true = true then (if t297 = t299 then (some (t298 == t300)) else (none)) else (none)) = some r := by rw [if_pos rfl] at H; exact H
                    clear H
                    have H := H1
                    clear H1
                    by_cases c46 : true = true
                    · clear c46
                      have H1 : (if t297 = t299 then (some (t298 == t300)) else (none)) = some r := by first | (rw [if_pos rfl] at H; exact H) | (rw [if_pos True.intro] at H; exact H)
                      clear H
                      have H := H1
                      clear H1
                      by_cases c47 : t297 = t299
                      · rw [if_pos c47] at H
                        have c47b0 : (t297 == t299) = true := beq_iff_eq.mpr c47
                        have c47b1 : (t297 != t299) = false := bne_eq_false_iff_eq.mpr c47
                        clear c47
                        obtain rfl := Option.some.inj H
                        go_wp2
                        go_ret
                        exact ⟨by first | rfl | (cases Option.some.inj (A48.out.symm.trans A32.out); rfl) | (cases Option.some.inj (A58.out.symm.trans A34.out); rfl) | (simp [errW_none, errW_some] <;> rfl) | (simp [*, errW_none, errW_some] <;> rfl), by repeat (first | (with_reducible first | exact HB.out | apply below_alloc | apply pw_below_drewN | apply below_drew1 | refine below_set ?_ GE294.out | refine below_set ?_ GE295.out) | exact HB.out)⟩
                      · rw [if_neg c47] at H
                        exact absurd H (by simp)
                    · exact absurd rfl c46
                  · replace c45 := Bool.eq_false_iff.mpr c45
                    subst c45
                    have H1 : ((length_Fixed.f a2_0 a2_1 a4).bind fun t303 => (if t303 = true then (if true = true then (if (wrap64 ((wrap64 (a1 + t297)) + t298)) = a0 then (if t297 ≥ (mn t299 0) then (some (decide (t298 ≥ (mn t300 0)))) else (none)) else (none)) else (none)) else ((length_Fixed.f a3_0 a3_1 a4).bind fun t304 => (if t304 = true then (if true = true then (if (wrap64 ((wrap64 (a1 + t297)) + t298)) = a0 then (if t297 ≥ (mn t299 0) then (some (decide (t298 ≥ (mn t300 0)))) else (none)) else (none)) else (none)) else (if (wrap64 (t298 - t297)) ≤ 1 then (if true = true then (if (wrap64 ((wrap64 (a1 + t297)) + t298)) = a0 then (if t298 ≥ t297 then (if t297 ≥ (mn t299 0) then (some (decide (t298 ≥ (mn t300 0)))) else (none)) else (none)) else (none)) else (none)) else (none)))))) = some r := by rw [if_neg (show ¬ (false = true) by decide)] at H; exact H
                    clear H
                    have H := H1
                    clear H1
                    replace H := Option.bind_eq_some_iff.mp H
                    obtain ⟨t303, A480, H⟩ := H
                    replace H : (if t303 = true then (if true = true then (if (wrap64 ((wrap64 (a1 + t297)) + t298)) = a0 then (if t297 ≥ (mn t299 0) then (some (decide (t298 ≥ (mn t300 0)))) else (none)) else (none)) else (none)) else ((length_Fixed.f a3_0 a3_1 a4).bind fun t304 => (if t304 = true then (if true = true then (if (wrap64 ((wrap64 (a1 + t297)) + t298)) = a0 then (if t297 ≥ (mn t299 0) then (some (decide (t298 ≥ (mn t300 0)))) else (none)) else (none)) else (none)) else (if (wrap64 (t298 - t297)) ≤ 1 then (if true = true then (if (wrap64 ((wrap64 (a1 + t297)) + t298)) = a0 then (if t298 ≥ t297 then (if t297 ≥ (mn t299 0) then (some (decide (t298 ≥ (mn t300 0)))) else (none)) else (none)) else (none)) else (none)) else (none))))) = some r := H
                    have A48 := Aside0.mk A480
                    clear A480
                    by_cases c49 : t303 = true
                    · subst c49
                      have H1 : (if true = true then (if (wrap64 ((wrap64 (a1 + t297)) + t298)) = a0 then (if t297 ≥ (mn t299 0) then (some (decide (t298 ≥ (mn t300 0)))) else (none)) else (none)) else (none)) = some r := by rw [if_pos rfl] at H; exact H
                      clear H
                      have H := H1
                      clear H1
                      by_cases c50 : true = true
                      · clear c50
                        have H1 : (if (wrap64 ((wrap64 (a1 + t297)) + t298)) = a0 then (if t297 ≥ (mn t299 0) then (some (decide (t298 ≥ (mn t300 0)))) else (none)) else (none)) = some r := by first | (rw [if_pos rfl] at H; exact H) | (rw [if_pos True.intro] at H; exact H)
                        clear H
                        have H := H1
                        clear H1
                        by_cases c51 : (wrap64 ((wrap64 (a1 + t297)) + t298)) = a0
                        · rw [if_pos c51] at H
                          have c51b0 : ((wrap64 ((wrap64 (a1 + t297)) + t298)) == a0) = true := beq_iff_eq.mpr c51
                          have c51b1 : ((wrap64 ((wrap64 (a1 + t297)) + t298)) != a0) = false := bne_eq_false_iff_eq.mpr c51
                          clear c51
                          obtain ⟨ji52, hji52⟩ : ∃ j_ : Int, (mn t299 0) = j_ := ⟨_, rfl⟩
                          replace H : (if t297 ≥ (ji52) then (some (decide (t298 ≥ (mn t300 0)))) else (none)) = some r := by first | (rw [hji52] at H; exact H) | (simp only [hji52] at H ⊢; exact H)
                          (try rw [hji52] at A48)
                          have hji52_ : (if 0 < t299 then 0 else t299) = ji52 := hji52
                          by_cases c53 : t297 ≥ (ji52)
                          · rw [if_pos c53] at H
                            have c53b0 : decide ((ji52) ≤ t297) = true := decide_eq_true c53
                            clear c53
                            obtain ⟨ji54, hji54⟩ : ∃ j_ : Int, (mn t300 0) = j_ := ⟨_, rfl⟩
                            replace H : (some (decide (t298 ≥ (ji54)))) = some r := by first | (rw [hji54] at H; exact H) | (simp only [hji54] at H ⊢; exact H)
                            (try rw [hji54] at A48)
                            have hji54_ : (if 0 < t300 then 0 else t300) = ji54 := hji54
                            obtain rfl := Option.some.inj H
                            have hnb55 := NB294_295.out
                            have hnc55 := NB295_294.out
                            have hcz56_0 : wc.cell? ⟨gb294, 0, none⟩ = some (.int .i64 a2_0) := (blk_cell BK294.out 0).trans rfl
                            have hcz56_1 : wc.cell? ⟨gb294, 1, none⟩ = some (.int .i64 a2_1) := (blk_cell BK294.out 1).trans rfl
                            have hfz56_0 := blk_frozen BK294.out 0
                            have hfz56_1 := blk_frozen BK294.out 1
                            go_wp2_with (first | ((with_reducible refine gate_callee (f := 35) rfl ?_); refine goesL_ (some 98) rfl rfl Try.func35 (by kernel_rfl) rfl #[.agg #[.int .i64 a2_0, .int .i64 a2_1], .int .i64 a4] rfl (by (try simp only [List.map_toArray, List.map_cons, List.map_nil]); first | done | rfl | (simp only [List.length_drop, List.length_take]; rfl)) ?_; (with_reducible refine (length_Fixed.calls a2_0 a2_1 a4 true _ A48.out).mono ?_); rintro e w57 ⟨rfl, hb⟩; refine ⟨_, rfl, ?_⟩; have n0_ := Aside0.mk (blk_below (g := gb294) (o := .cells #[.int .i64 a2_0, .int .i64 a2_1] 51 (0, 0)) (by (with_reducible repeat (first | refine blk_drewN ?_ _ | refine blk_drew ?_ | refine blk_alloc ?_ _)); exact BK294.out) hb); have n1_ := Aside0.mk (blk_below (g := gb295) (o := .cells #[.int .i64 a3_0, .int .i64 a3_1] 51 (0, 0)) (by (with_reducible repeat (first | refine blk_drewN ?_ _ | refine blk_drew ?_ | refine blk_alloc ?_ _)); exact BK295.out) hb); have n2_ := Aside0.mk (below_step (by repeat (first | (with_reducible first | exact HB.out | apply below_alloc | apply pw_below_drewN | apply below_drew1 | refine below_set ?_ GE294.out | refine below_set ?_ GE295.out) | exact HB.out)) hb); clear BK294; clear BK295; clear HB; have BK294 := n0_; have BK295 := n1_; have HB := n2_; clear n0_ n1_ n2_; (try clear hb); (try clear hb2); (try clear hk); (try clear hi)))
                            go_ret
                            exact ⟨by first | rfl | (cases Option.some.inj (A48.out.symm.trans A32.out); rfl) | (cases Option.some.inj (A58.out.symm.trans A34.out); rfl) | (simp [errW_none, errW_some] <;> rfl) | (simp only [← hji52, ← hji54]; first | rfl | (simp [errW_none, errW_some] <;> rfl)) | (simp [*, errW_none, errW_some] <;> rfl), by repeat (first | (with_reducible first | exact HB.out | apply below_alloc | apply pw_below_drewN | apply below_drew1 | refine below_set ?_ GE294.out | refine below_set ?_ GE295.out) | exact HB.out)⟩
                          · rw [if_neg c53] at H
                            exact absurd H (by simp)
                        · rw [if_neg c51] at H
                          exact absurd H (by simp)
                      · exact absurd rfl c50
                    · replace c49 := Bool.eq_false_iff.mpr c49
                      subst c49
                      have H1 : ((length_Fixed.f a3_0 a3_1 a4).bind fun t304 => (if t304 = true then (if true = true then (if (wrap64 ((wrap64 (a1 + t297)) + t298)) = a0 then (if t297 ≥ (mn t299 0) then (some (decide (t298 ≥ (mn t300 0)))) else (none)) else (none)) else (none)) else (if (wrap64 (t298 - t297)) ≤ 1 then (if true = true then (if (wrap64 ((wrap64 (a1 + t297)) + t298)) = a0 then (if t298 ≥ t297 then (if t297 ≥ (mn t299 0) then (some (decide (t298 ≥ (mn t300 0)))) else (none)) else (none)) else (none)) else (none)) else (none)))) = some r := by rw [if_neg (show ¬ (false = true) by decide)] at H; exact H
                      clear H
                      have H := H1
                      clear H1
                      replace H := Option.bind_eq_some_iff.mp H
                      obtain ⟨t304, A580, H⟩ := H
                      replace H : (if t304 = true then (if true = true then (if (wrap64 ((wrap64 (a1 + t297)) + t298)) = a0 then (if t297 ≥ (mn t299 0) then (some (decide (t298 ≥ (mn t300 0)))) else (none)) else (none)) else (none)) else (if (wrap64 (t298 - t297)) ≤ 1 then (if true = true then (if (wrap64 ((wrap64 (a1 + t297)) + t298)) = a0 then (if t298 ≥ t297 then (if t297 ≥ (mn t299 0) then (some (decide (t298 ≥ (mn t300 0)))) else (none)) else (none)) else (none)) else (none)) else (none))) = some r := H
                      have A58 := Aside0.mk A580
                      clear A580
                      by_cases c59 : t304 = true
                      · subst c59
                        have H1 : (if true = true then (if (wrap64 ((wrap64 (a1 + t297)) + t298)) = a0 then (if t297 ≥ (mn t299 0) then (some (decide (t298 ≥ (mn t300 0)))) else (none)) else (none)) else (none)) = some r := by rw [if_pos rfl] at H; exact H
                        clear H
                        have H := H1
                        clear H1
                        by_cases c60 : true = true
                        · clear c60
                          have H1 : (if (wrap64 ((wrap64 (a1 + t297)) + t298)) = a0 then (if t297 ≥ (mn t299 0) then (some (decide (t298 ≥ (mn t300 0)))) else (none)) else (none)) = some r := by first | (rw [if_pos rfl] at H; exact H) | (rw [if_pos True.intro] at H; exact H)
                          clear H
                          have H := H1
                          clear H1
                          by_cases c61 : (wrap64 ((wrap64 (a1 + t297)) + t298)) = a0
                          · rw [if_pos c61] at H
                            have c61b0 : ((wrap64 ((wrap64 (a1 + t297)) + t298)) == a0) = true := beq_iff_eq.mpr c61
                            have c61b1 : ((wrap64 ((wrap64 (a1 + t297)) + t298)) != a0) = false := bne_eq_false_iff_eq.mpr c61
                            clear c61
                            obtain ⟨ji62, hji62⟩ : ∃ j_ : Int, (mn t299 0) = j_ := ⟨_, rfl⟩
                            replace H : (if t297 ≥ (ji62) then (some (decide (t298 ≥ (mn t300 0)))) else (none)) = some r := by first | (rw [hji62] at H; exact H) | (simp only [hji62] at H ⊢; exact H)
                            (try rw [hji62] at A48)
                            (try rw [hji62] at A58)
                            have hji62_ : (if 0 < t299 then 0 else t299) = ji62 := hji62
                            by_cases c63 : t297 ≥ (ji62)
                            · rw [if_pos c63] at H
                              have c63b0 : decide ((ji62) ≤ t297) = true := decide_eq_true c63
                              clear c63
                              obtain ⟨ji64, hji64⟩ : ∃ j_ : Int, (mn t300 0) = j_ := ⟨_, rfl⟩
                              replace H : (some (decide (t298 ≥ (ji64)))) = some r := by first | (rw [hji64] at H; exact H) | (simp only [hji64] at H ⊢; exact H)
                              (try rw [hji64] at A48)
                              (try rw [hji64] at A58)
                              have hji64_ : (if 0 < t300 then 0 else t300) = ji64 := hji64
                              obtain rfl := Option.some.inj H
                              have hnb65 := NB294_295.out
                              have hnc65 := NB295_294.out
                              have hcz66_0 : wc.cell? ⟨gb294, 0, none⟩ = some (.int .i64 a2_0) := (blk_cell BK294.out 0).trans rfl
                              have hcz66_1 : wc.cell? ⟨gb294, 1, none⟩ = some (.int .i64 a2_1) := (blk_cell BK294.out 1).trans rfl
                              have hfz66_0 := blk_frozen BK294.out 0
                              have hfz66_1 := blk_frozen BK294.out 1
                              go_wp2_with (first | ((with_reducible refine gate_callee (f := 35) rfl ?_); refine goesL_ (some 98) rfl rfl Try.func35 (by kernel_rfl) rfl #[.agg #[.int .i64 a2_0, .int .i64 a2_1], .int .i64 a4] rfl (by (try simp only [List.map_toArray, List.map_cons, List.map_nil]); first | done | rfl | (simp only [List.length_drop, List.length_take]; rfl)) ?_; (with_reducible refine (length_Fixed.calls a2_0 a2_1 a4 false _ A48.out).mono ?_); rintro e w67 ⟨rfl, hb⟩; refine ⟨_, rfl, ?_⟩; have n0_ := Aside0.mk (blk_below (g := gb294) (o := .cells #[.int .i64 a2_0, .int .i64 a2_1] 51 (0, 0)) (by (with_reducible repeat (first | refine blk_drewN ?_ _ | refine blk_drew ?_ | refine blk_alloc ?_ _)); exact BK294.out) hb); have n1_ := Aside0.mk (blk_below (g := gb295) (o := .cells #[.int .i64 a3_0, .int .i64 a3_1] 51 (0, 0)) (by (with_reducible repeat (first | refine blk_drewN ?_ _ | refine blk_drew ?_ | refine blk_alloc ?_ _)); exact BK295.out) hb); have n2_ := Aside0.mk (below_step (by repeat (first | (with_reducible first | exact HB.out | apply below_alloc | apply pw_below_drewN | apply below_drew1 | refine below_set ?_ GE294.out | refine below_set ?_ GE295.out) | exact HB.out)) hb); clear BK294; clear BK295; clear HB; have BK294 := n0_; have BK295 := n1_; have HB := n2_; clear n0_ n1_ n2_; (try clear hb); (try clear hb2); (try clear hk); (try clear hi); have hcz68_0 : w67.cell? ⟨gb295, 0, none⟩ = some (.int .i64 a3_0) := (blk_cell BK295.out 0).trans rfl; have hcz68_1 : w67.cell? ⟨gb295, 1, none⟩ = some (.int .i64 a3_1) := (blk_cell BK295.out 1).trans rfl; have hfz68_0 := blk_frozen BK295.out 0; have hfz68_1 := blk_frozen BK295.out 1) | (go_at_call 35; (with_reducible refine (length_Fixed.calls a3_0 a3_1 a4 true _ A58.out).mono ?_); rintro e w69 ⟨rfl, hb⟩; have n0_ := Aside0.mk (blk_below (g := gb294) (o := .cells #[.int .i64 a2_0, .int .i64 a2_1] 51 (0, 0)) (by (with_reducible repeat (first | refine blk_drewN ?_ _ | refine blk_drew ?_ | refine blk_alloc ?_ _)); exact BK294.out) hb); have n1_ := Aside0.mk (blk_below (g := gb295) (o := .cells #[.int .i64 a3_0, .int .i64 a3_1] 51 (0, 0)) (by (with_reducible repeat (first | refine blk_drewN ?_ _ | refine blk_drew ?_ | refine blk_alloc ?_ _)); exact BK295.out) hb); have n2_ := Aside0.mk (below_step (by repeat (first | (with_reducible first | exact HB.out | apply below_alloc | apply pw_below_drewN | apply below_drew1 | refine below_set ?_ GE294.out | refine below_set ?_ GE295.out) | exact HB.out)) hb); clear BK294; clear BK295; clear HB; have BK294 := n0_; have BK295 := n1_; have HB := n2_; clear n0_ n1_ n2_; (try clear hb); (try clear hb2); (try clear hk); (try clear hi)))
                              go_ret
                              exact ⟨by first | rfl | (cases Option.some.inj (A48.out.symm.trans A32.out); rfl) | (cases Option.some.inj (A58.out.symm.trans A34.out); rfl) | (simp [errW_none, errW_some] <;> rfl) | (simp only [← hji62, ← hji64]; first | rfl | (simp [errW_none, errW_some] <;> rfl)) | (simp [*, errW_none, errW_some] <;> rfl), by repeat (first | (with_reducible first | exact HB.out | apply below_alloc | apply pw_below_drewN | apply below_drew1 | refine below_set ?_ GE294.out | refine below_set ?_ GE295.out) | exact HB.out)⟩
                            · rw [if_neg c63] at H
                              exact absurd H (by simp)
                          · rw [if_neg c61] at H
                            exact absurd H (by simp)
                        · exact absurd rfl c60
                      · replace c59 := Bool.eq_false_iff.mpr c59
                        subst c59
                        have H1 : (if (wrap64 (t298 - t297)) ≤ 1 then (if true = true then (if (wrap64 ((wrap64 (a1 + t297)) + t298)) = a0 then (if t298 ≥ t297 then (if t297 ≥ (mn t299 0) then (some (decide (t298 ≥ (mn t300 0)))) else (none)) else (none)) else (none)) else (none)) else (none)) = some r := by rw [if_neg (show ¬ (false = true) by decide)] at H; exact H
                        clear H
                        have H := H1
                        clear H1
                        by_cases c70 : (wrap64 (t298 - t297)) ≤ 1
                        · rw [if_pos c70] at H
                          have c70b0 : decide ((wrap64 (t298 - t297)) ≤ 1) = true := decide_eq_true c70
                          clear c70
                          by_cases c71 : true = true
                          · clear c71
                            have H1 : (if (wrap64 ((wrap64 (a1 + t297)) + t298)) = a0 then (if t298 ≥ t297 then (if t297 ≥ (mn t299 0) then (some (decide (t298 ≥ (mn t300 0)))) else (none)) else (none)) else (none)) = some r := by first | (rw [if_pos rfl] at H; exact H) | (rw [if_pos True.intro] at H; exact H)
                            clear H
                            have H := H1
                            clear H1
                            by_cases c72 : (wrap64 ((wrap64 (a1 + t297)) + t298)) = a0
                            · rw [if_pos c72] at H
                              have c72b0 : ((wrap64 ((wrap64 (a1 + t297)) + t298)) == a0) = true := beq_iff_eq.mpr c72
                              have c72b1 : ((wrap64 ((wrap64 (a1 + t297)) + t298)) != a0) = false := bne_eq_false_iff_eq.mpr c72
                              clear c72
                              by_cases c73 : t298 ≥ t297
                              · rw [if_pos c73] at H
                                have c73b0 : decide (t297 ≤ t298) = true := decide_eq_true c73
                                clear c73
                                obtain ⟨ji74, hji74⟩ : ∃ j_ : Int, (mn t299 0) = j_ := ⟨_, rfl⟩
                                replace H : (if t297 ≥ (ji74) then (some (decide (t298 ≥ (mn t300 0)))) else (none)) = some r := by first | (rw [hji74] at H; exact H) | (simp only [hji74] at H ⊢; exact H)
                                (try rw [hji74] at A48)
                                (try rw [hji74] at A58)
                                have hji74_ : (if 0 < t299 then 0 else t299) = ji74 := hji74
                                by_cases c75 : t297 ≥ (ji74)
                                · rw [if_pos c75] at H
                                  have c75b0 : decide ((ji74) ≤ t297) = true := decide_eq_true c75
                                  clear c75
                                  obtain ⟨ji76, hji76⟩ : ∃ j_ : Int, (mn t300 0) = j_ := ⟨_, rfl⟩
                                  replace H : (some (decide (t298 ≥ (ji76)))) = some r := by first | (rw [hji76] at H; exact H) | (simp only [hji76] at H ⊢; exact H)
                                  (try rw [hji76] at A48)
                                  (try rw [hji76] at A58)
                                  have hji76_ : (if 0 < t300 then 0 else t300) = ji76 := hji76
                                  obtain rfl := Option.some.inj H
                                  have hnb77 := NB294_295.out
                                  have hnc77 := NB295_294.out
                                  have hcz78_0 : wc.cell? ⟨gb294, 0, none⟩ = some (.int .i64 a2_0) := (blk_cell BK294.out 0).trans rfl
                                  have hcz78_1 : wc.cell? ⟨gb294, 1, none⟩ = some (.int .i64 a2_1) := (blk_cell BK294.out 1).trans rfl
                                  have hfz78_0 := blk_frozen BK294.out 0
                                  have hfz78_1 := blk_frozen BK294.out 1
                                  go_wp2_with (first | ((with_reducible refine gate_callee (f := 35) rfl ?_); refine goesL_ (some 98) rfl rfl Try.func35 (by kernel_rfl) rfl #[.agg #[.int .i64 a2_0, .int .i64 a2_1], .int .i64 a4] rfl (by (try simp only [List.map_toArray, List.map_cons, List.map_nil]); first | done | rfl | (simp only [List.length_drop, List.length_take]; rfl)) ?_; (with_reducible refine (length_Fixed.calls a2_0 a2_1 a4 false _ A48.out).mono ?_); rintro e w79 ⟨rfl, hb⟩; refine ⟨_, rfl, ?_⟩; have n0_ := Aside0.mk (blk_below (g := gb294) (o := .cells #[.int .i64 a2_0, .int .i64 a2_1] 51 (0, 0)) (by (with_reducible repeat (first | refine blk_drewN ?_ _ | refine blk_drew ?_ | refine blk_alloc ?_ _)); exact BK294.out) hb); have n1_ := Aside0.mk (blk_below (g := gb295) (o := .cells #[.int .i64 a3_0, .int .i64 a3_1] 51 (0, 0)) (by (with_reducible repeat (first | refine blk_drewN ?_ _ | refine blk_drew ?_ | refine blk_alloc ?_ _)); exact BK295.out) hb); have n2_ := Aside0.mk (below_step (by repeat (first | (with_reducible first | exact HB.out | apply below_alloc | apply pw_below_drewN | apply below_drew1 | refine below_set ?_ GE294.out | refine below_set ?_ GE295.out) | exact HB.out)) hb); clear BK294; clear BK295; clear HB; have BK294 := n0_; have BK295 := n1_; have HB := n2_; clear n0_ n1_ n2_; (try clear hb); (try clear hb2); (try clear hk); (try clear hi); have hcz80_0 : w79.cell? ⟨gb295, 0, none⟩ = some (.int .i64 a3_0) := (blk_cell BK295.out 0).trans rfl; have hcz80_1 : w79.cell? ⟨gb295, 1, none⟩ = some (.int .i64 a3_1) := (blk_cell BK295.out 1).trans rfl; have hfz80_0 := blk_frozen BK295.out 0; have hfz80_1 := blk_frozen BK295.out 1) | (go_at_call 35; (with_reducible refine (length_Fixed.calls a3_0 a3_1 a4 false _ A58.out).mono ?_); rintro e w81 ⟨rfl, hb⟩; have n0_ := Aside0.mk (blk_below (g := gb294) (o := .cells #[.int .i64 a2_0, .int .i64 a2_1] 51 (0, 0)) (by (with_reducible repeat (first | refine blk_drewN ?_ _ | refine blk_drew ?_ | refine blk_alloc ?_ _)); exact BK294.out) hb); have n1_ := Aside0.mk (blk_below (g := gb295) (o := .cells #[.int .i64 a3_0, .int .i64 a3_1] 51 (0, 0)) (by (with_reducible repeat (first | refine blk_drewN ?_ _ | refine blk_drew ?_ | refine blk_alloc ?_ _)); exact BK295.out) hb); have n2_ := Aside0.mk (below_step (by repeat (first | (with_reducible first | exact HB.out | apply below_alloc | apply pw_below_drewN | apply below_drew1 | refine below_set ?_ GE294.out | refine below_set ?_ GE295.out) | exact HB.out)) hb); clear BK294; clear BK295; clear HB; have BK294 := n0_; have BK295 := n1_; have HB := n2_; clear n0_ n1_ n2_; (try clear hb); (try clear hb2); (try clear hk); (try clear hi)))
                                  go_ret
                                  exact ⟨by first | rfl | (cases Option.some.inj (A48.out.symm.trans A32.out); rfl) | (cases Option.some.inj (A58.out.symm.trans A34.out); rfl) | (simp [errW_none, errW_some] <;> rfl) | (simp only [← hji74, ← hji76]; first | rfl | (simp [errW_none, errW_some] <;> rfl)) | (simp [*, errW_none, errW_some] <;> rfl), by repeat (first | (with_reducible first | exact HB.out | apply below_alloc | apply pw_below_drewN | apply below_drew1 | refine below_set ?_ GE294.out | refine below_set ?_ GE295.out) | exact HB.out)⟩
                                · rw [if_neg c75] at H
                                  exact absurd H (by simp)
                              · rw [if_neg c73] at H
                                exact absurd H (by simp)
                            · rw [if_neg c72] at H
                              exact absurd H (by simp)
                          · exact absurd rfl c71
                        · rw [if_neg c70] at H
                          exact absurd H (by simp)
  · replace c7 := Bool.eq_false_iff.mpr c7
    subst c7
    have H1 : (none) = some r := by rw [if_neg (show ¬ (false = true) by decide)] at H; exact H
    clear H
    have H := H1
    clear H1
    exact absurd H (by simp)

/-- THE ONE PURE STATEMENT of valancelaw06_MarginRoom: yours. -/
def valancelaw06_MarginRoom.Pure : Prop := ∀ (a0 : Int) (a1 : Int) (a2_0 : Int) (a2_1 : Int) (a3_0 : Int) (a3_1 : Int) (a4 : Int), (Lit.int .i64 a0).wf = true → (Lit.int .i64 a1).wf = true → (Lit.int .i64 a2_0).wf = true → (Lit.int .i64 a2_1).wf = true → (Lit.int .i64 a3_0).wf = true → (Lit.int .i64 a3_1).wf = true → (Lit.int .i64 a4).wf = true → ∃ k, valancelaw06_MarginRoom.f k a0 a1 a2_0 a2_1 a3_0 a3_1 a4 = some true
theorem valancelaw06_MarginRoom.walk (P : valancelaw06_MarginRoom.Pure) (a0 : Int) (a1 : Int) (a2_0 : Int) (a2_1 : Int) (a3_0 : Int) (a3_1 : Int) (a4 : Int) (w : World) (w0 : (Lit.int .i64 a0).wf = true) (w1 : (Lit.int .i64 a1).wf = true) (w2_0 : (Lit.int .i64 a2_0).wf = true) (w2_1 : (Lit.int .i64 a2_1).wf = true) (w3_0 : (Lit.int .i64 a3_0).wf = true) (w3_1 : (Lit.int .i64 a3_1).wf = true) (w4 : (Lit.int .i64 a4).wf = true) :
    Calls Try.prog 12 #[.int .i64 a0, .int .i64 a1, .agg #[.int .i64 a2_0, .int .i64 a2_1], .agg #[.int .i64 a3_0, .int .i64 a3_1], .int .i64 a4] w fun e w' => e = .returned (.bool true) ∧ Below w.heap.size w w' := by
  obtain ⟨k, h⟩ := P a0 a1 a2_0 a2_1 a3_0 a3_1 a4 w0 w1 w2_0 w2_1 w3_0 w3_1 w4
  refine (valancelaw06_MarginRoom.calls k a0 a1 a2_0 a2_1 a3_0 a3_1 a4 true w h).mono ?_
  rintro e w' ⟨rfl, hd⟩
  exact ⟨rfl, hd⟩

end Go.Proofs.Ytnmcefpnpfaklac.V
