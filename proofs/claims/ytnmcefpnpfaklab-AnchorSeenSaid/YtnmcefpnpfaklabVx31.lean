/- What the functions of this seat answer, as plain Lean functions, and that the calls come to just that (written by a program of this repo, over the kit's printer; Lean checks it). -/
import Derived.Test.YtnmcefpnpfaklabVx0
import Derived.Test.YtnmcefpnpfaklabVx1
import Derived.Test.YtnmcefpnpfaklabVx15
import Derived.Test.YtnmcefpnpfaklabVx17
import Derived.Test.YtnmcefpnpfaklabVx19
import Derived.Test.YtnmcefpnpfaklabVx21
namespace Go.Proofs.Ytnmcefpnpfaklab.V
open Go.RowKit Go.Proofs.YtnmcefpnpfaklabW.PrintWords Go.Proofs.YtnmcefpnpfaklabW.PrintLast Go.Proofs.YtnmcefpnpfaklabW.PrintMore
attribute [local go_sem] max2_int min2_int max_two min_two max_three min_three max_four min_four   -- for this text's walks alone
set_option linter.unusedVariables false
set_option linter.unusedSimpArgs false

/-! ### valancelaw12_AnchorSeen: function 10 -/
mutual
def valancelaw12_AnchorSeen.j0 : Nat → List (S56) → Bool → Int → Bool → Int → Int → Option (Bool)
  | 0, _, _, _, _, _, _ => none
  | k + 1, x0, x5, x6, x36, x320000, x320001 => if x36 = true then (none) else (if x6 = (-1) then (valancelaw12_AnchorSeen.l0 k x0 x5 0 x320000 x320001) else (if 0 ≤ x6 then (if x6 < (x0.length : Int) then ((anchor_Sight.f ((rd_T56 x0 x6).f1.f0) ((rd_T56 x0 x6).f1.f1) x320000 x320001).bind fun t328 => (if t328 = 0 then (valancelaw12_AnchorSeen.j2 k x0 x5 x6 true x320000 x320001) else (valancelaw12_AnchorSeen.j2 k x0 x5 x6 ((rd_T56 x0 x6).f2) x320000 x320001))) else (none)) else (none)))
def valancelaw12_AnchorSeen.l0 : Nat → List (S56) → Bool → Int → Int → Int → Option (Bool)
  | 0, _, _, _, _, _ => none
  | k + 1, x0, x5, x7, x320000, x320001 => if x7 < (x0.length : Int) then (if 0 ≤ x7 then (if ((rd_T56 x0 x7).f0) = (-1) then (if ((rd_T56 x0 x7).f2 = true) then (valancelaw12_AnchorSeen.l0 k x0 x5 (wrap64 (x7 + 1)) x320000 x320001) else ((anchor_Sight.f ((rd_T56 x0 x7).f1.f0) ((rd_T56 x0 x7).f1.f1) x320000 x320001).bind fun t326 => (if t326 > 0 then (none) else (valancelaw12_AnchorSeen.l0 k x0 x5 (wrap64 (x7 + 1)) x320000 x320001)))) else (valancelaw12_AnchorSeen.l0 k x0 x5 (wrap64 (x7 + 1)) x320000 x320001)) else (none)) else (some x5)
def valancelaw12_AnchorSeen.j2 : Nat → List (S56) → Bool → Int → Bool → Int → Int → Option (Bool)
  | 0, _, _, _, _, _, _ => none
  | k + 1, x0, x5, x6, x84, x320000, x320001 => if x84 = true then (none) else (valancelaw12_AnchorSeen.l1 k x0 x5 x6 x320000 x320001)
def valancelaw12_AnchorSeen.l1 : Nat → List (S56) → Bool → Int → Int → Int → Option (Bool)
  | 0, _, _, _, _, _ => none
  | k + 1, x0, x5, x8, x320000, x320001 => if x8 ≥ 0 then (if 0 ≤ x8 then (if x8 < (x0.length : Int) then (if ((rd_T56 x0 x8).f0) ≥ 0 then (if 0 ≤ ((rd_T56 x0 x8).f0) then (if ((rd_T56 x0 x8).f0) < (x0.length : Int) then (if (rd_T56 x0 ((rd_T56 x0 x8).f0)).f2 = true then (valancelaw12_AnchorSeen.j4 k x0 x5 x8 ((rd_T56 x0 x8).f0) true x320000 x320001) else ((anchor_Sight.f ((rd_T56 x0 ((rd_T56 x0 x8).f0)).f1.f0) ((rd_T56 x0 ((rd_T56 x0 x8).f0)).f1.f1) x320000 x320001).bind fun t333 => (valancelaw12_AnchorSeen.j4 k x0 x5 x8 ((rd_T56 x0 x8).f0) (t333 != 1) x320000 x320001))) else (none)) else (none)) else (valancelaw12_AnchorSeen.j4 k x0 x5 x8 ((rd_T56 x0 x8).f0) false x320000 x320001)) else (none)) else (none)) else (some x5)
def valancelaw12_AnchorSeen.j4 : Nat → List (S56) → Bool → Int → Int → Bool → Int → Int → Option (Bool)
  | 0, _, _, _, _, _, _, _ => none
  | k + 1, x0, x5, x8, x9, x116, x320000, x320001 => if x116 = true then (none) else (valancelaw12_AnchorSeen.l2 k x0 x5 x8 x9 0 x320000 x320001)
def valancelaw12_AnchorSeen.l2 : Nat → List (S56) → Bool → Int → Int → Int → Int → Int → Option (Bool)
  | 0, _, _, _, _, _, _, _ => none
  | k + 1, x0, x5, x8, x9, x10, x320000, x320001 => if x10 < x8 then (if 0 ≤ x10 then (if x10 < (x0.length : Int) then (if ((rd_T56 x0 x10).f0) = x9 then (if ((rd_T56 x0 x10).f2 = true) then (valancelaw12_AnchorSeen.l2 k x0 x5 x8 x9 (wrap64 (x10 + 1)) x320000 x320001) else ((anchor_Sight.f ((rd_T56 x0 x10).f1.f0) ((rd_T56 x0 x10).f1.f1) x320000 x320001).bind fun t337 => (if t337 > 0 then (none) else (valancelaw12_AnchorSeen.l2 k x0 x5 x8 x9 (wrap64 (x10 + 1)) x320000 x320001)))) else (valancelaw12_AnchorSeen.l2 k x0 x5 x8 x9 (wrap64 (x10 + 1)) x320000 x320001)) else (none)) else (none)) else (if 0 ≤ x8 then (if x8 < (x0.length : Int) then (valancelaw12_AnchorSeen.l1 k x0 x5 ((rd_T56 x0 x8).f0) x320000 x320001) else (none)) else (none))
end
def valancelaw12_AnchorSeen.f (k : Nat) (l0 : List (S56)) (a1_0 : Int) (a1_1 : Int) : Option (Bool) := (valancelaw12_works.f k).bind fun t320 => (if t320 = true then (if (l0.length : Int) > 60 then (some t320) else ((anchor_Pick.f k l0 a1_0 a1_1).bind fun t321 => ((anchor_Valid.f k l0).bind fun t322 => (if t322 = true then (if t321 < (-1) then (valancelaw12_AnchorSeen.j0 k l0 t320 t321 true a1_0 a1_1) else (valancelaw12_AnchorSeen.j0 k l0 t320 t321 (decide (t321 ≥ (l0.length : Int))) a1_0 a1_1)) else (some (t321 == (-1))))))) else (none))
theorem valancelaw12_AnchorSeen.mono_l : ∀ k, (∀ y0 y1 y2 y3 y4 y5, LeO (valancelaw12_AnchorSeen.j0 k y0 y1 y2 y3 y4 y5) (valancelaw12_AnchorSeen.j0 (k + 1) y0 y1 y2 y3 y4 y5)) ∧ (∀ y0 y1 y2 y3 y4, LeO (valancelaw12_AnchorSeen.l0 k y0 y1 y2 y3 y4) (valancelaw12_AnchorSeen.l0 (k + 1) y0 y1 y2 y3 y4)) ∧ (∀ y0 y1 y2 y3 y4 y5, LeO (valancelaw12_AnchorSeen.j2 k y0 y1 y2 y3 y4 y5) (valancelaw12_AnchorSeen.j2 (k + 1) y0 y1 y2 y3 y4 y5)) ∧ (∀ y0 y1 y2 y3 y4, LeO (valancelaw12_AnchorSeen.l1 k y0 y1 y2 y3 y4) (valancelaw12_AnchorSeen.l1 (k + 1) y0 y1 y2 y3 y4)) ∧ (∀ y0 y1 y2 y3 y4 y5 y6, LeO (valancelaw12_AnchorSeen.j4 k y0 y1 y2 y3 y4 y5 y6) (valancelaw12_AnchorSeen.j4 (k + 1) y0 y1 y2 y3 y4 y5 y6)) ∧ (∀ y0 y1 y2 y3 y4 y5 y6, LeO (valancelaw12_AnchorSeen.l2 k y0 y1 y2 y3 y4 y5 y6) (valancelaw12_AnchorSeen.l2 (k + 1) y0 y1 y2 y3 y4 y5 y6))
  | 0 => ⟨fun _ _ _ _ _ _ r h => by simp [valancelaw12_AnchorSeen.j0] at h, fun _ _ _ _ _ r h => by simp [valancelaw12_AnchorSeen.l0] at h, fun _ _ _ _ _ _ r h => by simp [valancelaw12_AnchorSeen.j2] at h, fun _ _ _ _ _ r h => by simp [valancelaw12_AnchorSeen.l1] at h, fun _ _ _ _ _ _ _ r h => by simp [valancelaw12_AnchorSeen.j4] at h, fun _ _ _ _ _ _ _ r h => by simp [valancelaw12_AnchorSeen.l2] at h⟩
  | k + 1 => by
    obtain ⟨ih0, ih1, ih2, ih3, ih4, ih5⟩ := valancelaw12_AnchorSeen.mono_l k
    refine ⟨?_, ?_, ?_, ?_, ?_, ?_⟩
    · intro y0 y1 y2 y3 y4 y5
      unfold valancelaw12_AnchorSeen.j0
      repeat' first
      | (with_reducible exact ih0 _ _ _ _ _ _)
      | (with_reducible exact ih1 _ _ _ _ _)
      | (with_reducible exact ih2 _ _ _ _ _ _)
      | (with_reducible exact ih3 _ _ _ _ _)
      | (with_reducible exact ih4 _ _ _ _ _ _ _)
      | (with_reducible exact ih5 _ _ _ _ _ _ _)
      | (with_reducible exact anchor_Pick.mono _ _ _ _)
      | (with_reducible exact anchor_Valid.mono _ _)
      | (with_reducible exact valancelaw12_works.mono _)
      | (with_reducible exact LeO.refl _)
      | (with_reducible exact LeO.none _)
      | (with_reducible refine LeO.ite ?_ ?_)
      | (with_reducible refine LeO.bind ?_ (fun _ => ?_))
      | exact ih0 _ _ _ _ _ _
      | exact ih1 _ _ _ _ _
      | exact ih2 _ _ _ _ _ _
      | exact ih3 _ _ _ _ _
      | exact ih4 _ _ _ _ _ _ _
      | exact ih5 _ _ _ _ _ _ _
      | exact anchor_Pick.mono _ _ _ _
      | exact anchor_Valid.mono _ _
      | exact valancelaw12_works.mono _
      | exact LeO.none _
      | refine LeO.ite ?_ ?_
      | refine LeO.bind ?_ (fun _ => ?_)
    · intro y0 y1 y2 y3 y4
      unfold valancelaw12_AnchorSeen.l0
      repeat' first
      | (with_reducible exact ih0 _ _ _ _ _ _)
      | (with_reducible exact ih1 _ _ _ _ _)
      | (with_reducible exact ih2 _ _ _ _ _ _)
      | (with_reducible exact ih3 _ _ _ _ _)
      | (with_reducible exact ih4 _ _ _ _ _ _ _)
      | (with_reducible exact ih5 _ _ _ _ _ _ _)
      | (with_reducible exact anchor_Pick.mono _ _ _ _)
      | (with_reducible exact anchor_Valid.mono _ _)
      | (with_reducible exact valancelaw12_works.mono _)
      | (with_reducible exact LeO.refl _)
      | (with_reducible exact LeO.none _)
      | (with_reducible refine LeO.ite ?_ ?_)
      | (with_reducible refine LeO.bind ?_ (fun _ => ?_))
      | exact ih0 _ _ _ _ _ _
      | exact ih1 _ _ _ _ _
      | exact ih2 _ _ _ _ _ _
      | exact ih3 _ _ _ _ _
      | exact ih4 _ _ _ _ _ _ _
      | exact ih5 _ _ _ _ _ _ _
      | exact anchor_Pick.mono _ _ _ _
      | exact anchor_Valid.mono _ _
      | exact valancelaw12_works.mono _
      | exact LeO.none _
      | refine LeO.ite ?_ ?_
      | refine LeO.bind ?_ (fun _ => ?_)
    · intro y0 y1 y2 y3 y4 y5
      unfold valancelaw12_AnchorSeen.j2
      repeat' first
      | (with_reducible exact ih0 _ _ _ _ _ _)
      | (with_reducible exact ih1 _ _ _ _ _)
      | (with_reducible exact ih2 _ _ _ _ _ _)
      | (with_reducible exact ih3 _ _ _ _ _)
      | (with_reducible exact ih4 _ _ _ _ _ _ _)
      | (with_reducible exact ih5 _ _ _ _ _ _ _)
      | (with_reducible exact anchor_Pick.mono _ _ _ _)
      | (with_reducible exact anchor_Valid.mono _ _)
      | (with_reducible exact valancelaw12_works.mono _)
      | (with_reducible exact LeO.refl _)
      | (with_reducible exact LeO.none _)
      | (with_reducible refine LeO.ite ?_ ?_)
      | (with_reducible refine LeO.bind ?_ (fun _ => ?_))
      | exact ih0 _ _ _ _ _ _
      | exact ih1 _ _ _ _ _
      | exact ih2 _ _ _ _ _ _
      | exact ih3 _ _ _ _ _
      | exact ih4 _ _ _ _ _ _ _
      | exact ih5 _ _ _ _ _ _ _
      | exact anchor_Pick.mono _ _ _ _
      | exact anchor_Valid.mono _ _
      | exact valancelaw12_works.mono _
      | exact LeO.none _
      | refine LeO.ite ?_ ?_
      | refine LeO.bind ?_ (fun _ => ?_)
    · intro y0 y1 y2 y3 y4
      unfold valancelaw12_AnchorSeen.l1
      repeat' first
      | (with_reducible exact ih0 _ _ _ _ _ _)
      | (with_reducible exact ih1 _ _ _ _ _)
      | (with_reducible exact ih2 _ _ _ _ _ _)
      | (with_reducible exact ih3 _ _ _ _ _)
      | (with_reducible exact ih4 _ _ _ _ _ _ _)
      | (with_reducible exact ih5 _ _ _ _ _ _ _)
      | (with_reducible exact anchor_Pick.mono _ _ _ _)
      | (with_reducible exact anchor_Valid.mono _ _)
      | (with_reducible exact valancelaw12_works.mono _)
      | (with_reducible exact LeO.refl _)
      | (with_reducible exact LeO.none _)
      | (with_reducible refine LeO.ite ?_ ?_)
      | (with_reducible refine LeO.bind ?_ (fun _ => ?_))
      | exact ih0 _ _ _ _ _ _
      | exact ih1 _ _ _ _ _
      | exact ih2 _ _ _ _ _ _
      | exact ih3 _ _ _ _ _
      | exact ih4 _ _ _ _ _ _ _
      | exact ih5 _ _ _ _ _ _ _
      | exact anchor_Pick.mono _ _ _ _
      | exact anchor_Valid.mono _ _
      | exact valancelaw12_works.mono _
      | exact LeO.none _
      | refine LeO.ite ?_ ?_
      | refine LeO.bind ?_ (fun _ => ?_)
    · intro y0 y1 y2 y3 y4 y5 y6
      unfold valancelaw12_AnchorSeen.j4
      repeat' first
      | (with_reducible exact ih0 _ _ _ _ _ _)
      | (with_reducible exact ih1 _ _ _ _ _)
      | (with_reducible exact ih2 _ _ _ _ _ _)
      | (with_reducible exact ih3 _ _ _ _ _)
      | (with_reducible exact ih4 _ _ _ _ _ _ _)
      | (with_reducible exact ih5 _ _ _ _ _ _ _)
      | (with_reducible exact anchor_Pick.mono _ _ _ _)
      | (with_reducible exact anchor_Valid.mono _ _)
      | (with_reducible exact valancelaw12_works.mono _)
      | (with_reducible exact LeO.refl _)
      | (with_reducible exact LeO.none _)
      | (with_reducible refine LeO.ite ?_ ?_)
      | (with_reducible refine LeO.bind ?_ (fun _ => ?_))
      | exact ih0 _ _ _ _ _ _
      | exact ih1 _ _ _ _ _
      | exact ih2 _ _ _ _ _ _
      | exact ih3 _ _ _ _ _
      | exact ih4 _ _ _ _ _ _ _
      | exact ih5 _ _ _ _ _ _ _
      | exact anchor_Pick.mono _ _ _ _
      | exact anchor_Valid.mono _ _
      | exact valancelaw12_works.mono _
      | exact LeO.none _
      | refine LeO.ite ?_ ?_
      | refine LeO.bind ?_ (fun _ => ?_)
    · intro y0 y1 y2 y3 y4 y5 y6
      unfold valancelaw12_AnchorSeen.l2
      repeat' first
      | (with_reducible exact ih0 _ _ _ _ _ _)
      | (with_reducible exact ih1 _ _ _ _ _)
      | (with_reducible exact ih2 _ _ _ _ _ _)
      | (with_reducible exact ih3 _ _ _ _ _)
      | (with_reducible exact ih4 _ _ _ _ _ _ _)
      | (with_reducible exact ih5 _ _ _ _ _ _ _)
      | (with_reducible exact anchor_Pick.mono _ _ _ _)
      | (with_reducible exact anchor_Valid.mono _ _)
      | (with_reducible exact valancelaw12_works.mono _)
      | (with_reducible exact LeO.refl _)
      | (with_reducible exact LeO.none _)
      | (with_reducible refine LeO.ite ?_ ?_)
      | (with_reducible refine LeO.bind ?_ (fun _ => ?_))
      | exact ih0 _ _ _ _ _ _
      | exact ih1 _ _ _ _ _
      | exact ih2 _ _ _ _ _ _
      | exact ih3 _ _ _ _ _
      | exact ih4 _ _ _ _ _ _ _
      | exact ih5 _ _ _ _ _ _ _
      | exact anchor_Pick.mono _ _ _ _
      | exact anchor_Valid.mono _ _
      | exact valancelaw12_works.mono _
      | exact LeO.none _
      | refine LeO.ite ?_ ?_
      | refine LeO.bind ?_ (fun _ => ?_)
theorem valancelaw12_AnchorSeen.mono : ∀ a0 a1 a2 k, LeO (valancelaw12_AnchorSeen.f k a0 a1 a2) (valancelaw12_AnchorSeen.f (k + 1) a0 a1 a2) := by
  intro a0 a1 a2 k
  obtain ⟨ih0, ih1, ih2, ih3, ih4, ih5⟩ := valancelaw12_AnchorSeen.mono_l k
  unfold valancelaw12_AnchorSeen.f
  repeat' first
      | (with_reducible exact ih0 _ _ _ _ _ _)
      | (with_reducible exact ih1 _ _ _ _ _)
      | (with_reducible exact ih2 _ _ _ _ _ _)
      | (with_reducible exact ih3 _ _ _ _ _)
      | (with_reducible exact ih4 _ _ _ _ _ _ _)
      | (with_reducible exact ih5 _ _ _ _ _ _ _)
      | (with_reducible exact anchor_Pick.mono _ _ _ _)
      | (with_reducible exact anchor_Valid.mono _ _)
      | (with_reducible exact valancelaw12_works.mono _)
      | (with_reducible exact LeO.refl _)
      | (with_reducible exact LeO.none _)
      | (with_reducible refine LeO.ite ?_ ?_)
      | (with_reducible refine LeO.bind ?_ (fun _ => ?_))
      | exact ih0 _ _ _ _ _ _
      | exact ih1 _ _ _ _ _
      | exact ih2 _ _ _ _ _ _
      | exact ih3 _ _ _ _ _
      | exact ih4 _ _ _ _ _ _ _
      | exact ih5 _ _ _ _ _ _ _
      | exact anchor_Pick.mono _ _ _ _
      | exact anchor_Valid.mono _ _
      | exact valancelaw12_works.mono _
      | exact LeO.none _
      | refine LeO.ite ?_ ?_
      | refine LeO.bind ?_ (fun _ => ?_)
def valancelaw12_AnchorSeen.T15 : Bool × List (List Nat × List Nat) := (true, [([], []), ([], []), ([0, 1], [0, 1]), ([2], [2]), ([3], [3]), ([4], [4]), ([5], [5]), ([6], [6]), ([6], [6]), ([7, 8, 6], [6, 7, 8]), ([9, 6], [6, 9]), ([10, 6], [6, 10]), ([11, 6], [6, 11]), ([6, 12], [6, 12]), ([13, 6], [13]), ([14], [14]), ([14], [14]), ([15, 16, 14], [14, 15, 16]), ([17, 14], [14, 17]), ([18, 14], [14, 18]), ([14], [14]), ([19, 20, 14, 14], [14, 19, 20]), ([21, 14], [14, 21]), ([14, 22], [14, 22])])
def valancelaw12_AnchorSeen.B15 : List Nat := [0, 0, 3, 7, 15, 31, 63, 127, 127, 511, 1023, 2047, 4095, 8191, 16383, 32767, 32767, 131071, 262143, 524287, 32767, 2097151, 4194303, 8388607]
theorem valancelaw12_AnchorSeen.tab15 : rtab .any (opsOf Try.f10 15) = valancelaw12_AnchorSeen.T15 := by kernel_rfl
theorem valancelaw12_AnchorSeen.bits15 : waitsOk valancelaw12_AnchorSeen.T15.2 valancelaw12_AnchorSeen.B15 = true := by kernel_rfl
def valancelaw12_AnchorSeen.T18 : Bool × List (List Nat × List Nat) := (true, [([], []), ([], []), ([0, 1], [0, 1]), ([2], [2]), ([3], [3]), ([], []), ([4, 5], [4, 5]), ([6], [6]), ([7, 6], [7]), ([8], [8]), ([8], [8]), ([9, 10, 8], [8, 9, 10]), ([11, 8], [8, 11]), ([12, 8], [8, 12]), ([8, 13], [8, 13])])
def valancelaw12_AnchorSeen.B18 : List Nat := [0, 0, 3, 7, 15, 0, 63, 127, 255, 511, 511, 2047, 4095, 8191, 16383]
theorem valancelaw12_AnchorSeen.tab18 : rtab .any (opsOf Try.f10 18) = valancelaw12_AnchorSeen.T18 := by kernel_rfl
theorem valancelaw12_AnchorSeen.bits18 : waitsOk valancelaw12_AnchorSeen.T18.2 valancelaw12_AnchorSeen.B18 = true := by kernel_rfl
def valancelaw12_AnchorSeen.T24 : Bool × List (List Nat × List Nat) := (true, [([], []), ([0], [0]), ([1], [1]), ([2], [2]), ([2], [2]), ([3, 4, 2], [2, 3, 4]), ([5, 2], [2, 5]), ([6, 2], [2, 6]), ([7, 2, 2], [2, 7]), ([8], [8]), ([8], [8]), ([9, 10, 8], [8, 9, 10]), ([11, 8], [8, 11]), ([12, 8], [8, 12]), ([8], [8]), ([13, 14, 8, 8], [8, 13, 14]), ([15, 8], [8, 15]), ([8, 16, 2], [2, 8, 16]), ([2, 17], [2, 17])])
def valancelaw12_AnchorSeen.B24 : List Nat := [0, 1, 3, 7, 7, 31, 63, 127, 255, 511, 511, 2047, 4095, 8191, 511, 32767, 65535, 131071, 262143]
theorem valancelaw12_AnchorSeen.tab24 : rtab .any (opsOf Try.f10 24) = valancelaw12_AnchorSeen.T24 := by kernel_rfl
theorem valancelaw12_AnchorSeen.bits24 : waitsOk valancelaw12_AnchorSeen.T24.2 valancelaw12_AnchorSeen.B24 = true := by kernel_rfl
def valancelaw12_AnchorSeen.T29 : Bool × List (List Nat × List Nat) := (true, [([], []), ([], []), ([0, 1], [0, 1]), ([2], [2]), ([3], [3]), ([], []), ([4, 5], [4, 5]), ([6], [6]), ([7], [7]), ([7], [7]), ([8, 9, 7], [7, 8, 9]), ([10, 7], [7, 10]), ([11, 7], [7, 11]), ([12, 7], [7, 12]), ([7, 13], [7, 13]), ([14, 7], [14]), ([15], [15]), ([15], [15]), ([16, 17, 15], [15, 16, 17]), ([18, 15], [15, 18]), ([19, 15], [15, 19]), ([15], [15]), ([20, 21, 15, 15], [15, 20, 21]), ([22, 15], [15, 22]), ([15, 23], [15, 23])])
def valancelaw12_AnchorSeen.B29 : List Nat := [0, 0, 3, 7, 15, 0, 63, 127, 255, 255, 1023, 2047, 4095, 8191, 16383, 32767, 65535, 65535, 262143, 524287, 1048575, 65535, 4194303, 8388607, 16777215]
theorem valancelaw12_AnchorSeen.tab29 : rtab .any (opsOf Try.f10 29) = valancelaw12_AnchorSeen.T29 := by kernel_rfl
theorem valancelaw12_AnchorSeen.bits29 : waitsOk valancelaw12_AnchorSeen.T29.2 valancelaw12_AnchorSeen.B29 = true := by kernel_rfl
set_option maxHeartbeats 8000000 in
set_option maxRecDepth 100000 in
theorem valancelaw12_AnchorSeen.calls (k : Nat) (A0 : Option Addr) (c0 : Nat) (l0 : List (S56)) (a1_0 : Int) (a1_1 : Int) (r : Bool) (w : World) (hr0 : Kd.C k56 w A0 l0.length l0) (hc0 : l0.length ≤ c0) (h : valancelaw12_AnchorSeen.f k l0 a1_0 a1_1 = some r) :
    Calls Try.prog 10 #[.slice A0 l0.length c0, .agg #[.int .i64 a1_0, .int .i64 a1_1]] w fun e w' => e = .returned (.bool r) ∧ Below w.heap.size w w' := by
  have hu23 := Try.underlying23
  have HR0 := Aside0.mk hr0
  have HC0 := Aside0.mk hc0
  clear hr0 hc0
  have HB := Aside0.mk (Below.refl w.heap.size w)
  have H : ((valancelaw12_works.f k).bind fun t320 => (if t320 = true then (if (l0.length : Int) > 60 then (some t320) else ((anchor_Pick.f k l0 a1_0 a1_1).bind fun t321 => ((anchor_Valid.f k l0).bind fun t322 => (if t322 = true then (if t321 < (-1) then (valancelaw12_AnchorSeen.j0 k l0 t320 t321 true a1_0 a1_1) else (valancelaw12_AnchorSeen.j0 k l0 t320 t321 (decide (t321 ≥ (l0.length : Int))) a1_0 a1_1)) else (some (t321 == (-1))))))) else (none))) = some r := h
  clear h
  replace H := Option.bind_eq_some_iff.mp H
  obtain ⟨t320, A30, H⟩ := H
  replace H : (if t320 = true then (if (l0.length : Int) > 60 then (some t320) else ((anchor_Pick.f k l0 a1_0 a1_1).bind fun t321 => ((anchor_Valid.f k l0).bind fun t322 => (if t322 = true then (if t321 < (-1) then (valancelaw12_AnchorSeen.j0 k l0 t320 t321 true a1_0 a1_1) else (valancelaw12_AnchorSeen.j0 k l0 t320 t321 (decide (t321 ≥ (l0.length : Int))) a1_0 a1_1)) else (some (t321 == (-1))))))) else (none)) = some r := H
  have A3 := Aside0.mk A30
  clear A30
  by_cases c4 : t320 = true
  case neg =>
    replace c4 := Bool.eq_false_iff.mpr c4
    subst c4
    have H1 : (none) = some r := by rw [if_neg (show ¬ (false = true) by decide)] at H; exact H
    clear H
    have H := H1
    clear H1
    exact absurd H (by simp)
  subst c4
  have H1 : (if (l0.length : Int) > 60 then (some true) else ((anchor_Pick.f k l0 a1_0 a1_1).bind fun t321 => ((anchor_Valid.f k l0).bind fun t322 => (if t322 = true then (if t321 < (-1) then (valancelaw12_AnchorSeen.j0 k l0 true t321 true a1_0 a1_1) else (valancelaw12_AnchorSeen.j0 k l0 true t321 (decide (t321 ≥ (l0.length : Int))) a1_0 a1_1)) else (some (t321 == (-1))))))) = some r := by rw [if_pos rfl] at H; exact H
  clear H
  have H := H1
  clear H1
  by_cases c5 : (l0.length : Int) > 60
  · rw [if_pos c5] at H
    have c5b0 : decide (60 < (l0.length : Int)) = true := decide_eq_true c5
    have c5b1 : decide (60 < l0.length) = true := decide_eq_true (by omega)
    clear c5
    obtain rfl := Option.some.inj H
    go_enter Try.func10, Try.ntmps10
    go_wp2_with (first | ((with_reducible refine gate_dst (N := 3) rfl ?_); (try (refine gate_guard (by rfl) ?_; dsimp only)); refine box_event ?hg (N := 3) ?hd (cs := #[.int .i64 a1_0, .int .i64 a1_1]) (t := 23) ?hr ?_; (case hd => rfl); (case hg => rfl); (case hr => first | (go_simp; done) | (go_simp; rfl)); intro gb319 hg w6 hbox hb; have n0_ := Aside0.mk (below_step (by repeat (first | (with_reducible first | exact HB.out | apply below_alloc | apply pw_below_drewN | apply below_drew1) | exact HB.out)) hb); have n1_ := Aside0.mk (hbox); have n2_ := Aside0.mk ((by rw [hg]; exact (below_size (by repeat (first | (with_reducible first | exact HB.out | apply below_alloc | apply pw_below_drewN | apply below_drew1) | exact HB.out))) : w.heap.size ≤ gb319)); have n3_ := Aside0.mk ((by rw [hg]; exact (below_size (by repeat (first | (with_reducible first | exact HB.out | apply below_alloc | apply pw_below_drewN | apply below_drew1) | exact HB.out))) : w.heap.size ≤ gb319)); clear HB; have HB := n0_; have BK319 := n1_; have GW319 := n2_; have GE319 := n3_; clear n0_ n1_ n2_ n3_; clear hb hbox hg) | ((with_reducible refine gate_callee (f := 24) rfl ?_); refine goesL_ (some 11) rfl rfl Try.func24 (by kernel_rfl) rfl #[] rfl (by (try simp only [List.map_toArray, List.map_cons, List.map_nil]); first | done | rfl | (simp only [List.length_drop, List.length_take]; rfl)) ?_; (with_reducible refine (valancelaw12_works.calls k  true _ A3.out).mono ?_); rintro e w7 ⟨rfl, hb⟩; refine ⟨_, rfl, ?_⟩; have n0_ := Aside0.mk (blk_below (g := gb319) (o := .cells #[.int .i64 a1_0, .int .i64 a1_1] 23 (0, 0)) BK319.out hb); have n1_ := Aside0.mk (below_step (by repeat (first | (with_reducible first | exact HB.out | apply below_alloc | apply pw_below_drewN | apply below_drew1 | refine below_set ?_ GE319.out) | exact HB.out)) hb); clear BK319; clear HB; have BK319 := n0_; have HB := n1_; clear n0_ n1_; (try clear hb); (try clear hb2); (try clear hk); (try clear hi)))
    go_ret
    exact ⟨by first | rfl | (simp [errW_none, errW_some] <;> rfl) | (simp [*, errW_none, errW_some] <;> rfl), by repeat (first | (with_reducible first | exact HB.out | apply below_alloc | apply pw_below_drewN | apply below_drew1 | refine below_set ?_ GE319.out) | exact HB.out)⟩
  · rw [if_neg c5] at H
    have c5b0 : decide (60 < (l0.length : Int)) = false := decide_eq_false c5
    have c5b1 : decide (60 < l0.length) = false := decide_eq_false (by omega)
    clear c5
    replace H := Option.bind_eq_some_iff.mp H
    obtain ⟨t321, A80, H⟩ := H
    replace H : ((anchor_Valid.f k l0).bind fun t322 => (if t322 = true then (if t321 < (-1) then (valancelaw12_AnchorSeen.j0 k l0 true t321 true a1_0 a1_1) else (valancelaw12_AnchorSeen.j0 k l0 true t321 (decide (t321 ≥ (l0.length : Int))) a1_0 a1_1)) else (some (t321 == (-1))))) = some r := H
    have A8 := Aside0.mk A80
    clear A80
    replace H := Option.bind_eq_some_iff.mp H
    obtain ⟨t322, A90, H⟩ := H
    replace H : (if t322 = true then (if t321 < (-1) then (valancelaw12_AnchorSeen.j0 k l0 true t321 true a1_0 a1_1) else (valancelaw12_AnchorSeen.j0 k l0 true t321 (decide (t321 ≥ (l0.length : Int))) a1_0 a1_1)) else (some (t321 == (-1)))) = some r := H
    have A9 := Aside0.mk A90
    clear A90
    by_cases c10 : t322 = true
    · subst c10
      have H1 : (if t321 < (-1) then (valancelaw12_AnchorSeen.j0 k l0 true t321 true a1_0 a1_1) else (valancelaw12_AnchorSeen.j0 k l0 true t321 (decide (t321 ≥ (l0.length : Int))) a1_0 a1_1)) = some r := by rw [if_pos rfl] at H; exact H
      clear H
      have H := H1
      clear H1
      have HC11 := Aside0.mk H
      clear H
      go_enter Try.func10, Try.ntmps10
      go_upto_region 9 with (first | ((with_reducible refine gate_dst (N := 3) rfl ?_); (try (refine gate_guard (by rfl) ?_; dsimp only)); refine box_event ?hg (N := 3) ?hd (cs := #[.int .i64 a1_0, .int .i64 a1_1]) (t := 23) ?hr ?_; (case hd => rfl); (case hg => rfl); (case hr => first | (go_simp; done) | (go_simp; rfl)); intro gb319 hg w12 hbox hb; have n0_ := Aside0.mk (below_step (by repeat (first | (with_reducible first | exact HB.out | apply below_alloc | apply pw_below_drewN | apply below_drew1) | exact HB.out)) hb); have n1_ := Aside0.mk (hbox); have n2_ := Aside0.mk ((by rw [hg]; exact (below_size (by repeat (first | (with_reducible first | exact HB.out | apply below_alloc | apply pw_below_drewN | apply below_drew1) | exact HB.out))) : w.heap.size ≤ gb319)); have n3_ := Aside0.mk ((by rw [hg]; exact (below_size (by repeat (first | (with_reducible first | exact HB.out | apply below_alloc | apply pw_below_drewN | apply below_drew1) | exact HB.out))) : w.heap.size ≤ gb319)); clear HB; have HB := n0_; have BK319 := n1_; have GW319 := n2_; have GE319 := n3_; clear n0_ n1_ n2_ n3_; clear hb hbox hg) | ((with_reducible refine gate_callee (f := 24) rfl ?_); refine goesL_ (some 11) rfl rfl Try.func24 (by kernel_rfl) rfl #[] rfl (by (try simp only [List.map_toArray, List.map_cons, List.map_nil]); first | done | rfl | (simp only [List.length_drop, List.length_take]; rfl)) ?_; (with_reducible refine (valancelaw12_works.calls k  true _ A3.out).mono ?_); rintro e w13 ⟨rfl, hb⟩; refine ⟨_, rfl, ?_⟩; have n0_ := Aside0.mk (blk_below (g := gb319) (o := .cells #[.int .i64 a1_0, .int .i64 a1_1] 23 (0, 0)) BK319.out hb); have n1_ := Aside0.mk (below_step (by repeat (first | (with_reducible first | exact HB.out | apply below_alloc | apply pw_below_drewN | apply below_drew1 | refine below_set ?_ GE319.out) | exact HB.out)) hb); clear BK319; clear HB; have BK319 := n0_; have HB := n1_; clear n0_ n1_; (try clear hb); (try clear hb2); (try clear hk); (try clear hi); have hcz14_0 : w13.cell? ⟨gb319, 0, none⟩ = some (.int .i64 a1_0) := (blk_cell BK319.out 0).trans rfl; have hcz14_1 : w13.cell? ⟨gb319, 1, none⟩ = some (.int .i64 a1_1) := (blk_cell BK319.out 1).trans rfl; have hfz14_0 := blk_frozen BK319.out 0; have hfz14_1 := blk_frozen BK319.out 1) | ((with_reducible refine gate_callee (f := 31) rfl ?_); refine goesL_ (some 20) rfl rfl Try.func31 (by kernel_rfl) rfl #[.slice A0 l0.length c0, .agg #[.int .i64 a1_0, .int .i64 a1_1]] rfl (by (try simp only [List.map_toArray, List.map_cons, List.map_nil]); first | done | rfl | (simp only [List.length_drop, List.length_take]; rfl)) ?_; (with_reducible refine (anchor_Pick.calls k _ _ l0 a1_0 a1_1 t321 _ ?side1 ?side2 A8.out).mono ?_); (case side1 => repeat (first | exact (Kd.C_below HR0.out HB.out) | (with_reducible refine Kd.C_alloc ?_ _) | (with_reducible refine Kd.C_drewN ?_ _) | (with_reducible refine Kd.C_drew ?_))); (case side2 => exact HC0.out); rintro e w15 ⟨rfl, hb⟩; refine ⟨_, rfl, ?_⟩; have n0_ := Aside0.mk (blk_below (g := gb319) (o := .cells #[.int .i64 a1_0, .int .i64 a1_1] 23 (0, 0)) BK319.out hb); have n1_ := Aside0.mk (below_step (by repeat (first | (with_reducible first | exact HB.out | apply below_alloc | apply pw_below_drewN | apply below_drew1 | refine below_set ?_ GE319.out) | exact HB.out)) hb); clear BK319; clear HB; have BK319 := n0_; have HB := n1_; clear n0_ n1_; (try clear hb); (try clear hb2); (try clear hk); (try clear hi)) | ((with_reducible refine gate_callee (f := 30) rfl ?_); refine goesL_ (some 22) rfl rfl Try.func30 (by kernel_rfl) rfl #[.slice A0 l0.length c0] rfl (by (try simp only [List.map_toArray, List.map_cons, List.map_nil]); first | done | rfl | (simp only [List.length_drop, List.length_take]; rfl)) ?_; (with_reducible refine (anchor_Valid.calls k _ _ l0 true _ ?side1 ?side2 A9.out).mono ?_); (case side1 => repeat (first | exact (Kd.C_below HR0.out HB.out) | (with_reducible refine Kd.C_alloc ?_ _) | (with_reducible refine Kd.C_drewN ?_ _) | (with_reducible refine Kd.C_drew ?_))); (case side2 => exact HC0.out); rintro e w16 ⟨rfl, hb⟩; refine ⟨_, rfl, ?_⟩; have n0_ := Aside0.mk (blk_below (g := gb319) (o := .cells #[.int .i64 a1_0, .int .i64 a1_1] 23 (0, 0)) BK319.out hb); have n1_ := Aside0.mk (below_step (by repeat (first | (with_reducible first | exact HB.out | apply below_alloc | apply pw_below_drewN | apply below_drew1 | refine below_set ?_ GE319.out) | exact HB.out)) hb); clear BK319; clear HB; have BK319 := n0_; have HB := n1_; clear n0_ n1_; (try clear hb); (try clear hb2); (try clear hk); (try clear hi)))
      (try simp only [Act.put, List.setIfInBounds_toArray, List.set_cons_zero, List.set_cons_succ])
      go_cut [36] (fun v36 wc => ∃ (kq : Nat) (x36_10 : Bool), v36 = .bool x36_10 ∧ Aside0 (valancelaw12_AnchorSeen.j0 kq l0 true t321 x36_10 a1_0 a1_1 = some r) ∧ Aside0 (kq ≤ k) ∧ Aside0 (wc.heap[gb319]? = some (.cells #[.int .i64 a1_0, .int .i64 a1_1] 23 (0, 0))) ∧ Aside0 (Below w.heap.size w wc))
      case first =>
        have H := HC11.out
        clear HC11
        by_cases c17 : t321 < (-1)
        · rw [if_pos c17] at H
          have c17b0 : decide (t321 < (-1)) = true := decide_eq_true c17
          clear c17
          (first | rw [c17b0] | (simp only [i64_w, i32_w]; rw [c17b0]) | skip)
          have H' := Aside0.mk H
          clear H
          go_wp2
          go_meet
          case rel => exact ⟨_, (true), (by first | rfl | (simp; done) | (simp [*]; done)), H', ⟨by first | omega | exact Nat.le_refl _⟩, ⟨by (with_reducible repeat (first | refine blk_drewN ?_ _ | refine blk_drew ?_ | refine blk_alloc ?_ _)); exact BK319.out⟩, ⟨by repeat (first | (with_reducible first | exact HB.out | apply below_alloc | apply pw_below_drewN | apply below_drew1 | refine below_set ?_ GE319.out) | exact HB.out)⟩⟩
        · rw [if_neg c17] at H
          have c17b0 : decide (t321 < (-1)) = false := decide_eq_false c17
          clear c17
          (first | rw [c17b0] | (simp only [i64_w, i32_w]; rw [c17b0]) | skip)
          have H' := Aside0.mk H
          clear H
          go_wp2
          go_meet
          case rel => exact ⟨_, (decide (t321 ≥ (l0.length : Int))), (by first | rfl | (simp; done) | (simp [*]; done)), H', ⟨by first | omega | exact Nat.le_refl _⟩, ⟨by (with_reducible repeat (first | refine blk_drewN ?_ _ | refine blk_drew ?_ | refine blk_alloc ?_ _)); exact BK319.out⟩, ⟨by repeat (first | (with_reducible first | exact HB.out | apply below_alloc | apply pw_below_drewN | apply below_drew1 | refine below_set ?_ GE319.out) | exact HB.out)⟩⟩
      case rest =>
        clear HC11
        try clear c1
        try clear c2
        try clear p2
        try clear c3
        try clear c4
        try clear c5
        try clear c5b0
        try clear c5b1
        try clear c10
        try clear c17
        try clear c17b0
        try clear hcz14_0
        try clear hcz14_1
        try clear hfz14_0
        try clear hfz14_1
        obtain ⟨kq, x36_10, rfl, HA, HJ10, BK319, HB⟩ := hcut
        cases kq with
        | zero => exact absurd HA.out (by simp [valancelaw12_AnchorSeen.j0])
        | succ kj10 =>
          have H := HA.out
          clear HA
          simp only [valancelaw12_AnchorSeen.j0] at H
          by_cases c18 : x36_10 = true
          · subst c18
            have H1 : (none) = some r := by rw [if_pos rfl] at H; exact H
            clear H
            have H := H1
            clear H1
            exact absurd H (by simp)
          · replace c18 := Bool.eq_false_iff.mpr c18
            subst c18
            have H1 : (if t321 = (-1) then (valancelaw12_AnchorSeen.l0 kj10 l0 true 0 a1_0 a1_1) else (if 0 ≤ t321 then (if t321 < (l0.length : Int) then ((anchor_Sight.f ((rd_T56 l0 t321).f1.f0) ((rd_T56 l0 t321).f1.f1) a1_0 a1_1).bind fun t328 => (if t328 = 0 then (valancelaw12_AnchorSeen.j2 kj10 l0 true t321 true a1_0 a1_1) else (valancelaw12_AnchorSeen.j2 kj10 l0 true t321 ((rd_T56 l0 t321).f2) a1_0 a1_1))) else (none)) else (none))) = some r := by rw [if_neg (show ¬ (false = true) by decide)] at H; exact H
            clear H
            have H := H1
            clear H1
            by_cases c19 : t321 = (-1)
            · rw [if_pos c19] at H
              have c19b0 : (t321 == (-1)) = true := beq_iff_eq.mpr c19
              have c19b1 : (t321 != (-1)) = false := bne_eq_false_iff_eq.mpr c19
              clear c19
              have H' := Aside0.mk H
              clear H
              go_wp2
              go_loopg [7] kj10 (fun kq v7 w' => ∃ (x7_2 : Int), v7 = .int .i64 x7_2 ∧ Aside0 (valancelaw12_AnchorSeen.l0 kq l0 true x7_2 a1_0 a1_1 = some r) ∧ Aside0 (kq ≤ kj10) ∧ Aside0 (w'.heap[gb319]? = some (.cells #[.int .i64 a1_0, .int .i64 a1_1] 23 (0, 0))) ∧ Aside0 (Below w.heap.size w w'))
              case atStart => exact ⟨(0), (by first | rfl | (simp; done) | (simp [*]; done)), H', ⟨Nat.le_refl _⟩, ⟨by (with_reducible repeat (first | refine blk_drewN ?_ _ | refine blk_drew ?_ | refine blk_alloc ?_ _)); exact BK319.out⟩, ⟨by repeat (first | (with_reducible first | exact HB.out | apply below_alloc | apply pw_below_drewN | apply below_drew1 | refine below_set ?_ GE319.out) | exact HB.out)⟩⟩
              case round =>
                clear H'
                try clear c1
                try clear c2
                try clear p2
                try clear c3
                try clear c4
                try clear c5
                try clear c5b0
                try clear c5b1
                try clear c10
                try clear c17
                try clear c17b0
                try clear c18
                try clear c19
                try clear c19b0
                try clear c19b1
                try clear hcz14_0
                try clear hcz14_1
                try clear hfz14_0
                try clear hfz14_1
                try clear p2
                obtain ⟨x7_2, rfl, HA, HK2, BK319, HB⟩ := hrel
                cases gk with
                | zero => exact absurd HA.out (by simp [valancelaw12_AnchorSeen.l0])
                | succ k2 =>
                  have H := HA.out
                  clear HA
                  simp only [valancelaw12_AnchorSeen.l0] at H
                  by_cases c20 : x7_2 < (l0.length : Int)
                  · rw [if_pos c20] at H
                    have c20b0 : decide (x7_2 < (l0.length : Int)) = true := decide_eq_true c20
                    clear c20
                    by_cases c21 : 0 ≤ x7_2
                    case neg =>
                      rw [if_neg c21] at H
                      exact absurd H (by simp)
                    rw [if_pos c21] at H
                    have c21b0 : decide (0 ≤ x7_2) = true := decide_eq_true c21
                    clear c21
                    by_cases c22 : ((rd_T56 l0 x7_2).f0) = (-1)
                    · rw [if_pos c22] at H
                      have c22b0 : (((rd_T56 l0 x7_2).f0) == (-1)) = true := beq_iff_eq.mpr c22
                      have c22b1 : (((rd_T56 l0 x7_2).f0) != (-1)) = false := bne_eq_false_iff_eq.mpr c22
                      clear c22
                      obtain ⟨bq23, hbq23⟩ : ∃ b_ : Bool, b_ = ((rd_T56 l0 x7_2).f2) := ⟨_, rfl⟩
                      replace H : (if (bq23 = true) then (valancelaw12_AnchorSeen.l0 k2 l0 true (wrap64 (x7_2 + 1)) a1_0 a1_1) else ((anchor_Sight.f ((rd_T56 l0 x7_2).f1.f0) ((rd_T56 l0 x7_2).f1.f1) a1_0 a1_1).bind fun t326 => (if t326 > 0 then (none) else (valancelaw12_AnchorSeen.l0 k2 l0 true (wrap64 (x7_2 + 1)) a1_0 a1_1)))) = some r := by rw [← hbq23] at H; exact H
                      have Nbq23 := Aside0.mk hbq23
                      clear hbq23
                      by_cases c24 : (bq23 = true)
                      · subst c24
                        have H1 : (valancelaw12_AnchorSeen.l0 k2 l0 true (wrap64 (x7_2 + 1)) a1_0 a1_1) = some r := by rw [if_pos rfl] at H; exact H
                        clear H
                        have H := H1
                        clear H1
                        have H' := Aside0.mk H
                        clear H
                        try go_wp2
                        have n0_ := Aside0.mk (blk_drew BK319.out)
                        have n1_ := Aside0.mk (below_drew1 HB.out)
                        clear BK319
                        clear HB
                        have BK319 := n0_
                        have HB := n1_
                        clear n0_ n1_
                        have p323 : 0 ≤ (x7_2 : Int) := of_decide_eq_true (by first | (with_reducible assumption) | assumption)
                        have q323 : x7_2 < (l0.length : Int) := of_decide_eq_true (by first | (with_reducible assumption) | assumption)
                        obtain ⟨ad323, e323, hx323_0, hx323_1, hx323_2, hx323_3⟩ := at_T56 HR0.out x7_2 p323 q323
                        have hw323_3 := hx323_3
                        have hw323_2 := hx323_2
                        have hw323_1 := hx323_1
                        have hw323_0 := hx323_0
                        (try rw [← Nbq23.out] at hx323_3)
                        (try rw [← Nbq23.out] at hw323_3)
                        cases e323
                        replace hx323_0 := (HB.out.cell (World.block_lt_of_cell? w _ hx323_0)).trans hx323_0
                        replace hx323_1 := (HB.out.cell (World.block_lt_of_cell? w _ hx323_1)).trans hx323_1
                        replace hx323_2 := (HB.out.cell (World.block_lt_of_cell? w _ hx323_2)).trans hx323_2
                        replace hx323_3 := (HB.out.cell (World.block_lt_of_cell? w _ hx323_3)).trans hx323_3
                        replace p323 := eq_true p323
                        replace q323 := eq_true q323
                        have p324 : 0 ≤ (x7_2 : Int) := of_decide_eq_true (by first | (with_reducible assumption) | assumption)
                        have q324 : x7_2 < (l0.length : Int) := of_decide_eq_true (by first | (with_reducible assumption) | assumption)
                        obtain ⟨ad324, e324, hx324_0, hx324_1, hx324_2, hx324_3⟩ := at_T56 HR0.out x7_2 p324 q324
                        have hw324_3 := hx324_3
                        have hw324_2 := hx324_2
                        have hw324_1 := hx324_1
                        have hw324_0 := hx324_0
                        (try rw [← Nbq23.out] at hx324_3)
                        (try rw [← Nbq23.out] at hw324_3)
                        obtain rfl : ad323 = ad324 := (by injection e324)
                        replace hx324_0 := (HB.out.cell (World.block_lt_of_cell? w _ hx324_0)).trans hx324_0
                        replace hx324_1 := (HB.out.cell (World.block_lt_of_cell? w _ hx324_1)).trans hx324_1
                        replace hx324_2 := (HB.out.cell (World.block_lt_of_cell? w _ hx324_2)).trans hx324_2
                        replace hx324_3 := (HB.out.cell (World.block_lt_of_cell? w _ hx324_3)).trans hx324_3
                        replace p324 := eq_true p324
                        replace q324 := eq_true q324
                        refine start_ (n := 24) (S := fun w' => w'.cell? (ad323.add ((x7_2).toNat * 4)) = some (.int .i64 ((rd_T56 l0 x7_2).f0)) ∧ w'.cell? ⟨(ad323.add ((x7_2).toNat * 4)).block, (ad323.add ((x7_2).toNat * 4)).off + 1, none⟩ = some (.int .i64 ((rd_T56 l0 x7_2).f1.f0)) ∧ w'.cell? ⟨(ad323.add ((x7_2).toNat * 4)).block, (ad323.add ((x7_2).toNat * 4)).off + 2, none⟩ = some (.int .i64 ((rd_T56 l0 x7_2).f1.f1)) ∧ w'.cell? ⟨(ad323.add ((x7_2).toNat * 4)).block, (ad323.add ((x7_2).toNat * 4)).off + 3, none⟩ = some (.bool true) ∧ w'.cell? (ad323.add ((x7_2).toNat * 4)) = some (.int .i64 ((rd_T56 l0 x7_2).f0)) ∧ w'.cell? ⟨(ad323.add ((x7_2).toNat * 4)).block, (ad323.add ((x7_2).toNat * 4)).off + 1, none⟩ = some (.int .i64 ((rd_T56 l0 x7_2).f1.f0)) ∧ w'.cell? ⟨(ad323.add ((x7_2).toNat * 4)).block, (ad323.add ((x7_2).toNat * 4)).off + 2, none⟩ = some (.int .i64 ((rd_T56 l0 x7_2).f1.f1)) ∧ w'.cell? ⟨(ad323.add ((x7_2).toNat * 4)).block, (ad323.add ((x7_2).toNat * 4)).off + 3, none⟩ = some (.bool true)) (ds := []) #[ff,ff,ff,ff,ff,ff,ff,ff,ff,ff,ff,ff,ff,ff,ff,ff,ff,ff,ff,ff,ff,ff,ff,ff] (by kernel_rfl) rfl rfl ⟨((HB.out.cell (World.block_lt_of_cell? w _ hw323_0)).trans hw323_0), ((HB.out.cell (World.block_lt_of_cell? w _ hw323_1)).trans hw323_1), ((HB.out.cell (World.block_lt_of_cell? w _ hw323_2)).trans hw323_2), ((HB.out.cell (World.block_lt_of_cell? w _ hw323_3)).trans hw323_3), ((HB.out.cell (World.block_lt_of_cell? w _ hw324_0)).trans hw324_0), ((HB.out.cell (World.block_lt_of_cell? w _ hw324_1)).trans hw324_1), ((HB.out.cell (World.block_lt_of_cell? w _ hw324_2)).trans hw324_2), ((HB.out.cell (World.block_lt_of_cell? w _ hw324_3)).trans hw324_3)⟩ (fun hHeld => ?_); refine with_tabW valancelaw12_AnchorSeen.tab15 valancelaw12_AnchorSeen.bits15 (fun HT_ HW_ => ?_)
                        generalize wr.drew = w25 at BK319 HB hx323_0 hx323_1 hx323_2 hx323_3 hx324_0 hx324_1 hx324_2 hx324_3 hHeld ⊢
                        refine pure_ (i := 0) (N := some 45) (v := ?_) (a' := ?_) #[tt,ff,ff,ff,ff,ff,ff,ff,ff,ff,ff,ff,ff,ff,ff,ff,ff,ff,ff,ff,ff,ff,ff,ff] rfl rfl (any_of HT_.out (by kernel_rfl)) (fun _ _ _ h => h) (Or.inl ⟨by rfl, ?_⟩) ?_ ?_
                        rotate_left
                        · intro w'
                          go_simp
                          with_reducible rfl
                        rotate_left
                        · simp only [Act.put, List.setIfInBounds_toArray, List.set_cons_zero, List.set_cons_succ, i64_w, i32_w]
                          rfl
                        refine pure_ (i := 1) (N := some 46) (v := ?_) (a' := ?_) #[tt,tt,ff,ff,ff,ff,ff,ff,ff,ff,ff,ff,ff,ff,ff,ff,ff,ff,ff,ff,ff,ff,ff,ff] rfl rfl (any_of HT_.out (by kernel_rfl)) (fun _ _ _ h => h) (Or.inl ⟨by rfl, ?_⟩) ?_ ?_
                        rotate_left
                        · intro w'
                          go_simp
                          with_reducible rfl
                        rotate_left
                        · simp only [Act.put, List.setIfInBounds_toArray, List.set_cons_zero, List.set_cons_succ, i64_w, i32_w]
                          rfl
                        refine pure_ (i := 2) (N := some 47) (v := ?_) (a' := ?_) #[tt,tt,tt,ff,ff,ff,ff,ff,ff,ff,ff,ff,ff,ff,ff,ff,ff,ff,ff,ff,ff,ff,ff,ff] rfl rfl (any_of HT_.out (by kernel_rfl)) (fun _ _ _ h => h) (Or.inl ⟨by rfl, ?_⟩) ?_ ?_
                        rotate_left
                        · intro w'
                          go_simp
                          with_reducible rfl
                        rotate_left
                        · simp only [Act.put, List.setIfInBounds_toArray, List.set_cons_zero, List.set_cons_succ, i64_w, i32_w]
                          rfl
                        refine pure_ (i := 3) (N := some 48) (v := ?_) (a' := ?_) #[tt,tt,tt,tt,ff,ff,ff,ff,ff,ff,ff,ff,ff,ff,ff,ff,ff,ff,ff,ff,ff,ff,ff,ff] rfl rfl (any_of HT_.out (by kernel_rfl)) (fun _ _ _ h => h) (Or.inl ⟨by rfl, ?_⟩) ?_ ?_
                        rotate_left
                        · intro w'
                          go_simp
                          with_reducible rfl
                        rotate_left
                        · simp only [Act.put, List.setIfInBounds_toArray, List.set_cons_zero, List.set_cons_succ, i64_w, i32_w]
                          rfl
                        refine take_ (i := 4) (N := some 49) (v := ?_) (a' := ?_) #[tt,tt,tt,tt,tt,ff,ff,ff,ff,ff,ff,ff,ff,ff,ff,ff,ff,ff,ff,ff,ff,ff,ff,ff] rfl rfl (take_ofW HT_.out HW_.out (by kernel_rfl)) (fun _ _ _ h => h) (Or.inl ⟨by rfl, ?_⟩) hHeld ?_ ?_
                        rotate_left
                        · rintro w' ⟨s0, s1, s2, s3, s4, s5, s6, s7⟩
                          go_simp
                          with_reducible rfl
                        rotate_left
                        · simp only [Act.put, List.setIfInBounds_toArray, List.set_cons_zero, List.set_cons_succ, i64_w, i32_w]
                          rfl
                        refine pure_ (i := 5) (N := some 50) (v := ?_) (a' := ?_) #[tt,tt,tt,tt,tt,tt,ff,ff,ff,ff,ff,ff,ff,ff,ff,ff,ff,ff,ff,ff,ff,ff,ff,ff] rfl rfl (any_of HT_.out (by kernel_rfl)) (fun _ _ _ h => h) (Or.inl ⟨by rfl, ?_⟩) ?_ ?_
                        rotate_left
                        · intro w'
                          go_simp
                          with_reducible rfl
                        rotate_left
                        · simp only [Act.put, List.setIfInBounds_toArray, List.set_cons_zero, List.set_cons_succ, i64_w, i32_w]
                          rfl
                        refine pure_ (i := 6) (N := some 51) (v := ?_) (a' := ?_) #[tt,tt,tt,tt,tt,tt,tt,ff,ff,ff,ff,ff,ff,ff,ff,ff,ff,ff,ff,ff,ff,ff,ff,ff] rfl rfl (any_of HT_.out (by kernel_rfl)) (fun _ _ _ h => h) (Or.inl ⟨by rfl, ?_⟩) ?_ ?_
                        rotate_left
                        · intro w'
                          go_simp
                          with_reducible rfl
                        rotate_left
                        · simp only [Act.put, List.setIfInBounds_toArray, List.set_cons_zero, List.set_cons_succ, i64_w, i32_w]
                          rfl
                        refine pure_ (i := 7) (N := some 52) (v := ?_) (a' := ?_) #[tt,tt,tt,tt,tt,tt,tt,tt,ff,ff,ff,ff,ff,ff,ff,ff,ff,ff,ff,ff,ff,ff,ff,ff] rfl rfl (any_of HT_.out (by kernel_rfl)) (fun _ _ _ h => h) (Or.inl ⟨by rfl, ?_⟩) ?_ ?_
                        rotate_left
                        · intro w'
                          go_simp
                          with_reducible rfl
                        rotate_left
                        · simp only [Act.put, List.setIfInBounds_toArray, List.set_cons_zero, List.set_cons_succ, i64_w, i32_w]
                          rfl
                        refine pure_ (i := 8) (N := some 53) (v := ?_) (a' := ?_) #[tt,tt,tt,tt,tt,tt,tt,tt,tt,ff,ff,ff,ff,ff,ff,ff,ff,ff,ff,ff,ff,ff,ff,ff] rfl rfl (any_of HT_.out (by kernel_rfl)) (fun _ _ _ h => h) (Or.inl ⟨by rfl, ?_⟩) ?_ ?_
                        rotate_left
                        · intro w'
                          go_simp
                          with_reducible rfl
                        rotate_left
                        · simp only [Act.put, List.setIfInBounds_toArray, List.set_cons_zero, List.set_cons_succ, i64_w, i32_w]
                          rfl
                        refine pure_ (i := 9) (N := some 54) (v := ?_) (a' := ?_) #[tt,tt,tt,tt,tt,tt,tt,tt,tt,tt,ff,ff,ff,ff,ff,ff,ff,ff,ff,ff,ff,ff,ff,ff] rfl rfl (any_of HT_.out (by kernel_rfl)) (fun _ _ _ h => h) (Or.inl ⟨by rfl, ?_⟩) ?_ ?_
                        rotate_left
                        · intro w'
                          go_simp
                          with_reducible rfl
                        rotate_left
                        · simp only [Act.put, List.setIfInBounds_toArray, List.set_cons_zero, List.set_cons_succ, i64_w, i32_w]
                          rfl
                        refine pure_ (i := 10) (N := some 55) (v := ?_) (a' := ?_) #[tt,tt,tt,tt,tt,tt,tt,tt,tt,tt,tt,ff,ff,ff,ff,ff,ff,ff,ff,ff,ff,ff,ff,ff] rfl rfl (any_of HT_.out (by kernel_rfl)) (fun _ _ _ h => h) (Or.inl ⟨by rfl, ?_⟩) ?_ ?_
                        rotate_left
                        · intro w'
                          go_simp
                          with_reducible rfl
                        rotate_left
                        · simp only [Act.put, List.setIfInBounds_toArray, List.set_cons_zero, List.set_cons_succ, i64_w, i32_w]
                          rfl
                        refine take_ (i := 11) (N := some 56) (v := ?_) (a' := ?_) #[tt,tt,tt,tt,tt,tt,tt,tt,tt,tt,tt,tt,ff,ff,ff,ff,ff,ff,ff,ff,ff,ff,ff,ff] rfl rfl (take_ofW HT_.out HW_.out (by kernel_rfl)) (fun _ _ _ h => h) (Or.inl ⟨by rfl, ?_⟩) hHeld ?_ ?_
                        rotate_left
                        · rintro w' ⟨s0, s1, s2, s3, s4, s5, s6, s7⟩
                          go_simp
                          with_reducible rfl
                        rotate_left
                        · simp only [Act.put, List.setIfInBounds_toArray, List.set_cons_zero, List.set_cons_succ, i64_w, i32_w]
                          rfl
                        refine pure_ (i := 12) (N := some 57) (v := ?_) (a' := ?_) #[tt,tt,tt,tt,tt,tt,tt,tt,tt,tt,tt,tt,tt,ff,ff,ff,ff,ff,ff,ff,ff,ff,ff,ff] rfl rfl (any_of HT_.out (by kernel_rfl)) (fun _ _ _ h => h) (Or.inl ⟨by rfl, ?_⟩) ?_ ?_
                        rotate_left
                        · intro w'
                          go_simp
                          with_reducible rfl
                        rotate_left
                        · simp only [Act.put, List.setIfInBounds_toArray, List.set_cons_zero, List.set_cons_succ, i64_w, i32_w]
                          rfl
                        refine pure_ (i := 13) (N := some 58) (v := ?_) (a' := ?_) #[tt,tt,tt,tt,tt,tt,tt,tt,tt,tt,tt,tt,tt,tt,ff,ff,ff,ff,ff,ff,ff,ff,ff,ff] rfl rfl (any_of HT_.out (by kernel_rfl)) (fun _ _ _ h => h) (Or.inl ⟨by rfl, ?_⟩) ?_ ?_
                        rotate_left
                        · intro w'
                          go_simp
                          with_reducible rfl
                        rotate_left
                        · simp only [Act.put, List.setIfInBounds_toArray, List.set_cons_zero, List.set_cons_succ, i64_w, i32_w]
                          rfl
                        refine pure_ (i := 14) (N := some 59) (v := ?_) (a' := ?_) #[tt,tt,tt,tt,tt,tt,tt,tt,tt,tt,tt,tt,tt,tt,tt,ff,ff,ff,ff,ff,ff,ff,ff,ff] rfl rfl (any_of HT_.out (by kernel_rfl)) (fun _ _ _ h => h) (Or.inl ⟨by rfl, ?_⟩) ?_ ?_
                        rotate_left
                        · intro w'
                          go_simp
                          with_reducible rfl
                        rotate_left
                        · simp only [Act.put, List.setIfInBounds_toArray, List.set_cons_zero, List.set_cons_succ, i64_w, i32_w]
                          rfl
                        refine pure_ (i := 15) (N := some 60) (v := undef) (a' := ?_) #[tt,tt,tt,tt,tt,tt,tt,tt,tt,tt,tt,tt,tt,tt,tt,tt,ff,ff,ff,ff,ff,ff,ff,ff] rfl rfl (any_of HT_.out (by kernel_rfl)) (fun _ _ _ h => h) (Or.inr ⟨by rfl, rfl⟩) ?_ ?_
                        rotate_left
                        · simp only [Act.put, List.setIfInBounds_toArray, List.set_cons_zero, List.set_cons_succ, i64_w, i32_w]
                          rfl
                        refine pure_ (i := 16) (N := some 61) (v := undef) (a' := ?_) #[tt,tt,tt,tt,tt,tt,tt,tt,tt,tt,tt,tt,tt,tt,tt,tt,tt,ff,ff,ff,ff,ff,ff,ff] rfl rfl (any_of HT_.out (by kernel_rfl)) (fun _ _ _ h => h) (Or.inr ⟨by rfl, rfl⟩) ?_ ?_
                        rotate_left
                        · simp only [Act.put, List.setIfInBounds_toArray, List.set_cons_zero, List.set_cons_succ, i64_w, i32_w]
                          rfl
                        refine pure_ (i := 17) (N := some 62) (v := undef) (a' := ?_) #[tt,tt,tt,tt,tt,tt,tt,tt,tt,tt,tt,tt,tt,tt,tt,tt,tt,tt,ff,ff,ff,ff,ff,ff] rfl rfl (any_of HT_.out (by kernel_rfl)) (fun _ _ _ h => h) (Or.inr ⟨by rfl, rfl⟩) ?_ ?_
                        rotate_left
                        · simp only [Act.put, List.setIfInBounds_toArray, List.set_cons_zero, List.set_cons_succ, i64_w, i32_w]
                          rfl
                        refine pure_ (i := 18) (N := some 63) (v := undef) (a' := ?_) #[tt,tt,tt,tt,tt,tt,tt,tt,tt,tt,tt,tt,tt,tt,tt,tt,tt,tt,tt,ff,ff,ff,ff,ff] rfl rfl (any_of HT_.out (by kernel_rfl)) (fun _ _ _ h => h) (Or.inr ⟨by rfl, rfl⟩) ?_ ?_
                        rotate_left
                        · simp only [Act.put, List.setIfInBounds_toArray, List.set_cons_zero, List.set_cons_succ, i64_w, i32_w]
                          rfl
                        refine pure_ (i := 19) (N := some 64) (v := undef) (a' := ?_) #[tt,tt,tt,tt,tt,tt,tt,tt,tt,tt,tt,tt,tt,tt,tt,tt,tt,tt,tt,tt,ff,ff,ff,ff] rfl rfl (any_of HT_.out (by kernel_rfl)) (fun _ _ _ h => h) (Or.inr ⟨by rfl, rfl⟩) ?_ ?_
                        rotate_left
                        · simp only [Act.put, List.setIfInBounds_toArray, List.set_cons_zero, List.set_cons_succ, i64_w, i32_w]
                          rfl
                        refine pure_ (i := 20) (N := some 65) (v := undef) (a' := ?_) #[tt,tt,tt,tt,tt,tt,tt,tt,tt,tt,tt,tt,tt,tt,tt,tt,tt,tt,tt,tt,tt,ff,ff,ff] rfl rfl (any_of HT_.out (by kernel_rfl)) (fun _ _ _ h => h) (Or.inr ⟨by rfl, rfl⟩) ?_ ?_
                        rotate_left
                        · simp only [Act.put, List.setIfInBounds_toArray, List.set_cons_zero, List.set_cons_succ, i64_w, i32_w]
                          rfl
                        refine pure_ (i := 21) (N := some 66) (v := undef) (a' := ?_) #[tt,tt,tt,tt,tt,tt,tt,tt,tt,tt,tt,tt,tt,tt,tt,tt,tt,tt,tt,tt,tt,tt,ff,ff] rfl rfl (any_of HT_.out (by kernel_rfl)) (fun _ _ _ h => h) (Or.inr ⟨by rfl, rfl⟩) ?_ ?_
                        rotate_left
                        · simp only [Act.put, List.setIfInBounds_toArray, List.set_cons_zero, List.set_cons_succ, i64_w, i32_w]
                          rfl
                        refine pure_ (i := 22) (N := some 67) (v := undef) (a' := ?_) #[tt,tt,tt,tt,tt,tt,tt,tt,tt,tt,tt,tt,tt,tt,tt,tt,tt,tt,tt,tt,tt,tt,tt,ff] rfl rfl (any_of HT_.out (by kernel_rfl)) (fun _ _ _ h => h) (Or.inr ⟨by rfl, rfl⟩) ?_ ?_
                        rotate_left
                        · simp only [Act.put, List.setIfInBounds_toArray, List.set_cons_zero, List.set_cons_succ, i64_w, i32_w]
                          rfl
                        refine pure_ (i := 23) (N := some 68) (v := ?_) (a' := ?_) #[tt,tt,tt,tt,tt,tt,tt,tt,tt,tt,tt,tt,tt,tt,tt,tt,tt,tt,tt,tt,tt,tt,tt,tt] rfl rfl (any_of HT_.out (by kernel_rfl)) (fun _ _ _ h => h) (Or.inl ⟨by rfl, ?_⟩) ?_ ?_
                        rotate_left
                        · intro w'
                          go_simp
                          with_reducible rfl
                        rotate_left
                        · simp only [Act.put, List.setIfInBounds_toArray, List.set_cons_zero, List.set_cons_succ, i64_w, i32_w]
                          rfl
                        refine done_ (done_of HT_.out (by kernel_rfl)) ?_
                        try go_wp2
                        go_roundg k2
                        case measure => have := HJ10.out; have := HK2.out; omega
                        case rel => exact ⟨(wrap64 (x7_2 + 1)), (by first | rfl | (simp; done) | (simp [*]; done)), H', ⟨by have := HJ10.out; have := HK2.out; omega⟩, ⟨by (with_reducible repeat (first | refine blk_drewN ?_ _ | refine blk_drew ?_ | refine blk_alloc ?_ _)); exact BK319.out⟩, ⟨by repeat (first | (with_reducible first | exact HB.out | apply below_alloc | apply pw_below_drewN | apply below_drew1 | refine below_set ?_ GE319.out) | exact HB.out)⟩⟩
                      · replace c24 := Bool.eq_false_iff.mpr c24
                        subst c24
                        have H1 : ((anchor_Sight.f ((rd_T56 l0 x7_2).f1.f0) ((rd_T56 l0 x7_2).f1.f1) a1_0 a1_1).bind fun t326 => (if t326 > 0 then (none) else (valancelaw12_AnchorSeen.l0 k2 l0 true (wrap64 (x7_2 + 1)) a1_0 a1_1))) = some r := by rw [if_neg (show ¬ (false = true) by decide)] at H; exact H
                        clear H
                        have H := H1
                        clear H1
                        replace H := Option.bind_eq_some_iff.mp H
                        obtain ⟨t326, A260, H⟩ := H
                        replace H : (if t326 > 0 then (none) else (valancelaw12_AnchorSeen.l0 k2 l0 true (wrap64 (x7_2 + 1)) a1_0 a1_1)) = some r := H
                        have A26 := Aside0.mk A260
                        clear A260
                        by_cases c27 : t326 > 0
                        · rw [if_pos c27] at H
                          exact absurd H (by simp)
                        · rw [if_neg c27] at H
                          have c27b0 : decide (0 < t326) = false := decide_eq_false c27
                          clear c27
                          have H' := Aside0.mk H
                          clear H
                          try go_wp2
                          have n0_ := Aside0.mk (blk_drew BK319.out)
                          have n1_ := Aside0.mk (below_drew1 HB.out)
                          clear BK319
                          clear HB
                          have BK319 := n0_
                          have HB := n1_
                          clear n0_ n1_
                          have p323 : 0 ≤ (x7_2 : Int) := of_decide_eq_true (by first | (with_reducible assumption) | assumption)
                          have q323 : x7_2 < (l0.length : Int) := of_decide_eq_true (by first | (with_reducible assumption) | assumption)
                          obtain ⟨ad323, e323, hx323_0, hx323_1, hx323_2, hx323_3⟩ := at_T56 HR0.out x7_2 p323 q323
                          have hw323_3 := hx323_3
                          have hw323_2 := hx323_2
                          have hw323_1 := hx323_1
                          have hw323_0 := hx323_0
                          (try rw [← Nbq23.out] at hx323_3)
                          (try rw [← Nbq23.out] at hw323_3)
                          cases e323
                          replace hx323_0 := (HB.out.cell (World.block_lt_of_cell? w _ hx323_0)).trans hx323_0
                          replace hx323_1 := (HB.out.cell (World.block_lt_of_cell? w _ hx323_1)).trans hx323_1
                          replace hx323_2 := (HB.out.cell (World.block_lt_of_cell? w _ hx323_2)).trans hx323_2
                          replace hx323_3 := (HB.out.cell (World.block_lt_of_cell? w _ hx323_3)).trans hx323_3
                          replace p323 := eq_true p323
                          replace q323 := eq_true q323
                          have p324 : 0 ≤ (x7_2 : Int) := of_decide_eq_true (by first | (with_reducible assumption) | assumption)
                          have q324 : x7_2 < (l0.length : Int) := of_decide_eq_true (by first | (with_reducible assumption) | assumption)
                          obtain ⟨ad324, e324, hx324_0, hx324_1, hx324_2, hx324_3⟩ := at_T56 HR0.out x7_2 p324 q324
                          have hw324_3 := hx324_3
                          have hw324_2 := hx324_2
                          have hw324_1 := hx324_1
                          have hw324_0 := hx324_0
                          (try rw [← Nbq23.out] at hx324_3)
                          (try rw [← Nbq23.out] at hw324_3)
                          obtain rfl : ad323 = ad324 := (by injection e324)
                          replace hx324_0 := (HB.out.cell (World.block_lt_of_cell? w _ hx324_0)).trans hx324_0
                          replace hx324_1 := (HB.out.cell (World.block_lt_of_cell? w _ hx324_1)).trans hx324_1
                          replace hx324_2 := (HB.out.cell (World.block_lt_of_cell? w _ hx324_2)).trans hx324_2
                          replace hx324_3 := (HB.out.cell (World.block_lt_of_cell? w _ hx324_3)).trans hx324_3
                          replace p324 := eq_true p324
                          replace q324 := eq_true q324
                          have p325 : 0 ≤ (x7_2 : Int) := of_decide_eq_true (by first | (with_reducible assumption) | assumption)
                          have q325 : x7_2 < (l0.length : Int) := of_decide_eq_true (by first | (with_reducible assumption) | assumption)
                          obtain ⟨ad325, e325, hx325_0, hx325_1, hx325_2, hx325_3⟩ := at_T56 HR0.out x7_2 p325 q325
                          have hw325_3 := hx325_3
                          have hw325_2 := hx325_2
                          have hw325_1 := hx325_1
                          have hw325_0 := hx325_0
                          (try rw [← Nbq23.out] at hx325_3)
                          (try rw [← Nbq23.out] at hw325_3)
                          obtain rfl : ad323 = ad325 := (by injection e325)
                          replace hx325_0 := (HB.out.cell (World.block_lt_of_cell? w _ hx325_0)).trans hx325_0
                          replace hx325_1 := (HB.out.cell (World.block_lt_of_cell? w _ hx325_1)).trans hx325_1
                          replace hx325_2 := (HB.out.cell (World.block_lt_of_cell? w _ hx325_2)).trans hx325_2
                          replace hx325_3 := (HB.out.cell (World.block_lt_of_cell? w _ hx325_3)).trans hx325_3
                          replace p325 := eq_true p325
                          replace q325 := eq_true q325
                          refine start_ (n := 24) (S := fun w' => w'.cell? ⟨gb319, 0, none⟩ = some (.int .i64 a1_0) ∧ w'.cell? ⟨gb319, 1, none⟩ = some (.int .i64 a1_1) ∧ w'.cell? (ad323.add ((x7_2).toNat * 4)) = some (.int .i64 ((rd_T56 l0 x7_2).f0)) ∧ w'.cell? ⟨(ad323.add ((x7_2).toNat * 4)).block, (ad323.add ((x7_2).toNat * 4)).off + 1, none⟩ = some (.int .i64 ((rd_T56 l0 x7_2).f1.f0)) ∧ w'.cell? ⟨(ad323.add ((x7_2).toNat * 4)).block, (ad323.add ((x7_2).toNat * 4)).off + 2, none⟩ = some (.int .i64 ((rd_T56 l0 x7_2).f1.f1)) ∧ w'.cell? ⟨(ad323.add ((x7_2).toNat * 4)).block, (ad323.add ((x7_2).toNat * 4)).off + 3, none⟩ = some (.bool false) ∧ w'.cell? (ad323.add ((x7_2).toNat * 4)) = some (.int .i64 ((rd_T56 l0 x7_2).f0)) ∧ w'.cell? ⟨(ad323.add ((x7_2).toNat * 4)).block, (ad323.add ((x7_2).toNat * 4)).off + 1, none⟩ = some (.int .i64 ((rd_T56 l0 x7_2).f1.f0)) ∧ w'.cell? ⟨(ad323.add ((x7_2).toNat * 4)).block, (ad323.add ((x7_2).toNat * 4)).off + 2, none⟩ = some (.int .i64 ((rd_T56 l0 x7_2).f1.f1)) ∧ w'.cell? ⟨(ad323.add ((x7_2).toNat * 4)).block, (ad323.add ((x7_2).toNat * 4)).off + 3, none⟩ = some (.bool false) ∧ w'.cell? (ad323.add ((x7_2).toNat * 4)) = some (.int .i64 ((rd_T56 l0 x7_2).f0)) ∧ w'.cell? ⟨(ad323.add ((x7_2).toNat * 4)).block, (ad323.add ((x7_2).toNat * 4)).off + 1, none⟩ = some (.int .i64 ((rd_T56 l0 x7_2).f1.f0)) ∧ w'.cell? ⟨(ad323.add ((x7_2).toNat * 4)).block, (ad323.add ((x7_2).toNat * 4)).off + 2, none⟩ = some (.int .i64 ((rd_T56 l0 x7_2).f1.f1)) ∧ w'.cell? ⟨(ad323.add ((x7_2).toNat * 4)).block, (ad323.add ((x7_2).toNat * 4)).off + 3, none⟩ = some (.bool (false))) (ds := []) #[ff,ff,ff,ff,ff,ff,ff,ff,ff,ff,ff,ff,ff,ff,ff,ff,ff,ff,ff,ff,ff,ff,ff,ff] (by kernel_rfl) rfl rfl ⟨(blk_cell BK319.out 0).trans rfl, (blk_cell BK319.out 1).trans rfl, ((HB.out.cell (World.block_lt_of_cell? w _ hw323_0)).trans hw323_0), ((HB.out.cell (World.block_lt_of_cell? w _ hw323_1)).trans hw323_1), ((HB.out.cell (World.block_lt_of_cell? w _ hw323_2)).trans hw323_2), ((HB.out.cell (World.block_lt_of_cell? w _ hw323_3)).trans hw323_3), ((HB.out.cell (World.block_lt_of_cell? w _ hw324_0)).trans hw324_0), ((HB.out.cell (World.block_lt_of_cell? w _ hw324_1)).trans hw324_1), ((HB.out.cell (World.block_lt_of_cell? w _ hw324_2)).trans hw324_2), ((HB.out.cell (World.block_lt_of_cell? w _ hw324_3)).trans hw324_3), ((HB.out.cell (World.block_lt_of_cell? w _ hw325_0)).trans hw325_0), ((HB.out.cell (World.block_lt_of_cell? w _ hw325_1)).trans hw325_1), ((HB.out.cell (World.block_lt_of_cell? w _ hw325_2)).trans hw325_2), ((HB.out.cell (World.block_lt_of_cell? w _ hw325_3)).trans hw325_3)⟩ (fun hHeld => ?_); refine with_tabW valancelaw12_AnchorSeen.tab15 valancelaw12_AnchorSeen.bits15 (fun HT_ HW_ => ?_)
                          generalize wr.drew = w28 at BK319 HB hx323_0 hx323_1 hx323_2 hx323_3 hx324_0 hx324_1 hx324_2 hx324_3 hx325_0 hx325_1 hx325_2 hx325_3 hHeld ⊢
                          refine pure_ (i := 0) (N := some 45) (v := ?_) (a' := ?_) #[tt,ff,ff,ff,ff,ff,ff,ff,ff,ff,ff,ff,ff,ff,ff,ff,ff,ff,ff,ff,ff,ff,ff,ff] rfl rfl (any_of HT_.out (by kernel_rfl)) (fun _ _ _ h => h) (Or.inl ⟨by rfl, ?_⟩) ?_ ?_
                          rotate_left
                          · intro w'
                            go_simp
                            with_reducible rfl
                          rotate_left
                          · simp only [Act.put, List.setIfInBounds_toArray, List.set_cons_zero, List.set_cons_succ, i64_w, i32_w]
                            rfl
                          refine pure_ (i := 1) (N := some 46) (v := ?_) (a' := ?_) #[tt,tt,ff,ff,ff,ff,ff,ff,ff,ff,ff,ff,ff,ff,ff,ff,ff,ff,ff,ff,ff,ff,ff,ff] rfl rfl (any_of HT_.out (by kernel_rfl)) (fun _ _ _ h => h) (Or.inl ⟨by rfl, ?_⟩) ?_ ?_
                          rotate_left
                          · intro w'
                            go_simp
                            with_reducible rfl
                          rotate_left
                          · simp only [Act.put, List.setIfInBounds_toArray, List.set_cons_zero, List.set_cons_succ, i64_w, i32_w]
                            rfl
                          refine pure_ (i := 2) (N := some 47) (v := ?_) (a' := ?_) #[tt,tt,tt,ff,ff,ff,ff,ff,ff,ff,ff,ff,ff,ff,ff,ff,ff,ff,ff,ff,ff,ff,ff,ff] rfl rfl (any_of HT_.out (by kernel_rfl)) (fun _ _ _ h => h) (Or.inl ⟨by rfl, ?_⟩) ?_ ?_
                          rotate_left
                          · intro w'
                            go_simp
                            with_reducible rfl
                          rotate_left
                          · simp only [Act.put, List.setIfInBounds_toArray, List.set_cons_zero, List.set_cons_succ, i64_w, i32_w]
                            rfl
                          refine pure_ (i := 3) (N := some 48) (v := ?_) (a' := ?_) #[tt,tt,tt,tt,ff,ff,ff,ff,ff,ff,ff,ff,ff,ff,ff,ff,ff,ff,ff,ff,ff,ff,ff,ff] rfl rfl (any_of HT_.out (by kernel_rfl)) (fun _ _ _ h => h) (Or.inl ⟨by rfl, ?_⟩) ?_ ?_
                          rotate_left
                          · intro w'
                            go_simp
                            with_reducible rfl
                          rotate_left
                          · simp only [Act.put, List.setIfInBounds_toArray, List.set_cons_zero, List.set_cons_succ, i64_w, i32_w]
                            rfl
                          refine take_ (i := 4) (N := some 49) (v := ?_) (a' := ?_) #[tt,tt,tt,tt,tt,ff,ff,ff,ff,ff,ff,ff,ff,ff,ff,ff,ff,ff,ff,ff,ff,ff,ff,ff] rfl rfl (take_ofW HT_.out HW_.out (by kernel_rfl)) (fun _ _ _ h => h) (Or.inl ⟨by rfl, ?_⟩) hHeld ?_ ?_
                          rotate_left
                          · rintro w' ⟨s0, s1, s2, s3, s4, s5, s6, s7, s8, s9, s10, s11, s12, s13⟩
                            go_simp
                            with_reducible rfl
                          rotate_left
                          · simp only [Act.put, List.setIfInBounds_toArray, List.set_cons_zero, List.set_cons_succ, i64_w, i32_w]
                            rfl
                          refine pure_ (i := 5) (N := some 50) (v := ?_) (a' := ?_) #[tt,tt,tt,tt,tt,tt,ff,ff,ff,ff,ff,ff,ff,ff,ff,ff,ff,ff,ff,ff,ff,ff,ff,ff] rfl rfl (any_of HT_.out (by kernel_rfl)) (fun _ _ _ h => h) (Or.inl ⟨by rfl, ?_⟩) ?_ ?_
                          rotate_left
                          · intro w'
                            go_simp
                            with_reducible rfl
                          rotate_left
                          · simp only [Act.put, List.setIfInBounds_toArray, List.set_cons_zero, List.set_cons_succ, i64_w, i32_w]
                            rfl
                          refine pure_ (i := 6) (N := some 51) (v := ?_) (a' := ?_) #[tt,tt,tt,tt,tt,tt,tt,ff,ff,ff,ff,ff,ff,ff,ff,ff,ff,ff,ff,ff,ff,ff,ff,ff] rfl rfl (any_of HT_.out (by kernel_rfl)) (fun _ _ _ h => h) (Or.inl ⟨by rfl, ?_⟩) ?_ ?_
                          rotate_left
                          · intro w'
                            go_simp
                            with_reducible rfl
                          rotate_left
                          · simp only [Act.put, List.setIfInBounds_toArray, List.set_cons_zero, List.set_cons_succ, i64_w, i32_w]
                            rfl
                          refine pure_ (i := 7) (N := some 52) (v := ?_) (a' := ?_) #[tt,tt,tt,tt,tt,tt,tt,tt,ff,ff,ff,ff,ff,ff,ff,ff,ff,ff,ff,ff,ff,ff,ff,ff] rfl rfl (any_of HT_.out (by kernel_rfl)) (fun _ _ _ h => h) (Or.inl ⟨by rfl, ?_⟩) ?_ ?_
                          rotate_left
                          · intro w'
                            go_simp
                            with_reducible rfl
                          rotate_left
                          · simp only [Act.put, List.setIfInBounds_toArray, List.set_cons_zero, List.set_cons_succ, i64_w, i32_w]
                            rfl
                          refine pure_ (i := 8) (N := some 53) (v := ?_) (a' := ?_) #[tt,tt,tt,tt,tt,tt,tt,tt,tt,ff,ff,ff,ff,ff,ff,ff,ff,ff,ff,ff,ff,ff,ff,ff] rfl rfl (any_of HT_.out (by kernel_rfl)) (fun _ _ _ h => h) (Or.inl ⟨by rfl, ?_⟩) ?_ ?_
                          rotate_left
                          · intro w'
                            go_simp
                            with_reducible rfl
                          rotate_left
                          · simp only [Act.put, List.setIfInBounds_toArray, List.set_cons_zero, List.set_cons_succ, i64_w, i32_w]
                            rfl
                          refine pure_ (i := 9) (N := some 54) (v := ?_) (a' := ?_) #[tt,tt,tt,tt,tt,tt,tt,tt,tt,tt,ff,ff,ff,ff,ff,ff,ff,ff,ff,ff,ff,ff,ff,ff] rfl rfl (any_of HT_.out (by kernel_rfl)) (fun _ _ _ h => h) (Or.inl ⟨by rfl, ?_⟩) ?_ ?_
                          rotate_left
                          · intro w'
                            go_simp
                            with_reducible rfl
                          rotate_left
                          · simp only [Act.put, List.setIfInBounds_toArray, List.set_cons_zero, List.set_cons_succ, i64_w, i32_w]
                            rfl
                          refine pure_ (i := 10) (N := some 55) (v := ?_) (a' := ?_) #[tt,tt,tt,tt,tt,tt,tt,tt,tt,tt,tt,ff,ff,ff,ff,ff,ff,ff,ff,ff,ff,ff,ff,ff] rfl rfl (any_of HT_.out (by kernel_rfl)) (fun _ _ _ h => h) (Or.inl ⟨by rfl, ?_⟩) ?_ ?_
                          rotate_left
                          · intro w'
                            go_simp
                            with_reducible rfl
                          rotate_left
                          · simp only [Act.put, List.setIfInBounds_toArray, List.set_cons_zero, List.set_cons_succ, i64_w, i32_w]
                            rfl
                          refine take_ (i := 11) (N := some 56) (v := ?_) (a' := ?_) #[tt,tt,tt,tt,tt,tt,tt,tt,tt,tt,tt,tt,ff,ff,ff,ff,ff,ff,ff,ff,ff,ff,ff,ff] rfl rfl (take_ofW HT_.out HW_.out (by kernel_rfl)) (fun _ _ _ h => h) (Or.inl ⟨by rfl, ?_⟩) hHeld ?_ ?_
                          rotate_left
                          · rintro w' ⟨s0, s1, s2, s3, s4, s5, s6, s7, s8, s9, s10, s11, s12, s13⟩
                            go_simp
                            with_reducible rfl
                          rotate_left
                          · simp only [Act.put, List.setIfInBounds_toArray, List.set_cons_zero, List.set_cons_succ, i64_w, i32_w]
                            rfl
                          refine pure_ (i := 12) (N := some 57) (v := ?_) (a' := ?_) #[tt,tt,tt,tt,tt,tt,tt,tt,tt,tt,tt,tt,tt,ff,ff,ff,ff,ff,ff,ff,ff,ff,ff,ff] rfl rfl (any_of HT_.out (by kernel_rfl)) (fun _ _ _ h => h) (Or.inl ⟨by rfl, ?_⟩) ?_ ?_
                          rotate_left
                          · intro w'
                            go_simp
                            with_reducible rfl
                          rotate_left
                          · simp only [Act.put, List.setIfInBounds_toArray, List.set_cons_zero, List.set_cons_succ, i64_w, i32_w]
                            rfl
                          refine pure_ (i := 13) (N := some 58) (v := ?_) (a' := ?_) #[tt,tt,tt,tt,tt,tt,tt,tt,tt,tt,tt,tt,tt,tt,ff,ff,ff,ff,ff,ff,ff,ff,ff,ff] rfl rfl (any_of HT_.out (by kernel_rfl)) (fun _ _ _ h => h) (Or.inl ⟨by rfl, ?_⟩) ?_ ?_
                          rotate_left
                          · intro w'
                            go_simp
                            with_reducible rfl
                          rotate_left
                          · simp only [Act.put, List.setIfInBounds_toArray, List.set_cons_zero, List.set_cons_succ, i64_w, i32_w]
                            rfl
                          refine pure_ (i := 14) (N := some 59) (v := ?_) (a' := ?_) #[tt,tt,tt,tt,tt,tt,tt,tt,tt,tt,tt,tt,tt,tt,tt,ff,ff,ff,ff,ff,ff,ff,ff,ff] rfl rfl (any_of HT_.out (by kernel_rfl)) (fun _ _ _ h => h) (Or.inl ⟨by rfl, ?_⟩) ?_ ?_
                          rotate_left
                          · intro w'
                            go_simp
                            with_reducible rfl
                          rotate_left
                          · simp only [Act.put, List.setIfInBounds_toArray, List.set_cons_zero, List.set_cons_succ, i64_w, i32_w]
                            rfl
                          refine pure_ (i := 15) (N := some 60) (v := ?_) (a' := ?_) #[tt,tt,tt,tt,tt,tt,tt,tt,tt,tt,tt,tt,tt,tt,tt,tt,ff,ff,ff,ff,ff,ff,ff,ff] rfl rfl (any_of HT_.out (by kernel_rfl)) (fun _ _ _ h => h) (Or.inl ⟨by rfl, ?_⟩) ?_ ?_
                          rotate_left
                          · intro w'
                            go_simp
                            with_reducible rfl
                          rotate_left
                          · simp only [Act.put, List.setIfInBounds_toArray, List.set_cons_zero, List.set_cons_succ, i64_w, i32_w]
                            rfl
                          refine pure_ (i := 16) (N := some 61) (v := ?_) (a' := ?_) #[tt,tt,tt,tt,tt,tt,tt,tt,tt,tt,tt,tt,tt,tt,tt,tt,tt,ff,ff,ff,ff,ff,ff,ff] rfl rfl (any_of HT_.out (by kernel_rfl)) (fun _ _ _ h => h) (Or.inl ⟨by rfl, ?_⟩) ?_ ?_
                          rotate_left
                          · intro w'
                            go_simp
                            with_reducible rfl
                          rotate_left
                          · simp only [Act.put, List.setIfInBounds_toArray, List.set_cons_zero, List.set_cons_succ, i64_w, i32_w]
                            rfl
                          refine pure_ (i := 17) (N := some 62) (v := ?_) (a' := ?_) #[tt,tt,tt,tt,tt,tt,tt,tt,tt,tt,tt,tt,tt,tt,tt,tt,tt,tt,ff,ff,ff,ff,ff,ff] rfl rfl (any_of HT_.out (by kernel_rfl)) (fun _ _ _ h => h) (Or.inl ⟨by rfl, ?_⟩) ?_ ?_
                          rotate_left
                          · intro w'
                            go_simp
                            with_reducible rfl
                          rotate_left
                          · simp only [Act.put, List.setIfInBounds_toArray, List.set_cons_zero, List.set_cons_succ, i64_w, i32_w]
                            rfl
                          refine pure_ (i := 18) (N := some 63) (v := ?_) (a' := ?_) #[tt,tt,tt,tt,tt,tt,tt,tt,tt,tt,tt,tt,tt,tt,tt,tt,tt,tt,tt,ff,ff,ff,ff,ff] rfl rfl (any_of HT_.out (by kernel_rfl)) (fun _ _ _ h => h) (Or.inl ⟨by rfl, ?_⟩) ?_ ?_
                          rotate_left
                          · intro w'
                            go_simp
                            with_reducible rfl
                          rotate_left
                          · simp only [Act.put, List.setIfInBounds_toArray, List.set_cons_zero, List.set_cons_succ, i64_w, i32_w]
                            rfl
                          refine take_ (i := 19) (N := some 64) (v := ?_) (a' := ?_) #[tt,tt,tt,tt,tt,tt,tt,tt,tt,tt,tt,tt,tt,tt,tt,tt,tt,tt,tt,tt,ff,ff,ff,ff] rfl rfl (take_ofW HT_.out HW_.out (by kernel_rfl)) (fun _ _ _ h => h) (Or.inl ⟨by rfl, ?_⟩) hHeld ?_ ?_
                          rotate_left
                          · rintro w' ⟨s0, s1, s2, s3, s4, s5, s6, s7, s8, s9, s10, s11, s12, s13⟩
                            go_simp
                            with_reducible rfl
                          rotate_left
                          · simp only [Act.put, List.setIfInBounds_toArray, List.set_cons_zero, List.set_cons_succ, i64_w, i32_w]
                            rfl
                          refine take_ (i := 20) (N := some 65) (v := ?_) (a' := ?_) #[tt,tt,tt,tt,tt,tt,tt,tt,tt,tt,tt,tt,tt,tt,tt,tt,tt,tt,tt,tt,tt,ff,ff,ff] rfl rfl (take_ofW HT_.out HW_.out (by kernel_rfl)) (fun _ _ _ h => h) (Or.inl ⟨by rfl, ?_⟩) hHeld ?_ ?_
                          rotate_left
                          · rintro w' ⟨s0, s1, s2, s3, s4, s5, s6, s7, s8, s9, s10, s11, s12, s13⟩
                            go_simp
                            with_reducible rfl
                          rotate_left
                          · simp only [Act.put, List.setIfInBounds_toArray, List.set_cons_zero, List.set_cons_succ, i64_w, i32_w]
                            rfl
                          refine one_ (i := 21) (N := some 66) #[tt,tt,tt,tt,tt,tt,tt,tt,tt,tt,tt,tt,tt,tt,tt,tt,tt,tt,tt,tt,tt,tt,ff,ff] rfl rfl (one_of HT_.out (by kernel_rfl)) (by decide) (fun K hK => ?_)
                          refine goes_ Try.func28 (by kernel_rfl) rfl #[.agg #[.int .i64 ((rd_T56 l0 x7_2).f1.f0), .int .i64 ((rd_T56 l0 x7_2).f1.f1)], .agg #[.int .i64 a1_0, .int .i64 a1_1]] (by rfl) rfl rfl (by (try simp only [List.map_toArray, List.map_cons, List.map_nil]); first | done | rfl | (simp only [List.length_drop, List.length_take]; rfl)) ?_
                          with_reducible refine (anchor_Sight.calls ((rd_T56 l0 x7_2).f1.f0) ((rd_T56 l0 x7_2).f1.f1) a1_0 a1_1 t326 _ A26.out).mono ?_
                          rintro e w29 ⟨rfl, hb⟩
                          refine ⟨_, rfl, ?_⟩
                          have n0_ := Aside0.mk (blk_below (g := gb319) (o := .cells #[.int .i64 a1_0, .int .i64 a1_1] 23 (0, 0)) BK319.out hb)
                          have n1_ := Aside0.mk (below_step (by repeat (first | (with_reducible first | exact HB.out | apply below_alloc | apply pw_below_drewN | apply below_drew1 | refine below_set ?_ GE319.out) | exact HB.out)) hb)
                          clear BK319
                          clear HB
                          have BK319 := n0_
                          have HB := n1_
                          clear n0_ n1_
                          (try clear hb)
                          (try clear hb2)
                          (try clear hk)
                          (try clear hi)
                          refine hK.out _ _ ⟨(blk_cell BK319.out 0).trans rfl, (blk_cell BK319.out 1).trans rfl, ((HB.out.cell (World.block_lt_of_cell? w _ hw323_0)).trans hw323_0), ((HB.out.cell (World.block_lt_of_cell? w _ hw323_1)).trans hw323_1), ((HB.out.cell (World.block_lt_of_cell? w _ hw323_2)).trans hw323_2), ((HB.out.cell (World.block_lt_of_cell? w _ hw323_3)).trans hw323_3), ((HB.out.cell (World.block_lt_of_cell? w _ hw324_0)).trans hw324_0), ((HB.out.cell (World.block_lt_of_cell? w _ hw324_1)).trans hw324_1), ((HB.out.cell (World.block_lt_of_cell? w _ hw324_2)).trans hw324_2), ((HB.out.cell (World.block_lt_of_cell? w _ hw324_3)).trans hw324_3), ((HB.out.cell (World.block_lt_of_cell? w _ hw325_0)).trans hw325_0), ((HB.out.cell (World.block_lt_of_cell? w _ hw325_1)).trans hw325_1), ((HB.out.cell (World.block_lt_of_cell? w _ hw325_2)).trans hw325_2), ((HB.out.cell (World.block_lt_of_cell? w _ hw325_3)).trans hw325_3)⟩ (fun hHeld => ?_)
                          clear hK K
                          refine norm_ (a' := ?_) ?_ ?_
                          rotate_left
                          · show Act.put _ (some 66) _ = _
                            simp only [Act.put, List.setIfInBounds_toArray, List.set_cons_zero, List.set_cons_succ, i64_w, i32_w]
                            rfl
                          refine pure_ (i := 22) (N := some 67) (v := ?_) (a' := ?_) #[tt,tt,tt,tt,tt,tt,tt,tt,tt,tt,tt,tt,tt,tt,tt,tt,tt,tt,tt,tt,tt,tt,tt,ff] rfl rfl (any_of HT_.out (by kernel_rfl)) (fun _ _ _ h => h) (Or.inl ⟨by rfl, ?_⟩) ?_ ?_
                          rotate_left
                          · intro w'
                            go_simp
                            with_reducible rfl
                          rotate_left
                          · simp only [Act.put, List.setIfInBounds_toArray, List.set_cons_zero, List.set_cons_succ, i64_w, i32_w]
                            rfl
                          refine pure_ (i := 23) (N := some 68) (v := ?_) (a' := ?_) #[tt,tt,tt,tt,tt,tt,tt,tt,tt,tt,tt,tt,tt,tt,tt,tt,tt,tt,tt,tt,tt,tt,tt,tt] rfl rfl (any_of HT_.out (by kernel_rfl)) (fun _ _ _ h => h) (Or.inl ⟨by rfl, ?_⟩) ?_ ?_
                          rotate_left
                          · intro w'
                            go_simp
                            with_reducible rfl
                          rotate_left
                          · simp only [Act.put, List.setIfInBounds_toArray, List.set_cons_zero, List.set_cons_succ, i64_w, i32_w]
                            rfl
                          refine done_ (done_of HT_.out (by kernel_rfl)) ?_
                          try go_wp2
                          go_roundg k2
                          case measure => have := HJ10.out; have := HK2.out; omega
                          case rel => exact ⟨(wrap64 (x7_2 + 1)), (by first | rfl | (simp; done) | (simp [*]; done)), H', ⟨by have := HJ10.out; have := HK2.out; omega⟩, ⟨by (with_reducible repeat (first | refine blk_drewN ?_ _ | refine blk_drew ?_ | refine blk_alloc ?_ _)); exact BK319.out⟩, ⟨by repeat (first | (with_reducible first | exact HB.out | apply below_alloc | apply pw_below_drewN | apply below_drew1 | refine below_set ?_ GE319.out) | exact HB.out)⟩⟩
                    · rw [if_neg c22] at H
                      have c22b0 : (((rd_T56 l0 x7_2).f0) == (-1)) = false := beq_eq_false_iff_ne.mpr c22
                      have c22b1 : (((rd_T56 l0 x7_2).f0) != (-1)) = true := bne_iff_ne.mpr c22
                      have H' := Aside0.mk H
                      clear H
                      try go_wp2
                      have n0_ := Aside0.mk (blk_drew BK319.out)
                      have n1_ := Aside0.mk (below_drew1 HB.out)
                      clear BK319
                      clear HB
                      have BK319 := n0_
                      have HB := n1_
                      clear n0_ n1_
                      have p323 : 0 ≤ (x7_2 : Int) := of_decide_eq_true (by first | (with_reducible assumption) | assumption)
                      have q323 : x7_2 < (l0.length : Int) := of_decide_eq_true (by first | (with_reducible assumption) | assumption)
                      obtain ⟨ad323, e323, hx323_0, hx323_1, hx323_2, hx323_3⟩ := at_T56 HR0.out x7_2 p323 q323
                      have hw323_3 := hx323_3
                      have hw323_2 := hx323_2
                      have hw323_1 := hx323_1
                      have hw323_0 := hx323_0
                      cases e323
                      replace hx323_0 := (HB.out.cell (World.block_lt_of_cell? w _ hx323_0)).trans hx323_0
                      replace hx323_1 := (HB.out.cell (World.block_lt_of_cell? w _ hx323_1)).trans hx323_1
                      replace hx323_2 := (HB.out.cell (World.block_lt_of_cell? w _ hx323_2)).trans hx323_2
                      replace hx323_3 := (HB.out.cell (World.block_lt_of_cell? w _ hx323_3)).trans hx323_3
                      replace p323 := eq_true p323
                      replace q323 := eq_true q323
                      refine start_ (n := 24) (S := fun w' => w'.cell? (ad323.add ((x7_2).toNat * 4)) = some (.int .i64 ((rd_T56 l0 x7_2).f0)) ∧ w'.cell? ⟨(ad323.add ((x7_2).toNat * 4)).block, (ad323.add ((x7_2).toNat * 4)).off + 1, none⟩ = some (.int .i64 ((rd_T56 l0 x7_2).f1.f0)) ∧ w'.cell? ⟨(ad323.add ((x7_2).toNat * 4)).block, (ad323.add ((x7_2).toNat * 4)).off + 2, none⟩ = some (.int .i64 ((rd_T56 l0 x7_2).f1.f1)) ∧ w'.cell? ⟨(ad323.add ((x7_2).toNat * 4)).block, (ad323.add ((x7_2).toNat * 4)).off + 3, none⟩ = some (.bool ((rd_T56 l0 x7_2).f2))) (ds := []) #[ff,ff,ff,ff,ff,ff,ff,ff,ff,ff,ff,ff,ff,ff,ff,ff,ff,ff,ff,ff,ff,ff,ff,ff] (by kernel_rfl) rfl rfl ⟨((HB.out.cell (World.block_lt_of_cell? w _ hw323_0)).trans hw323_0), ((HB.out.cell (World.block_lt_of_cell? w _ hw323_1)).trans hw323_1), ((HB.out.cell (World.block_lt_of_cell? w _ hw323_2)).trans hw323_2), ((HB.out.cell (World.block_lt_of_cell? w _ hw323_3)).trans hw323_3)⟩ (fun hHeld => ?_); refine with_tabW valancelaw12_AnchorSeen.tab15 valancelaw12_AnchorSeen.bits15 (fun HT_ HW_ => ?_)
                      generalize wr.drew = w30 at BK319 HB hx323_0 hx323_1 hx323_2 hx323_3 hHeld ⊢
                      refine pure_ (i := 0) (N := some 45) (v := ?_) (a' := ?_) #[tt,ff,ff,ff,ff,ff,ff,ff,ff,ff,ff,ff,ff,ff,ff,ff,ff,ff,ff,ff,ff,ff,ff,ff] rfl rfl (any_of HT_.out (by kernel_rfl)) (fun _ _ _ h => h) (Or.inl ⟨by rfl, ?_⟩) ?_ ?_
                      rotate_left
                      · intro w'
                        go_simp
                        with_reducible rfl
                      rotate_left
                      · simp only [Act.put, List.setIfInBounds_toArray, List.set_cons_zero, List.set_cons_succ, i64_w, i32_w]
                        rfl
                      refine pure_ (i := 1) (N := some 46) (v := ?_) (a' := ?_) #[tt,tt,ff,ff,ff,ff,ff,ff,ff,ff,ff,ff,ff,ff,ff,ff,ff,ff,ff,ff,ff,ff,ff,ff] rfl rfl (any_of HT_.out (by kernel_rfl)) (fun _ _ _ h => h) (Or.inl ⟨by rfl, ?_⟩) ?_ ?_
                      rotate_left
                      · intro w'
                        go_simp
                        with_reducible rfl
                      rotate_left
                      · simp only [Act.put, List.setIfInBounds_toArray, List.set_cons_zero, List.set_cons_succ, i64_w, i32_w]
                        rfl
                      refine pure_ (i := 2) (N := some 47) (v := ?_) (a' := ?_) #[tt,tt,tt,ff,ff,ff,ff,ff,ff,ff,ff,ff,ff,ff,ff,ff,ff,ff,ff,ff,ff,ff,ff,ff] rfl rfl (any_of HT_.out (by kernel_rfl)) (fun _ _ _ h => h) (Or.inl ⟨by rfl, ?_⟩) ?_ ?_
                      rotate_left
                      · intro w'
                        go_simp
                        with_reducible rfl
                      rotate_left
                      · simp only [Act.put, List.setIfInBounds_toArray, List.set_cons_zero, List.set_cons_succ, i64_w, i32_w]
                        rfl
                      refine pure_ (i := 3) (N := some 48) (v := ?_) (a' := ?_) #[tt,tt,tt,tt,ff,ff,ff,ff,ff,ff,ff,ff,ff,ff,ff,ff,ff,ff,ff,ff,ff,ff,ff,ff] rfl rfl (any_of HT_.out (by kernel_rfl)) (fun _ _ _ h => h) (Or.inl ⟨by rfl, ?_⟩) ?_ ?_
                      rotate_left
                      · intro w'
                        go_simp
                        with_reducible rfl
                      rotate_left
                      · simp only [Act.put, List.setIfInBounds_toArray, List.set_cons_zero, List.set_cons_succ, i64_w, i32_w]
                        rfl
                      refine take_ (i := 4) (N := some 49) (v := ?_) (a' := ?_) #[tt,tt,tt,tt,tt,ff,ff,ff,ff,ff,ff,ff,ff,ff,ff,ff,ff,ff,ff,ff,ff,ff,ff,ff] rfl rfl (take_ofW HT_.out HW_.out (by kernel_rfl)) (fun _ _ _ h => h) (Or.inl ⟨by rfl, ?_⟩) hHeld ?_ ?_
                      rotate_left
                      · rintro w' ⟨s0, s1, s2, s3⟩
                        go_simp
                        with_reducible rfl
                      rotate_left
                      · simp only [Act.put, List.setIfInBounds_toArray, List.set_cons_zero, List.set_cons_succ, i64_w, i32_w]
                        rfl
                      refine pure_ (i := 5) (N := some 50) (v := ?_) (a' := ?_) #[tt,tt,tt,tt,tt,tt,ff,ff,ff,ff,ff,ff,ff,ff,ff,ff,ff,ff,ff,ff,ff,ff,ff,ff] rfl rfl (any_of HT_.out (by kernel_rfl)) (fun _ _ _ h => h) (Or.inl ⟨by rfl, ?_⟩) ?_ ?_
                      rotate_left
                      · intro w'
                        go_simp
                        with_reducible rfl
                      rotate_left
                      · simp only [Act.put, List.setIfInBounds_toArray, List.set_cons_zero, List.set_cons_succ, i64_w, i32_w]
                        rfl
                      refine pure_ (i := 6) (N := some 51) (v := ?_) (a' := ?_) #[tt,tt,tt,tt,tt,tt,tt,ff,ff,ff,ff,ff,ff,ff,ff,ff,ff,ff,ff,ff,ff,ff,ff,ff] rfl rfl (any_of HT_.out (by kernel_rfl)) (fun _ _ _ h => h) (Or.inl ⟨by rfl, ?_⟩) ?_ ?_
                      rotate_left
                      · intro w'
                        go_simp
                        with_reducible rfl
                      rotate_left
                      · simp only [Act.put, List.setIfInBounds_toArray, List.set_cons_zero, List.set_cons_succ, i64_w, i32_w]
                        rfl
                      refine pure_ (i := 7) (N := some 52) (v := undef) (a' := ?_) #[tt,tt,tt,tt,tt,tt,tt,tt,ff,ff,ff,ff,ff,ff,ff,ff,ff,ff,ff,ff,ff,ff,ff,ff] rfl rfl (any_of HT_.out (by kernel_rfl)) (fun _ _ _ h => h) (Or.inr ⟨by rfl, rfl⟩) ?_ ?_
                      rotate_left
                      · simp only [Act.put, List.setIfInBounds_toArray, List.set_cons_zero, List.set_cons_succ, i64_w, i32_w]
                        rfl
                      refine pure_ (i := 8) (N := some 53) (v := undef) (a' := ?_) #[tt,tt,tt,tt,tt,tt,tt,tt,tt,ff,ff,ff,ff,ff,ff,ff,ff,ff,ff,ff,ff,ff,ff,ff] rfl rfl (any_of HT_.out (by kernel_rfl)) (fun _ _ _ h => h) (Or.inr ⟨by rfl, rfl⟩) ?_ ?_
                      rotate_left
                      · simp only [Act.put, List.setIfInBounds_toArray, List.set_cons_zero, List.set_cons_succ, i64_w, i32_w]
                        rfl
                      refine pure_ (i := 9) (N := some 54) (v := undef) (a' := ?_) #[tt,tt,tt,tt,tt,tt,tt,tt,tt,tt,ff,ff,ff,ff,ff,ff,ff,ff,ff,ff,ff,ff,ff,ff] rfl rfl (any_of HT_.out (by kernel_rfl)) (fun _ _ _ h => h) (Or.inr ⟨by rfl, rfl⟩) ?_ ?_
                      rotate_left
                      · simp only [Act.put, List.setIfInBounds_toArray, List.set_cons_zero, List.set_cons_succ, i64_w, i32_w]
                        rfl
                      refine pure_ (i := 10) (N := some 55) (v := undef) (a' := ?_) #[tt,tt,tt,tt,tt,tt,tt,tt,tt,tt,tt,ff,ff,ff,ff,ff,ff,ff,ff,ff,ff,ff,ff,ff] rfl rfl (any_of HT_.out (by kernel_rfl)) (fun _ _ _ h => h) (Or.inr ⟨by rfl, rfl⟩) ?_ ?_
                      rotate_left
                      · simp only [Act.put, List.setIfInBounds_toArray, List.set_cons_zero, List.set_cons_succ, i64_w, i32_w]
                        rfl
                      refine pure_ (i := 11) (N := some 56) (v := undef) (a' := ?_) #[tt,tt,tt,tt,tt,tt,tt,tt,tt,tt,tt,tt,ff,ff,ff,ff,ff,ff,ff,ff,ff,ff,ff,ff] rfl rfl (any_of HT_.out (by kernel_rfl)) (fun _ _ _ h => h) (Or.inr ⟨by rfl, rfl⟩) ?_ ?_
                      rotate_left
                      · simp only [Act.put, List.setIfInBounds_toArray, List.set_cons_zero, List.set_cons_succ, i64_w, i32_w]
                        rfl
                      refine pure_ (i := 12) (N := some 57) (v := undef) (a' := ?_) #[tt,tt,tt,tt,tt,tt,tt,tt,tt,tt,tt,tt,tt,ff,ff,ff,ff,ff,ff,ff,ff,ff,ff,ff] rfl rfl (any_of HT_.out (by kernel_rfl)) (fun _ _ _ h => h) (Or.inr ⟨by rfl, rfl⟩) ?_ ?_
                      rotate_left
                      · simp only [Act.put, List.setIfInBounds_toArray, List.set_cons_zero, List.set_cons_succ, i64_w, i32_w]
                        rfl
                      refine pure_ (i := 13) (N := some 58) (v := ?_) (a' := ?_) #[tt,tt,tt,tt,tt,tt,tt,tt,tt,tt,tt,tt,tt,tt,ff,ff,ff,ff,ff,ff,ff,ff,ff,ff] rfl rfl (any_of HT_.out (by kernel_rfl)) (fun _ _ _ h => h) (Or.inl ⟨by rfl, ?_⟩) ?_ ?_
                      rotate_left
                      · intro w'
                        go_simp
                        with_reducible rfl
                      rotate_left
                      · simp only [Act.put, List.setIfInBounds_toArray, List.set_cons_zero, List.set_cons_succ, i64_w, i32_w]
                        rfl
                      refine pure_ (i := 14) (N := some 59) (v := ?_) (a' := ?_) #[tt,tt,tt,tt,tt,tt,tt,tt,tt,tt,tt,tt,tt,tt,tt,ff,ff,ff,ff,ff,ff,ff,ff,ff] rfl rfl (any_of HT_.out (by kernel_rfl)) (fun _ _ _ h => h) (Or.inl ⟨by rfl, ?_⟩) ?_ ?_
                      rotate_left
                      · intro w'
                        go_simp
                        with_reducible rfl
                      rotate_left
                      · simp only [Act.put, List.setIfInBounds_toArray, List.set_cons_zero, List.set_cons_succ, i64_w, i32_w]
                        rfl
                      refine pure_ (i := 15) (N := some 60) (v := undef) (a' := ?_) #[tt,tt,tt,tt,tt,tt,tt,tt,tt,tt,tt,tt,tt,tt,tt,tt,ff,ff,ff,ff,ff,ff,ff,ff] rfl rfl (any_of HT_.out (by kernel_rfl)) (fun _ _ _ h => h) (Or.inr ⟨by rfl, rfl⟩) ?_ ?_
                      rotate_left
                      · simp only [Act.put, List.setIfInBounds_toArray, List.set_cons_zero, List.set_cons_succ, i64_w, i32_w]
                        rfl
                      refine pure_ (i := 16) (N := some 61) (v := undef) (a' := ?_) #[tt,tt,tt,tt,tt,tt,tt,tt,tt,tt,tt,tt,tt,tt,tt,tt,tt,ff,ff,ff,ff,ff,ff,ff] rfl rfl (any_of HT_.out (by kernel_rfl)) (fun _ _ _ h => h) (Or.inr ⟨by rfl, rfl⟩) ?_ ?_
                      rotate_left
                      · simp only [Act.put, List.setIfInBounds_toArray, List.set_cons_zero, List.set_cons_succ, i64_w, i32_w]
                        rfl
                      refine pure_ (i := 17) (N := some 62) (v := undef) (a' := ?_) #[tt,tt,tt,tt,tt,tt,tt,tt,tt,tt,tt,tt,tt,tt,tt,tt,tt,tt,ff,ff,ff,ff,ff,ff] rfl rfl (any_of HT_.out (by kernel_rfl)) (fun _ _ _ h => h) (Or.inr ⟨by rfl, rfl⟩) ?_ ?_
                      rotate_left
                      · simp only [Act.put, List.setIfInBounds_toArray, List.set_cons_zero, List.set_cons_succ, i64_w, i32_w]
                        rfl
                      refine pure_ (i := 18) (N := some 63) (v := undef) (a' := ?_) #[tt,tt,tt,tt,tt,tt,tt,tt,tt,tt,tt,tt,tt,tt,tt,tt,tt,tt,tt,ff,ff,ff,ff,ff] rfl rfl (any_of HT_.out (by kernel_rfl)) (fun _ _ _ h => h) (Or.inr ⟨by rfl, rfl⟩) ?_ ?_
                      rotate_left
                      · simp only [Act.put, List.setIfInBounds_toArray, List.set_cons_zero, List.set_cons_succ, i64_w, i32_w]
                        rfl
                      refine pure_ (i := 19) (N := some 64) (v := undef) (a' := ?_) #[tt,tt,tt,tt,tt,tt,tt,tt,tt,tt,tt,tt,tt,tt,tt,tt,tt,tt,tt,tt,ff,ff,ff,ff] rfl rfl (any_of HT_.out (by kernel_rfl)) (fun _ _ _ h => h) (Or.inr ⟨by rfl, rfl⟩) ?_ ?_
                      rotate_left
                      · simp only [Act.put, List.setIfInBounds_toArray, List.set_cons_zero, List.set_cons_succ, i64_w, i32_w]
                        rfl
                      refine pure_ (i := 20) (N := some 65) (v := undef) (a' := ?_) #[tt,tt,tt,tt,tt,tt,tt,tt,tt,tt,tt,tt,tt,tt,tt,tt,tt,tt,tt,tt,tt,ff,ff,ff] rfl rfl (any_of HT_.out (by kernel_rfl)) (fun _ _ _ h => h) (Or.inr ⟨by rfl, rfl⟩) ?_ ?_
                      rotate_left
                      · simp only [Act.put, List.setIfInBounds_toArray, List.set_cons_zero, List.set_cons_succ, i64_w, i32_w]
                        rfl
                      refine pure_ (i := 21) (N := some 66) (v := undef) (a' := ?_) #[tt,tt,tt,tt,tt,tt,tt,tt,tt,tt,tt,tt,tt,tt,tt,tt,tt,tt,tt,tt,tt,tt,ff,ff] rfl rfl (any_of HT_.out (by kernel_rfl)) (fun _ _ _ h => h) (Or.inr ⟨by rfl, rfl⟩) ?_ ?_
                      rotate_left
                      · simp only [Act.put, List.setIfInBounds_toArray, List.set_cons_zero, List.set_cons_succ, i64_w, i32_w]
                        rfl
                      refine pure_ (i := 22) (N := some 67) (v := undef) (a' := ?_) #[tt,tt,tt,tt,tt,tt,tt,tt,tt,tt,tt,tt,tt,tt,tt,tt,tt,tt,tt,tt,tt,tt,tt,ff] rfl rfl (any_of HT_.out (by kernel_rfl)) (fun _ _ _ h => h) (Or.inr ⟨by rfl, rfl⟩) ?_ ?_
                      rotate_left
                      · simp only [Act.put, List.setIfInBounds_toArray, List.set_cons_zero, List.set_cons_succ, i64_w, i32_w]
                        rfl
                      refine pure_ (i := 23) (N := some 68) (v := ?_) (a' := ?_) #[tt,tt,tt,tt,tt,tt,tt,tt,tt,tt,tt,tt,tt,tt,tt,tt,tt,tt,tt,tt,tt,tt,tt,tt] rfl rfl (any_of HT_.out (by kernel_rfl)) (fun _ _ _ h => h) (Or.inl ⟨by rfl, ?_⟩) ?_ ?_
                      rotate_left
                      · intro w'
                        go_simp
                        with_reducible rfl
                      rotate_left
                      · simp only [Act.put, List.setIfInBounds_toArray, List.set_cons_zero, List.set_cons_succ, i64_w, i32_w]
                        rfl
                      refine done_ (done_of HT_.out (by kernel_rfl)) ?_
                      try go_wp2
                      go_roundg k2
                      case measure => have := HJ10.out; have := HK2.out; omega
                      case rel => exact ⟨(wrap64 (x7_2 + 1)), (by first | rfl | (simp; done) | (simp [*]; done)), H', ⟨by have := HJ10.out; have := HK2.out; omega⟩, ⟨by (with_reducible repeat (first | refine blk_drewN ?_ _ | refine blk_drew ?_ | refine blk_alloc ?_ _)); exact BK319.out⟩, ⟨by repeat (first | (with_reducible first | exact HB.out | apply below_alloc | apply pw_below_drewN | apply below_drew1 | refine below_set ?_ GE319.out) | exact HB.out)⟩⟩
                  · rw [if_neg c20] at H
                    have c20b0 : decide (x7_2 < (l0.length : Int)) = false := decide_eq_false c20
                    clear c20
                    obtain rfl := Option.some.inj H
                    go_wp2
                    go_ret
                    exact ⟨by first | rfl | (simp [errW_none, errW_some] <;> rfl) | (simp [*, errW_none, errW_some] <;> rfl), by repeat (first | (with_reducible first | exact HB.out | apply below_alloc | apply pw_below_drewN | apply below_drew1 | refine below_set ?_ GE319.out) | exact HB.out)⟩
            · rw [if_neg c19] at H
              have c19b0 : (t321 == (-1)) = false := beq_eq_false_iff_ne.mpr c19
              have c19b1 : (t321 != (-1)) = true := bne_iff_ne.mpr c19
              have HC31 := Aside0.mk H
              clear H
              go_upto_region 18 with (fail)
              go_cut [84] (fun v84 wc => ∃ (kq : Nat) (x84_30 : Bool), v84 = .bool x84_30 ∧ Aside0 (valancelaw12_AnchorSeen.j2 kq l0 true t321 x84_30 a1_0 a1_1 = some r) ∧ Aside0 (kq ≤ kj10) ∧ Aside0 (wc.heap[gb319]? = some (.cells #[.int .i64 a1_0, .int .i64 a1_1] 23 (0, 0))) ∧ Aside0 (Below w.heap.size w wc))
              case first =>
                have H := HC31.out
                clear HC31
                by_cases c32 : 0 ≤ t321
                case neg =>
                  rw [if_neg c32] at H
                  exact absurd H (by simp)
                rw [if_pos c32] at H
                have c32b0 : decide (0 ≤ t321) = true := decide_eq_true c32
                clear c32
                (first | rw [c32b0] | (simp only [i64_w, i32_w]; rw [c32b0]) | skip)
                by_cases c33 : t321 < (l0.length : Int)
                case neg =>
                  rw [if_neg c33] at H
                  exact absurd H (by simp)
                rw [if_pos c33] at H
                have c33b0 : decide (t321 < (l0.length : Int)) = true := decide_eq_true c33
                clear c33
                replace H := Option.bind_eq_some_iff.mp H
                obtain ⟨t328, A340, H⟩ := H
                replace H : (if t328 = 0 then (valancelaw12_AnchorSeen.j2 kj10 l0 true t321 true a1_0 a1_1) else (valancelaw12_AnchorSeen.j2 kj10 l0 true t321 ((rd_T56 l0 t321).f2) a1_0 a1_1)) = some r := H
                have A34 := Aside0.mk A340
                clear A340
                by_cases c35 : t328 = 0
                · rw [if_pos c35] at H
                  have c35b0 : (t328 == 0) = true := beq_iff_eq.mpr c35
                  have c35b1 : (t328 != 0) = false := bne_eq_false_iff_eq.mpr c35
                  clear c35
                  have H' := Aside0.mk H
                  clear H
                  try go_wp2
                  have n0_ := Aside0.mk (blk_drew BK319.out)
                  have n1_ := Aside0.mk (below_drew1 HB.out)
                  clear BK319
                  clear HB
                  have BK319 := n0_
                  have HB := n1_
                  clear n0_ n1_
                  have p327 : 0 ≤ (t321 : Int) := of_decide_eq_true (by first | (with_reducible assumption) | assumption)
                  have q327 : t321 < (l0.length : Int) := of_decide_eq_true (by first | (with_reducible assumption) | assumption)
                  obtain ⟨ad327, e327, hx327_0, hx327_1, hx327_2, hx327_3⟩ := at_T56 HR0.out t321 p327 q327
                  have hw327_3 := hx327_3
                  have hw327_2 := hx327_2
                  have hw327_1 := hx327_1
                  have hw327_0 := hx327_0
                  cases e327
                  replace hx327_0 := (HB.out.cell (World.block_lt_of_cell? w _ hx327_0)).trans hx327_0
                  replace hx327_1 := (HB.out.cell (World.block_lt_of_cell? w _ hx327_1)).trans hx327_1
                  replace hx327_2 := (HB.out.cell (World.block_lt_of_cell? w _ hx327_2)).trans hx327_2
                  replace hx327_3 := (HB.out.cell (World.block_lt_of_cell? w _ hx327_3)).trans hx327_3
                  replace p327 := eq_true p327
                  replace q327 := eq_true q327
                  refine start_ (n := 15) (S := fun w' => w'.cell? ⟨gb319, 0, none⟩ = some (.int .i64 a1_0) ∧ w'.cell? ⟨gb319, 1, none⟩ = some (.int .i64 a1_1) ∧ w'.cell? (ad327.add ((t321).toNat * 4)) = some (.int .i64 ((rd_T56 l0 t321).f0)) ∧ w'.cell? ⟨(ad327.add ((t321).toNat * 4)).block, (ad327.add ((t321).toNat * 4)).off + 1, none⟩ = some (.int .i64 ((rd_T56 l0 t321).f1.f0)) ∧ w'.cell? ⟨(ad327.add ((t321).toNat * 4)).block, (ad327.add ((t321).toNat * 4)).off + 2, none⟩ = some (.int .i64 ((rd_T56 l0 t321).f1.f1)) ∧ w'.cell? ⟨(ad327.add ((t321).toNat * 4)).block, (ad327.add ((t321).toNat * 4)).off + 3, none⟩ = some (.bool ((rd_T56 l0 t321).f2))) (ds := []) #[ff,ff,ff,ff,ff,ff,ff,ff,ff,ff,ff,ff,ff,ff,ff] (by kernel_rfl) rfl rfl ⟨(blk_cell BK319.out 0).trans rfl, (blk_cell BK319.out 1).trans rfl, ((HB.out.cell (World.block_lt_of_cell? w _ hw327_0)).trans hw327_0), ((HB.out.cell (World.block_lt_of_cell? w _ hw327_1)).trans hw327_1), ((HB.out.cell (World.block_lt_of_cell? w _ hw327_2)).trans hw327_2), ((HB.out.cell (World.block_lt_of_cell? w _ hw327_3)).trans hw327_3)⟩ (fun hHeld => ?_); refine with_tabW valancelaw12_AnchorSeen.tab18 valancelaw12_AnchorSeen.bits18 (fun HT_ HW_ => ?_)
                  generalize wc.drew = w36 at BK319 HB hx327_0 hx327_1 hx327_2 hx327_3 hHeld ⊢
                  refine pure_ (i := 0) (N := some 70) (v := ?_) (a' := ?_) #[tt,ff,ff,ff,ff,ff,ff,ff,ff,ff,ff,ff,ff,ff,ff] rfl rfl (any_of HT_.out (by kernel_rfl)) (fun _ _ _ h => h) (Or.inl ⟨by rfl, ?_⟩) ?_ ?_
                  rotate_left
                  · intro w'
                    go_simp
                    with_reducible rfl
                  rotate_left
                  · simp only [Act.put, List.setIfInBounds_toArray, List.set_cons_zero, List.set_cons_succ, i64_w, i32_w]
                    rfl
                  refine pure_ (i := 1) (N := some 71) (v := ?_) (a' := ?_) #[tt,tt,ff,ff,ff,ff,ff,ff,ff,ff,ff,ff,ff,ff,ff] rfl rfl (any_of HT_.out (by kernel_rfl)) (fun _ _ _ h => h) (Or.inl ⟨by rfl, ?_⟩) ?_ ?_
                  rotate_left
                  · intro w'
                    go_simp
                    with_reducible rfl
                  rotate_left
                  · simp only [Act.put, List.setIfInBounds_toArray, List.set_cons_zero, List.set_cons_succ, i64_w, i32_w]
                    rfl
                  refine pure_ (i := 2) (N := some 72) (v := ?_) (a' := ?_) #[tt,tt,tt,ff,ff,ff,ff,ff,ff,ff,ff,ff,ff,ff,ff] rfl rfl (any_of HT_.out (by kernel_rfl)) (fun _ _ _ h => h) (Or.inl ⟨by rfl, ?_⟩) ?_ ?_
                  rotate_left
                  · intro w'
                    go_simp
                    with_reducible rfl
                  rotate_left
                  · simp only [Act.put, List.setIfInBounds_toArray, List.set_cons_zero, List.set_cons_succ, i64_w, i32_w]
                    rfl
                  refine pure_ (i := 3) (N := some 73) (v := ?_) (a' := ?_) #[tt,tt,tt,tt,ff,ff,ff,ff,ff,ff,ff,ff,ff,ff,ff] rfl rfl (any_of HT_.out (by kernel_rfl)) (fun _ _ _ h => h) (Or.inl ⟨by rfl, ?_⟩) ?_ ?_
                  rotate_left
                  · intro w'
                    go_simp
                    with_reducible rfl
                  rotate_left
                  · simp only [Act.put, List.setIfInBounds_toArray, List.set_cons_zero, List.set_cons_succ, i64_w, i32_w]
                    rfl
                  refine take_ (i := 4) (N := some 74) (v := ?_) (a' := ?_) #[tt,tt,tt,tt,tt,ff,ff,ff,ff,ff,ff,ff,ff,ff,ff] rfl rfl (take_ofW HT_.out HW_.out (by kernel_rfl)) (fun _ _ _ h => h) (Or.inl ⟨by rfl, ?_⟩) hHeld ?_ ?_
                  rotate_left
                  · rintro w' ⟨s0, s1, s2, s3, s4, s5⟩
                    go_simp
                    with_reducible rfl
                  rotate_left
                  · simp only [Act.put, List.setIfInBounds_toArray, List.set_cons_zero, List.set_cons_succ, i64_w, i32_w]
                    rfl
                  refine take_ (i := 5) (N := some 75) (v := ?_) (a' := ?_) #[tt,tt,tt,tt,tt,tt,ff,ff,ff,ff,ff,ff,ff,ff,ff] rfl rfl (take_ofW HT_.out HW_.out (by kernel_rfl)) (fun _ _ _ h => h) (Or.inl ⟨by rfl, ?_⟩) hHeld ?_ ?_
                  rotate_left
                  · rintro w' ⟨s0, s1, s2, s3, s4, s5⟩
                    go_simp
                    with_reducible rfl
                  rotate_left
                  · simp only [Act.put, List.setIfInBounds_toArray, List.set_cons_zero, List.set_cons_succ, i64_w, i32_w]
                    rfl
                  refine one_ (i := 6) (N := some 76) #[tt,tt,tt,tt,tt,tt,tt,ff,ff,ff,ff,ff,ff,ff,ff] rfl rfl (one_of HT_.out (by kernel_rfl)) (by decide) (fun K hK => ?_)
                  refine goes_ Try.func28 (by kernel_rfl) rfl #[.agg #[.int .i64 ((rd_T56 l0 t321).f1.f0), .int .i64 ((rd_T56 l0 t321).f1.f1)], .agg #[.int .i64 a1_0, .int .i64 a1_1]] (by rfl) rfl rfl (by (try simp only [List.map_toArray, List.map_cons, List.map_nil]); first | done | rfl | (simp only [List.length_drop, List.length_take]; rfl)) ?_
                  with_reducible refine (anchor_Sight.calls ((rd_T56 l0 t321).f1.f0) ((rd_T56 l0 t321).f1.f1) a1_0 a1_1 t328 _ A34.out).mono ?_
                  rintro e w37 ⟨rfl, hb⟩
                  refine ⟨_, rfl, ?_⟩
                  have n0_ := Aside0.mk (blk_below (g := gb319) (o := .cells #[.int .i64 a1_0, .int .i64 a1_1] 23 (0, 0)) BK319.out hb)
                  have n1_ := Aside0.mk (below_step (by repeat (first | (with_reducible first | exact HB.out | apply below_alloc | apply pw_below_drewN | apply below_drew1 | refine below_set ?_ GE319.out) | exact HB.out)) hb)
                  clear BK319
                  clear HB
                  have BK319 := n0_
                  have HB := n1_
                  clear n0_ n1_
                  (try clear hb)
                  (try clear hb2)
                  (try clear hk)
                  (try clear hi)
                  refine hK.out _ _ ⟨(blk_cell BK319.out 0).trans rfl, (blk_cell BK319.out 1).trans rfl, ((HB.out.cell (World.block_lt_of_cell? w _ hw327_0)).trans hw327_0), ((HB.out.cell (World.block_lt_of_cell? w _ hw327_1)).trans hw327_1), ((HB.out.cell (World.block_lt_of_cell? w _ hw327_2)).trans hw327_2), ((HB.out.cell (World.block_lt_of_cell? w _ hw327_3)).trans hw327_3)⟩ (fun hHeld => ?_)
                  clear hK K
                  refine norm_ (a' := ?_) ?_ ?_
                  rotate_left
                  · show Act.put _ (some 76) _ = _
                    simp only [Act.put, List.setIfInBounds_toArray, List.set_cons_zero, List.set_cons_succ, i64_w, i32_w]
                    rfl
                  refine pure_ (i := 7) (N := some 77) (v := ?_) (a' := ?_) #[tt,tt,tt,tt,tt,tt,tt,tt,ff,ff,ff,ff,ff,ff,ff] rfl rfl (any_of HT_.out (by kernel_rfl)) (fun _ _ _ h => h) (Or.inl ⟨by rfl, ?_⟩) ?_ ?_
                  rotate_left
                  · intro w'
                    go_simp
                    with_reducible rfl
                  rotate_left
                  · simp only [Act.put, List.setIfInBounds_toArray, List.set_cons_zero, List.set_cons_succ, i64_w, i32_w]
                    rfl
                  refine pure_ (i := 8) (N := some 78) (v := ?_) (a' := ?_) #[tt,tt,tt,tt,tt,tt,tt,tt,tt,ff,ff,ff,ff,ff,ff] rfl rfl (any_of HT_.out (by kernel_rfl)) (fun _ _ _ h => h) (Or.inl ⟨by rfl, ?_⟩) ?_ ?_
                  rotate_left
                  · intro w'
                    go_simp
                    with_reducible rfl
                  rotate_left
                  · simp only [Act.put, List.setIfInBounds_toArray, List.set_cons_zero, List.set_cons_succ, i64_w, i32_w]
                    rfl
                  refine pure_ (i := 9) (N := some 79) (v := undef) (a' := ?_) #[tt,tt,tt,tt,tt,tt,tt,tt,tt,tt,ff,ff,ff,ff,ff] rfl rfl (any_of HT_.out (by kernel_rfl)) (fun _ _ _ h => h) (Or.inr ⟨by rfl, rfl⟩) ?_ ?_
                  rotate_left
                  · simp only [Act.put, List.setIfInBounds_toArray, List.set_cons_zero, List.set_cons_succ, i64_w, i32_w]
                    rfl
                  refine pure_ (i := 10) (N := some 80) (v := undef) (a' := ?_) #[tt,tt,tt,tt,tt,tt,tt,tt,tt,tt,tt,ff,ff,ff,ff] rfl rfl (any_of HT_.out (by kernel_rfl)) (fun _ _ _ h => h) (Or.inr ⟨by rfl, rfl⟩) ?_ ?_
                  rotate_left
                  · simp only [Act.put, List.setIfInBounds_toArray, List.set_cons_zero, List.set_cons_succ, i64_w, i32_w]
                    rfl
                  refine pure_ (i := 11) (N := some 81) (v := undef) (a' := ?_) #[tt,tt,tt,tt,tt,tt,tt,tt,tt,tt,tt,tt,ff,ff,ff] rfl rfl (any_of HT_.out (by kernel_rfl)) (fun _ _ _ h => h) (Or.inr ⟨by rfl, rfl⟩) ?_ ?_
                  rotate_left
                  · simp only [Act.put, List.setIfInBounds_toArray, List.set_cons_zero, List.set_cons_succ, i64_w, i32_w]
                    rfl
                  refine pure_ (i := 12) (N := some 82) (v := undef) (a' := ?_) #[tt,tt,tt,tt,tt,tt,tt,tt,tt,tt,tt,tt,tt,ff,ff] rfl rfl (any_of HT_.out (by kernel_rfl)) (fun _ _ _ h => h) (Or.inr ⟨by rfl, rfl⟩) ?_ ?_
                  rotate_left
                  · simp only [Act.put, List.setIfInBounds_toArray, List.set_cons_zero, List.set_cons_succ, i64_w, i32_w]
                    rfl
                  refine pure_ (i := 13) (N := some 83) (v := undef) (a' := ?_) #[tt,tt,tt,tt,tt,tt,tt,tt,tt,tt,tt,tt,tt,tt,ff] rfl rfl (any_of HT_.out (by kernel_rfl)) (fun _ _ _ h => h) (Or.inr ⟨by rfl, rfl⟩) ?_ ?_
                  rotate_left
                  · simp only [Act.put, List.setIfInBounds_toArray, List.set_cons_zero, List.set_cons_succ, i64_w, i32_w]
                    rfl
                  refine pure_ (i := 14) (N := some 84) (v := ?_) (a' := ?_) #[tt,tt,tt,tt,tt,tt,tt,tt,tt,tt,tt,tt,tt,tt,tt] rfl rfl (any_of HT_.out (by kernel_rfl)) (fun _ _ _ h => h) (Or.inl ⟨by rfl, ?_⟩) ?_ ?_
                  rotate_left
                  · intro w'
                    go_simp
                    with_reducible rfl
                  rotate_left
                  · simp only [Act.put, List.setIfInBounds_toArray, List.set_cons_zero, List.set_cons_succ, i64_w, i32_w]
                    rfl
                  refine done_ (done_of HT_.out (by kernel_rfl)) ?_
                  try go_wp2
                  go_meet
                  case rel => exact ⟨_, (true), (by first | rfl | (simp; done) | (simp [*]; done)), H', ⟨by have := HJ10.out; first | omega | exact Nat.le_refl _⟩, ⟨by (with_reducible repeat (first | refine blk_drewN ?_ _ | refine blk_drew ?_ | refine blk_alloc ?_ _)); exact BK319.out⟩, ⟨by repeat (first | (with_reducible first | exact HB.out | apply below_alloc | apply pw_below_drewN | apply below_drew1 | refine below_set ?_ GE319.out) | exact HB.out)⟩⟩
                · rw [if_neg c35] at H
                  have c35b0 : (t328 == 0) = false := beq_eq_false_iff_ne.mpr c35
                  have c35b1 : (t328 != 0) = true := bne_iff_ne.mpr c35
                  have H' := Aside0.mk H
                  clear H
                  try go_wp2
                  have n0_ := Aside0.mk (blk_drew BK319.out)
                  have n1_ := Aside0.mk (below_drew1 HB.out)
                  clear BK319
                  clear HB
                  have BK319 := n0_
                  have HB := n1_
                  clear n0_ n1_
                  have p327 : 0 ≤ (t321 : Int) := of_decide_eq_true (by first | (with_reducible assumption) | assumption)
                  have q327 : t321 < (l0.length : Int) := of_decide_eq_true (by first | (with_reducible assumption) | assumption)
                  obtain ⟨ad327, e327, hx327_0, hx327_1, hx327_2, hx327_3⟩ := at_T56 HR0.out t321 p327 q327
                  have hw327_3 := hx327_3
                  have hw327_2 := hx327_2
                  have hw327_1 := hx327_1
                  have hw327_0 := hx327_0
                  cases e327
                  replace hx327_0 := (HB.out.cell (World.block_lt_of_cell? w _ hx327_0)).trans hx327_0
                  replace hx327_1 := (HB.out.cell (World.block_lt_of_cell? w _ hx327_1)).trans hx327_1
                  replace hx327_2 := (HB.out.cell (World.block_lt_of_cell? w _ hx327_2)).trans hx327_2
                  replace hx327_3 := (HB.out.cell (World.block_lt_of_cell? w _ hx327_3)).trans hx327_3
                  replace p327 := eq_true p327
                  replace q327 := eq_true q327
                  have p329 : 0 ≤ (t321 : Int) := of_decide_eq_true (by first | (with_reducible assumption) | assumption)
                  have q329 : t321 < (l0.length : Int) := of_decide_eq_true (by first | (with_reducible assumption) | assumption)
                  obtain ⟨ad329, e329, hx329_0, hx329_1, hx329_2, hx329_3⟩ := at_T56 HR0.out t321 p329 q329
                  have hw329_3 := hx329_3
                  have hw329_2 := hx329_2
                  have hw329_1 := hx329_1
                  have hw329_0 := hx329_0
                  obtain rfl : ad327 = ad329 := (by injection e329)
                  replace hx329_0 := (HB.out.cell (World.block_lt_of_cell? w _ hx329_0)).trans hx329_0
                  replace hx329_1 := (HB.out.cell (World.block_lt_of_cell? w _ hx329_1)).trans hx329_1
                  replace hx329_2 := (HB.out.cell (World.block_lt_of_cell? w _ hx329_2)).trans hx329_2
                  replace hx329_3 := (HB.out.cell (World.block_lt_of_cell? w _ hx329_3)).trans hx329_3
                  replace p329 := eq_true p329
                  replace q329 := eq_true q329
                  refine start_ (n := 15) (S := fun w' => w'.cell? ⟨gb319, 0, none⟩ = some (.int .i64 a1_0) ∧ w'.cell? ⟨gb319, 1, none⟩ = some (.int .i64 a1_1) ∧ w'.cell? (ad327.add ((t321).toNat * 4)) = some (.int .i64 ((rd_T56 l0 t321).f0)) ∧ w'.cell? ⟨(ad327.add ((t321).toNat * 4)).block, (ad327.add ((t321).toNat * 4)).off + 1, none⟩ = some (.int .i64 ((rd_T56 l0 t321).f1.f0)) ∧ w'.cell? ⟨(ad327.add ((t321).toNat * 4)).block, (ad327.add ((t321).toNat * 4)).off + 2, none⟩ = some (.int .i64 ((rd_T56 l0 t321).f1.f1)) ∧ w'.cell? ⟨(ad327.add ((t321).toNat * 4)).block, (ad327.add ((t321).toNat * 4)).off + 3, none⟩ = some (.bool ((rd_T56 l0 t321).f2)) ∧ w'.cell? (ad327.add ((t321).toNat * 4)) = some (.int .i64 ((rd_T56 l0 t321).f0)) ∧ w'.cell? ⟨(ad327.add ((t321).toNat * 4)).block, (ad327.add ((t321).toNat * 4)).off + 1, none⟩ = some (.int .i64 ((rd_T56 l0 t321).f1.f0)) ∧ w'.cell? ⟨(ad327.add ((t321).toNat * 4)).block, (ad327.add ((t321).toNat * 4)).off + 2, none⟩ = some (.int .i64 ((rd_T56 l0 t321).f1.f1)) ∧ w'.cell? ⟨(ad327.add ((t321).toNat * 4)).block, (ad327.add ((t321).toNat * 4)).off + 3, none⟩ = some (.bool ((rd_T56 l0 t321).f2))) (ds := []) #[ff,ff,ff,ff,ff,ff,ff,ff,ff,ff,ff,ff,ff,ff,ff] (by kernel_rfl) rfl rfl ⟨(blk_cell BK319.out 0).trans rfl, (blk_cell BK319.out 1).trans rfl, ((HB.out.cell (World.block_lt_of_cell? w _ hw327_0)).trans hw327_0), ((HB.out.cell (World.block_lt_of_cell? w _ hw327_1)).trans hw327_1), ((HB.out.cell (World.block_lt_of_cell? w _ hw327_2)).trans hw327_2), ((HB.out.cell (World.block_lt_of_cell? w _ hw327_3)).trans hw327_3), ((HB.out.cell (World.block_lt_of_cell? w _ hw329_0)).trans hw329_0), ((HB.out.cell (World.block_lt_of_cell? w _ hw329_1)).trans hw329_1), ((HB.out.cell (World.block_lt_of_cell? w _ hw329_2)).trans hw329_2), ((HB.out.cell (World.block_lt_of_cell? w _ hw329_3)).trans hw329_3)⟩ (fun hHeld => ?_); refine with_tabW valancelaw12_AnchorSeen.tab18 valancelaw12_AnchorSeen.bits18 (fun HT_ HW_ => ?_)
                  generalize wc.drew = w38 at BK319 HB hx327_0 hx327_1 hx327_2 hx327_3 hx329_0 hx329_1 hx329_2 hx329_3 hHeld ⊢
                  refine pure_ (i := 0) (N := some 70) (v := ?_) (a' := ?_) #[tt,ff,ff,ff,ff,ff,ff,ff,ff,ff,ff,ff,ff,ff,ff] rfl rfl (any_of HT_.out (by kernel_rfl)) (fun _ _ _ h => h) (Or.inl ⟨by rfl, ?_⟩) ?_ ?_
                  rotate_left
                  · intro w'
                    go_simp
                    with_reducible rfl
                  rotate_left
                  · simp only [Act.put, List.setIfInBounds_toArray, List.set_cons_zero, List.set_cons_succ, i64_w, i32_w]
                    rfl
                  refine pure_ (i := 1) (N := some 71) (v := ?_) (a' := ?_) #[tt,tt,ff,ff,ff,ff,ff,ff,ff,ff,ff,ff,ff,ff,ff] rfl rfl (any_of HT_.out (by kernel_rfl)) (fun _ _ _ h => h) (Or.inl ⟨by rfl, ?_⟩) ?_ ?_
                  rotate_left
                  · intro w'
                    go_simp
                    with_reducible rfl
                  rotate_left
                  · simp only [Act.put, List.setIfInBounds_toArray, List.set_cons_zero, List.set_cons_succ, i64_w, i32_w]
                    rfl
                  refine pure_ (i := 2) (N := some 72) (v := ?_) (a' := ?_) #[tt,tt,tt,ff,ff,ff,ff,ff,ff,ff,ff,ff,ff,ff,ff] rfl rfl (any_of HT_.out (by kernel_rfl)) (fun _ _ _ h => h) (Or.inl ⟨by rfl, ?_⟩) ?_ ?_
                  rotate_left
                  · intro w'
                    go_simp
                    with_reducible rfl
                  rotate_left
                  · simp only [Act.put, List.setIfInBounds_toArray, List.set_cons_zero, List.set_cons_succ, i64_w, i32_w]
                    rfl
                  refine pure_ (i := 3) (N := some 73) (v := ?_) (a' := ?_) #[tt,tt,tt,tt,ff,ff,ff,ff,ff,ff,ff,ff,ff,ff,ff] rfl rfl (any_of HT_.out (by kernel_rfl)) (fun _ _ _ h => h) (Or.inl ⟨by rfl, ?_⟩) ?_ ?_
                  rotate_left
                  · intro w'
                    go_simp
                    with_reducible rfl
                  rotate_left
                  · simp only [Act.put, List.setIfInBounds_toArray, List.set_cons_zero, List.set_cons_succ, i64_w, i32_w]
                    rfl
                  refine take_ (i := 4) (N := some 74) (v := ?_) (a' := ?_) #[tt,tt,tt,tt,tt,ff,ff,ff,ff,ff,ff,ff,ff,ff,ff] rfl rfl (take_ofW HT_.out HW_.out (by kernel_rfl)) (fun _ _ _ h => h) (Or.inl ⟨by rfl, ?_⟩) hHeld ?_ ?_
                  rotate_left
                  · rintro w' ⟨s0, s1, s2, s3, s4, s5, s6, s7, s8, s9⟩
                    go_simp
                    with_reducible rfl
                  rotate_left
                  · simp only [Act.put, List.setIfInBounds_toArray, List.set_cons_zero, List.set_cons_succ, i64_w, i32_w]
                    rfl
                  refine take_ (i := 5) (N := some 75) (v := ?_) (a' := ?_) #[tt,tt,tt,tt,tt,tt,ff,ff,ff,ff,ff,ff,ff,ff,ff] rfl rfl (take_ofW HT_.out HW_.out (by kernel_rfl)) (fun _ _ _ h => h) (Or.inl ⟨by rfl, ?_⟩) hHeld ?_ ?_
                  rotate_left
                  · rintro w' ⟨s0, s1, s2, s3, s4, s5, s6, s7, s8, s9⟩
                    go_simp
                    with_reducible rfl
                  rotate_left
                  · simp only [Act.put, List.setIfInBounds_toArray, List.set_cons_zero, List.set_cons_succ, i64_w, i32_w]
                    rfl
                  refine one_ (i := 6) (N := some 76) #[tt,tt,tt,tt,tt,tt,tt,ff,ff,ff,ff,ff,ff,ff,ff] rfl rfl (one_of HT_.out (by kernel_rfl)) (by decide) (fun K hK => ?_)
                  refine goes_ Try.func28 (by kernel_rfl) rfl #[.agg #[.int .i64 ((rd_T56 l0 t321).f1.f0), .int .i64 ((rd_T56 l0 t321).f1.f1)], .agg #[.int .i64 a1_0, .int .i64 a1_1]] (by rfl) rfl rfl (by (try simp only [List.map_toArray, List.map_cons, List.map_nil]); first | done | rfl | (simp only [List.length_drop, List.length_take]; rfl)) ?_
                  with_reducible refine (anchor_Sight.calls ((rd_T56 l0 t321).f1.f0) ((rd_T56 l0 t321).f1.f1) a1_0 a1_1 t328 _ A34.out).mono ?_
                  rintro e w39 ⟨rfl, hb⟩
                  refine ⟨_, rfl, ?_⟩
                  have n0_ := Aside0.mk (blk_below (g := gb319) (o := .cells #[.int .i64 a1_0, .int .i64 a1_1] 23 (0, 0)) BK319.out hb)
                  have n1_ := Aside0.mk (below_step (by repeat (first | (with_reducible first | exact HB.out | apply below_alloc | apply pw_below_drewN | apply below_drew1 | refine below_set ?_ GE319.out) | exact HB.out)) hb)
                  clear BK319
                  clear HB
                  have BK319 := n0_
                  have HB := n1_
                  clear n0_ n1_
                  (try clear hb)
                  (try clear hb2)
                  (try clear hk)
                  (try clear hi)
                  refine hK.out _ _ ⟨(blk_cell BK319.out 0).trans rfl, (blk_cell BK319.out 1).trans rfl, ((HB.out.cell (World.block_lt_of_cell? w _ hw327_0)).trans hw327_0), ((HB.out.cell (World.block_lt_of_cell? w _ hw327_1)).trans hw327_1), ((HB.out.cell (World.block_lt_of_cell? w _ hw327_2)).trans hw327_2), ((HB.out.cell (World.block_lt_of_cell? w _ hw327_3)).trans hw327_3), ((HB.out.cell (World.block_lt_of_cell? w _ hw329_0)).trans hw329_0), ((HB.out.cell (World.block_lt_of_cell? w _ hw329_1)).trans hw329_1), ((HB.out.cell (World.block_lt_of_cell? w _ hw329_2)).trans hw329_2), ((HB.out.cell (World.block_lt_of_cell? w _ hw329_3)).trans hw329_3)⟩ (fun hHeld => ?_)
                  clear hK K
                  refine norm_ (a' := ?_) ?_ ?_
                  rotate_left
                  · show Act.put _ (some 76) _ = _
                    simp only [Act.put, List.setIfInBounds_toArray, List.set_cons_zero, List.set_cons_succ, i64_w, i32_w]
                    rfl
                  refine pure_ (i := 7) (N := some 77) (v := ?_) (a' := ?_) #[tt,tt,tt,tt,tt,tt,tt,tt,ff,ff,ff,ff,ff,ff,ff] rfl rfl (any_of HT_.out (by kernel_rfl)) (fun _ _ _ h => h) (Or.inl ⟨by rfl, ?_⟩) ?_ ?_
                  rotate_left
                  · intro w'
                    go_simp
                    with_reducible rfl
                  rotate_left
                  · simp only [Act.put, List.setIfInBounds_toArray, List.set_cons_zero, List.set_cons_succ, i64_w, i32_w]
                    rfl
                  refine pure_ (i := 8) (N := some 78) (v := ?_) (a' := ?_) #[tt,tt,tt,tt,tt,tt,tt,tt,tt,ff,ff,ff,ff,ff,ff] rfl rfl (any_of HT_.out (by kernel_rfl)) (fun _ _ _ h => h) (Or.inl ⟨by rfl, ?_⟩) ?_ ?_
                  rotate_left
                  · intro w'
                    go_simp
                    with_reducible rfl
                  rotate_left
                  · simp only [Act.put, List.setIfInBounds_toArray, List.set_cons_zero, List.set_cons_succ, i64_w, i32_w]
                    rfl
                  refine pure_ (i := 9) (N := some 79) (v := ?_) (a' := ?_) #[tt,tt,tt,tt,tt,tt,tt,tt,tt,tt,ff,ff,ff,ff,ff] rfl rfl (any_of HT_.out (by kernel_rfl)) (fun _ _ _ h => h) (Or.inl ⟨by rfl, ?_⟩) ?_ ?_
                  rotate_left
                  · intro w'
                    go_simp
                    with_reducible rfl
                  rotate_left
                  · simp only [Act.put, List.setIfInBounds_toArray, List.set_cons_zero, List.set_cons_succ, i64_w, i32_w]
                    rfl
                  refine pure_ (i := 10) (N := some 80) (v := ?_) (a' := ?_) #[tt,tt,tt,tt,tt,tt,tt,tt,tt,tt,tt,ff,ff,ff,ff] rfl rfl (any_of HT_.out (by kernel_rfl)) (fun _ _ _ h => h) (Or.inl ⟨by rfl, ?_⟩) ?_ ?_
                  rotate_left
                  · intro w'
                    go_simp
                    with_reducible rfl
                  rotate_left
                  · simp only [Act.put, List.setIfInBounds_toArray, List.set_cons_zero, List.set_cons_succ, i64_w, i32_w]
                    rfl
                  refine pure_ (i := 11) (N := some 81) (v := ?_) (a' := ?_) #[tt,tt,tt,tt,tt,tt,tt,tt,tt,tt,tt,tt,ff,ff,ff] rfl rfl (any_of HT_.out (by kernel_rfl)) (fun _ _ _ h => h) (Or.inl ⟨by rfl, ?_⟩) ?_ ?_
                  rotate_left
                  · intro w'
                    go_simp
                    with_reducible rfl
                  rotate_left
                  · simp only [Act.put, List.setIfInBounds_toArray, List.set_cons_zero, List.set_cons_succ, i64_w, i32_w]
                    rfl
                  refine pure_ (i := 12) (N := some 82) (v := ?_) (a' := ?_) #[tt,tt,tt,tt,tt,tt,tt,tt,tt,tt,tt,tt,tt,ff,ff] rfl rfl (any_of HT_.out (by kernel_rfl)) (fun _ _ _ h => h) (Or.inl ⟨by rfl, ?_⟩) ?_ ?_
                  rotate_left
                  · intro w'
                    go_simp
                    with_reducible rfl
                  rotate_left
                  · simp only [Act.put, List.setIfInBounds_toArray, List.set_cons_zero, List.set_cons_succ, i64_w, i32_w]
                    rfl
                  refine take_ (i := 13) (N := some 83) (v := ?_) (a' := ?_) #[tt,tt,tt,tt,tt,tt,tt,tt,tt,tt,tt,tt,tt,tt,ff] rfl rfl (take_ofW HT_.out HW_.out (by kernel_rfl)) (fun _ _ _ h => h) (Or.inl ⟨by rfl, ?_⟩) hHeld ?_ ?_
                  rotate_left
                  · rintro w' ⟨s0, s1, s2, s3, s4, s5, s6, s7, s8, s9⟩
                    go_simp
                    with_reducible rfl
                  rotate_left
                  · simp only [Act.put, List.setIfInBounds_toArray, List.set_cons_zero, List.set_cons_succ, i64_w, i32_w]
                    rfl
                  refine pure_ (i := 14) (N := some 84) (v := ?_) (a' := ?_) #[tt,tt,tt,tt,tt,tt,tt,tt,tt,tt,tt,tt,tt,tt,tt] rfl rfl (any_of HT_.out (by kernel_rfl)) (fun _ _ _ h => h) (Or.inl ⟨by rfl, ?_⟩) ?_ ?_
                  rotate_left
                  · intro w'
                    go_simp
                    with_reducible rfl
                  rotate_left
                  · simp only [Act.put, List.setIfInBounds_toArray, List.set_cons_zero, List.set_cons_succ, i64_w, i32_w]
                    rfl
                  refine done_ (done_of HT_.out (by kernel_rfl)) ?_
                  try go_wp2
                  go_meet
                  case rel => exact ⟨_, ((rd_T56 l0 t321).f2), (by first | rfl | (simp; done) | (simp [*]; done)), H', ⟨by have := HJ10.out; first | omega | exact Nat.le_refl _⟩, ⟨by (with_reducible repeat (first | refine blk_drewN ?_ _ | refine blk_drew ?_ | refine blk_alloc ?_ _)); exact BK319.out⟩, ⟨by repeat (first | (with_reducible first | exact HB.out | apply below_alloc | apply pw_below_drewN | apply below_drew1 | refine below_set ?_ GE319.out) | exact HB.out)⟩⟩
              case rest =>
                clear HC31
                try clear c1
                try clear c2
                try clear p2
                try clear c3
                try clear p3
                try clear q3
                try clear hx3
                try clear p6
                try clear c19
                try clear c19b0
                try clear c19b1
                try clear c20
                try clear c20b0
                try clear c21
                try clear c22
                try clear c22b0
                try clear c22b1
                try clear c28
                try clear c32
                try clear c32b0
                try clear p32
                try clear q32
                try clear hx32
                try clear c33
                try clear c33b0
                try clear c35
                try clear c35b0
                try clear c35b1
                try clear hx323_0
                try clear hx323_1
                try clear hx323_2
                try clear hx323_3
                try clear hx327_0
                try clear hx327_1
                try clear hx327_2
                try clear hx327_3
                try clear hx329_0
                try clear hx329_1
                try clear hx329_2
                try clear hx329_3
                try clear p323
                try clear p327
                try clear p329
                try clear q323
                try clear q327
                try clear q329
                obtain ⟨kq, x84_30, rfl, HA, HJ30, BK319, HB⟩ := hcut
                cases kq with
                | zero => exact absurd HA.out (by simp [valancelaw12_AnchorSeen.j2])
                | succ kj30 =>
                  have H := HA.out
                  clear HA
                  simp only [valancelaw12_AnchorSeen.j2] at H
                  by_cases c40 : x84_30 = true
                  · subst c40
                    have H1 : (none) = some r := by rw [if_pos rfl] at H; exact H
                    clear H
                    have H := H1
                    clear H1
                    exact absurd H (by simp)
                  · replace c40 := Bool.eq_false_iff.mpr c40
                    subst c40
                    have H1 : (valancelaw12_AnchorSeen.l1 kj30 l0 true t321 a1_0 a1_1) = some r := by rw [if_neg (show ¬ (false = true) by decide)] at H; exact H
                    clear H
                    have H := H1
                    clear H1
                    have H' := Aside0.mk H
                    clear H
                    go_wp2
                    go_loopg [8] kj30 (fun kq v8 w' => ∃ (x8_3 : Int), v8 = .int .i64 x8_3 ∧ Aside0 (valancelaw12_AnchorSeen.l1 kq l0 true x8_3 a1_0 a1_1 = some r) ∧ Aside0 (kq ≤ kj30) ∧ Aside0 (w'.heap[gb319]? = some (.cells #[.int .i64 a1_0, .int .i64 a1_1] 23 (0, 0))) ∧ Aside0 (Below w.heap.size w w'))
                    case atStart => exact ⟨(t321), (by first | rfl | (simp; done) | (simp [*]; done)), H', ⟨Nat.le_refl _⟩, ⟨by (with_reducible repeat (first | refine blk_drewN ?_ _ | refine blk_drew ?_ | refine blk_alloc ?_ _)); exact BK319.out⟩, ⟨by repeat (first | (with_reducible first | exact HB.out | apply below_alloc | apply pw_below_drewN | apply below_drew1 | refine below_set ?_ GE319.out) | exact HB.out)⟩⟩
                    case round =>
                      clear H'
                      try clear c1
                      try clear c2
                      try clear p2
                      try clear c3
                      try clear p3
                      try clear q3
                      try clear hx3
                      try clear c4
                      try clear p6
                      try clear c19
                      try clear c19b0
                      try clear c19b1
                      try clear c20
                      try clear c20b0
                      try clear c21
                      try clear c22
                      try clear c22b0
                      try clear c22b1
                      try clear c28
                      try clear c32
                      try clear c32b0
                      try clear p32
                      try clear q32
                      try clear hx32
                      try clear c33
                      try clear c33b0
                      try clear c35
                      try clear c35b0
                      try clear c35b1
                      try clear c40
                      try clear hx323_0
                      try clear hx323_1
                      try clear hx323_2
                      try clear hx323_3
                      try clear hx327_0
                      try clear hx327_1
                      try clear hx327_2
                      try clear hx327_3
                      try clear hx329_0
                      try clear hx329_1
                      try clear hx329_2
                      try clear hx329_3
                      try clear p2
                      try clear p3
                      try clear p32
                      try clear p323
                      try clear p327
                      try clear p329
                      try clear p6
                      try clear q3
                      try clear q32
                      try clear q323
                      try clear q327
                      try clear q329
                      obtain ⟨x8_3, rfl, HA, HK3, BK319, HB⟩ := hrel
                      cases gk with
                      | zero => exact absurd HA.out (by simp [valancelaw12_AnchorSeen.l1])
                      | succ k3 =>
                        have H := HA.out
                        clear HA
                        simp only [valancelaw12_AnchorSeen.l1] at H
                        by_cases c41 : x8_3 ≥ 0
                        · rw [if_pos c41] at H
                          have c41b0 : decide (0 ≤ x8_3) = true := decide_eq_true c41
                          clear c41
                          by_cases c42 : 0 ≤ x8_3
                          case neg =>
                            rw [if_neg c42] at H
                            exact absurd H (by simp)
                          rw [if_pos c42] at H
                          have c42b0 : decide (0 ≤ x8_3) = true := decide_eq_true c42
                          clear c42
                          by_cases c43 : x8_3 < (l0.length : Int)
                          case neg =>
                            rw [if_neg c43] at H
                            exact absurd H (by simp)
                          rw [if_pos c43] at H
                          have c43b0 : decide (x8_3 < (l0.length : Int)) = true := decide_eq_true c43
                          clear c43
                          have HC44 := Aside0.mk H
                          clear H
                          have p330 : 0 ≤ (x8_3 : Int) := of_decide_eq_true (by first | (with_reducible assumption) | assumption)
                          have q330 : x8_3 < (l0.length : Int) := of_decide_eq_true (by first | (with_reducible assumption) | assumption)
                          obtain ⟨ad330, e330, hx330_0, hx330_1, hx330_2, hx330_3⟩ := at_T56 HR0.out x8_3 p330 q330
                          cases e330
                          replace hx330_0 := (HB.out.cell (World.block_lt_of_cell? w _ hx330_0)).trans hx330_0
                          replace hx330_1 := (HB.out.cell (World.block_lt_of_cell? w _ hx330_1)).trans hx330_1
                          replace hx330_2 := (HB.out.cell (World.block_lt_of_cell? w _ hx330_2)).trans hx330_2
                          replace hx330_3 := (HB.out.cell (World.block_lt_of_cell? w _ hx330_3)).trans hx330_3
                          replace p330 := eq_true p330
                          replace q330 := eq_true q330
                          go_upto_region 24 with (fail)
                          go_cut [116] (fun v116 wc => ∃ (kq : Nat) (x116_43 : Bool), v116 = .bool x116_43 ∧ Aside0 (valancelaw12_AnchorSeen.j4 kq l0 true x8_3 ((rd_T56 l0 x8_3).f0) x116_43 a1_0 a1_1 = some r) ∧ Aside0 (kq ≤ k3) ∧ Aside0 (wc.heap[gb319]? = some (.cells #[.int .i64 a1_0, .int .i64 a1_1] 23 (0, 0))) ∧ Aside0 (Below w.heap.size w wc))
                          case first =>
                            have H := HC44.out
                            clear HC44
                            by_cases c45 : ((rd_T56 l0 x8_3).f0) ≥ 0
                            · rw [if_pos c45] at H
                              have c45b0 : decide (0 ≤ ((rd_T56 l0 x8_3).f0)) = true := decide_eq_true c45
                              clear c45
                              (first | rw [c45b0] | (simp only [i64_w, i32_w]; rw [c45b0]) | skip)
                              by_cases c46 : 0 ≤ ((rd_T56 l0 x8_3).f0)
                              case neg =>
                                rw [if_neg c46] at H
                                exact absurd H (by simp)
                              rw [if_pos c46] at H
                              have c46b0 : decide (0 ≤ ((rd_T56 l0 x8_3).f0)) = true := decide_eq_true c46
                              clear c46
                              by_cases c47 : ((rd_T56 l0 x8_3).f0) < (l0.length : Int)
                              case neg =>
                                rw [if_neg c47] at H
                                exact absurd H (by simp)
                              rw [if_pos c47] at H
                              have c47b0 : decide (((rd_T56 l0 x8_3).f0) < (l0.length : Int)) = true := decide_eq_true c47
                              clear c47
                              obtain ⟨bq48, hbq48⟩ : ∃ b_ : Bool, b_ = ((rd_T56 l0 ((rd_T56 l0 x8_3).f0)).f2) := ⟨_, rfl⟩
                              replace H : (if bq48 = true then (valancelaw12_AnchorSeen.j4 k3 l0 true x8_3 ((rd_T56 l0 x8_3).f0) true a1_0 a1_1) else ((anchor_Sight.f ((rd_T56 l0 ((rd_T56 l0 x8_3).f0)).f1.f0) ((rd_T56 l0 ((rd_T56 l0 x8_3).f0)).f1.f1) a1_0 a1_1).bind fun t333 => (valancelaw12_AnchorSeen.j4 k3 l0 true x8_3 ((rd_T56 l0 x8_3).f0) (t333 != 1) a1_0 a1_1))) = some r := by rw [← hbq48] at H; exact H
                              have Nbq48 := Aside0.mk hbq48
                              clear hbq48
                              by_cases c49 : bq48 = true
                              · subst c49
                                have H1 : (valancelaw12_AnchorSeen.j4 k3 l0 true x8_3 ((rd_T56 l0 x8_3).f0) true a1_0 a1_1) = some r := by rw [if_pos rfl] at H; exact H
                                clear H
                                have H := H1
                                clear H1
                                have H' := Aside0.mk H
                                clear H
                                try go_wp2
                                have n0_ := Aside0.mk (blk_drew BK319.out)
                                have n1_ := Aside0.mk (below_drew1 HB.out)
                                clear BK319
                                clear HB
                                have BK319 := n0_
                                have HB := n1_
                                clear n0_ n1_
                                have p331 : 0 ≤ (((rd_T56 l0 x8_3).f0) : Int) := of_decide_eq_true (by first | (with_reducible assumption) | assumption)
                                have q331 : ((rd_T56 l0 x8_3).f0) < (l0.length : Int) := of_decide_eq_true (by first | (with_reducible assumption) | assumption)
                                obtain ⟨ad331, e331, hx331_0, hx331_1, hx331_2, hx331_3⟩ := at_T56 HR0.out ((rd_T56 l0 x8_3).f0) p331 q331
                                have hw331_3 := hx331_3
                                have hw331_2 := hx331_2
                                have hw331_1 := hx331_1
                                have hw331_0 := hx331_0
                                (try rw [← Nbq48.out] at hx331_3)
                                (try rw [← Nbq48.out] at hw331_3)
                                obtain rfl : ad330 = ad331 := (by injection e331)
                                replace hx331_0 := (HB.out.cell (World.block_lt_of_cell? w _ hx331_0)).trans hx331_0
                                replace hx331_1 := (HB.out.cell (World.block_lt_of_cell? w _ hx331_1)).trans hx331_1
                                replace hx331_2 := (HB.out.cell (World.block_lt_of_cell? w _ hx331_2)).trans hx331_2
                                replace hx331_3 := (HB.out.cell (World.block_lt_of_cell? w _ hx331_3)).trans hx331_3
                                replace p331 := eq_true p331
                                replace q331 := eq_true q331
                                refine start_ (n := 19) (S := fun w' => w'.cell? (ad330.add ((((rd_T56 l0 x8_3).f0)).toNat * 4)) = some (.int .i64 ((rd_T56 l0 ((rd_T56 l0 x8_3).f0)).f0)) ∧ w'.cell? ⟨(ad330.add ((((rd_T56 l0 x8_3).f0)).toNat * 4)).block, (ad330.add ((((rd_T56 l0 x8_3).f0)).toNat * 4)).off + 1, none⟩ = some (.int .i64 ((rd_T56 l0 ((rd_T56 l0 x8_3).f0)).f1.f0)) ∧ w'.cell? ⟨(ad330.add ((((rd_T56 l0 x8_3).f0)).toNat * 4)).block, (ad330.add ((((rd_T56 l0 x8_3).f0)).toNat * 4)).off + 2, none⟩ = some (.int .i64 ((rd_T56 l0 ((rd_T56 l0 x8_3).f0)).f1.f1)) ∧ w'.cell? ⟨(ad330.add ((((rd_T56 l0 x8_3).f0)).toNat * 4)).block, (ad330.add ((((rd_T56 l0 x8_3).f0)).toNat * 4)).off + 3, none⟩ = some (.bool true)) (ds := []) #[ff,ff,ff,ff,ff,ff,ff,ff,ff,ff,ff,ff,ff,ff,ff,ff,ff,ff,ff] (by kernel_rfl) rfl rfl ⟨((HB.out.cell (World.block_lt_of_cell? w _ hw331_0)).trans hw331_0), ((HB.out.cell (World.block_lt_of_cell? w _ hw331_1)).trans hw331_1), ((HB.out.cell (World.block_lt_of_cell? w _ hw331_2)).trans hw331_2), ((HB.out.cell (World.block_lt_of_cell? w _ hw331_3)).trans hw331_3)⟩ (fun hHeld => ?_); refine with_tabW valancelaw12_AnchorSeen.tab24 valancelaw12_AnchorSeen.bits24 (fun HT_ HW_ => ?_)
                                generalize wr.drew = w50 at BK319 HB hx331_0 hx331_1 hx331_2 hx331_3 hHeld ⊢
                                refine pure_ (i := 0) (N := some 98) (v := ?_) (a' := ?_) #[tt,ff,ff,ff,ff,ff,ff,ff,ff,ff,ff,ff,ff,ff,ff,ff,ff,ff,ff] rfl rfl (any_of HT_.out (by kernel_rfl)) (fun _ _ _ h => h) (Or.inl ⟨by rfl, ?_⟩) ?_ ?_
                                rotate_left
                                · intro w'
                                  go_simp
                                  with_reducible rfl
                                rotate_left
                                · simp only [Act.put, List.setIfInBounds_toArray, List.set_cons_zero, List.set_cons_succ, i64_w, i32_w]
                                  rfl
                                refine pure_ (i := 1) (N := some 99) (v := ?_) (a' := ?_) #[tt,tt,ff,ff,ff,ff,ff,ff,ff,ff,ff,ff,ff,ff,ff,ff,ff,ff,ff] rfl rfl (any_of HT_.out (by kernel_rfl)) (fun _ _ _ h => h) (Or.inl ⟨by rfl, ?_⟩) ?_ ?_
                                rotate_left
                                · intro w'
                                  go_simp
                                  with_reducible rfl
                                rotate_left
                                · simp only [Act.put, List.setIfInBounds_toArray, List.set_cons_zero, List.set_cons_succ, i64_w, i32_w]
                                  rfl
                                refine pure_ (i := 2) (N := some 100) (v := ?_) (a' := ?_) #[tt,tt,tt,ff,ff,ff,ff,ff,ff,ff,ff,ff,ff,ff,ff,ff,ff,ff,ff] rfl rfl (any_of HT_.out (by kernel_rfl)) (fun _ _ _ h => h) (Or.inl ⟨by rfl, ?_⟩) ?_ ?_
                                rotate_left
                                · intro w'
                                  go_simp
                                  with_reducible rfl
                                rotate_left
                                · simp only [Act.put, List.setIfInBounds_toArray, List.set_cons_zero, List.set_cons_succ, i64_w, i32_w]
                                  rfl
                                refine pure_ (i := 3) (N := some 101) (v := ?_) (a' := ?_) #[tt,tt,tt,tt,ff,ff,ff,ff,ff,ff,ff,ff,ff,ff,ff,ff,ff,ff,ff] rfl rfl (any_of HT_.out (by kernel_rfl)) (fun _ _ _ h => h) (Or.inl ⟨by rfl, ?_⟩) ?_ ?_
                                rotate_left
                                · intro w'
                                  go_simp
                                  with_reducible rfl
                                rotate_left
                                · simp only [Act.put, List.setIfInBounds_toArray, List.set_cons_zero, List.set_cons_succ, i64_w, i32_w]
                                  rfl
                                refine pure_ (i := 4) (N := some 102) (v := ?_) (a' := ?_) #[tt,tt,tt,tt,tt,ff,ff,ff,ff,ff,ff,ff,ff,ff,ff,ff,ff,ff,ff] rfl rfl (any_of HT_.out (by kernel_rfl)) (fun _ _ _ h => h) (Or.inl ⟨by rfl, ?_⟩) ?_ ?_
                                rotate_left
                                · intro w'
                                  go_simp
                                  with_reducible rfl
                                rotate_left
                                · simp only [Act.put, List.setIfInBounds_toArray, List.set_cons_zero, List.set_cons_succ, i64_w, i32_w]
                                  rfl
                                refine pure_ (i := 5) (N := some 103) (v := ?_) (a' := ?_) #[tt,tt,tt,tt,tt,tt,ff,ff,ff,ff,ff,ff,ff,ff,ff,ff,ff,ff,ff] rfl rfl (any_of HT_.out (by kernel_rfl)) (fun _ _ _ h => h) (Or.inl ⟨by rfl, ?_⟩) ?_ ?_
                                rotate_left
                                · intro w'
                                  go_simp
                                  with_reducible rfl
                                rotate_left
                                · simp only [Act.put, List.setIfInBounds_toArray, List.set_cons_zero, List.set_cons_succ, i64_w, i32_w]
                                  rfl
                                refine pure_ (i := 6) (N := some 104) (v := ?_) (a' := ?_) #[tt,tt,tt,tt,tt,tt,tt,ff,ff,ff,ff,ff,ff,ff,ff,ff,ff,ff,ff] rfl rfl (any_of HT_.out (by kernel_rfl)) (fun _ _ _ h => h) (Or.inl ⟨by rfl, ?_⟩) ?_ ?_
                                rotate_left
                                · intro w'
                                  go_simp
                                  with_reducible rfl
                                rotate_left
                                · simp only [Act.put, List.setIfInBounds_toArray, List.set_cons_zero, List.set_cons_succ, i64_w, i32_w]
                                  rfl
                                refine take_ (i := 7) (N := some 105) (v := ?_) (a' := ?_) #[tt,tt,tt,tt,tt,tt,tt,tt,ff,ff,ff,ff,ff,ff,ff,ff,ff,ff,ff] rfl rfl (take_ofW HT_.out HW_.out (by kernel_rfl)) (fun _ _ _ h => h) (Or.inl ⟨by rfl, ?_⟩) hHeld ?_ ?_
                                rotate_left
                                · rintro w' ⟨s0, s1, s2, s3⟩
                                  go_simp
                                  with_reducible rfl
                                rotate_left
                                · simp only [Act.put, List.setIfInBounds_toArray, List.set_cons_zero, List.set_cons_succ, i64_w, i32_w]
                                  rfl
                                refine pure_ (i := 8) (N := some 106) (v := ?_) (a' := ?_) #[tt,tt,tt,tt,tt,tt,tt,tt,tt,ff,ff,ff,ff,ff,ff,ff,ff,ff,ff] rfl rfl (any_of HT_.out (by kernel_rfl)) (fun _ _ _ h => h) (Or.inl ⟨by rfl, ?_⟩) ?_ ?_
                                rotate_left
                                · intro w'
                                  go_simp
                                  with_reducible rfl
                                rotate_left
                                · simp only [Act.put, List.setIfInBounds_toArray, List.set_cons_zero, List.set_cons_succ, i64_w, i32_w]
                                  rfl
                                refine pure_ (i := 9) (N := some 107) (v := undef) (a' := ?_) #[tt,tt,tt,tt,tt,tt,tt,tt,tt,tt,ff,ff,ff,ff,ff,ff,ff,ff,ff] rfl rfl (any_of HT_.out (by kernel_rfl)) (fun _ _ _ h => h) (Or.inr ⟨by rfl, rfl⟩) ?_ ?_
                                rotate_left
                                · simp only [Act.put, List.setIfInBounds_toArray, List.set_cons_zero, List.set_cons_succ, i64_w, i32_w]
                                  rfl
                                refine pure_ (i := 10) (N := some 108) (v := undef) (a' := ?_) #[tt,tt,tt,tt,tt,tt,tt,tt,tt,tt,tt,ff,ff,ff,ff,ff,ff,ff,ff] rfl rfl (any_of HT_.out (by kernel_rfl)) (fun _ _ _ h => h) (Or.inr ⟨by rfl, rfl⟩) ?_ ?_
                                rotate_left
                                · simp only [Act.put, List.setIfInBounds_toArray, List.set_cons_zero, List.set_cons_succ, i64_w, i32_w]
                                  rfl
                                refine pure_ (i := 11) (N := some 109) (v := undef) (a' := ?_) #[tt,tt,tt,tt,tt,tt,tt,tt,tt,tt,tt,tt,ff,ff,ff,ff,ff,ff,ff] rfl rfl (any_of HT_.out (by kernel_rfl)) (fun _ _ _ h => h) (Or.inr ⟨by rfl, rfl⟩) ?_ ?_
                                rotate_left
                                · simp only [Act.put, List.setIfInBounds_toArray, List.set_cons_zero, List.set_cons_succ, i64_w, i32_w]
                                  rfl
                                refine pure_ (i := 12) (N := some 110) (v := undef) (a' := ?_) #[tt,tt,tt,tt,tt,tt,tt,tt,tt,tt,tt,tt,tt,ff,ff,ff,ff,ff,ff] rfl rfl (any_of HT_.out (by kernel_rfl)) (fun _ _ _ h => h) (Or.inr ⟨by rfl, rfl⟩) ?_ ?_
                                rotate_left
                                · simp only [Act.put, List.setIfInBounds_toArray, List.set_cons_zero, List.set_cons_succ, i64_w, i32_w]
                                  rfl
                                refine pure_ (i := 13) (N := some 111) (v := undef) (a' := ?_) #[tt,tt,tt,tt,tt,tt,tt,tt,tt,tt,tt,tt,tt,tt,ff,ff,ff,ff,ff] rfl rfl (any_of HT_.out (by kernel_rfl)) (fun _ _ _ h => h) (Or.inr ⟨by rfl, rfl⟩) ?_ ?_
                                rotate_left
                                · simp only [Act.put, List.setIfInBounds_toArray, List.set_cons_zero, List.set_cons_succ, i64_w, i32_w]
                                  rfl
                                refine pure_ (i := 14) (N := some 112) (v := undef) (a' := ?_) #[tt,tt,tt,tt,tt,tt,tt,tt,tt,tt,tt,tt,tt,tt,tt,ff,ff,ff,ff] rfl rfl (any_of HT_.out (by kernel_rfl)) (fun _ _ _ h => h) (Or.inr ⟨by rfl, rfl⟩) ?_ ?_
                                rotate_left
                                · simp only [Act.put, List.setIfInBounds_toArray, List.set_cons_zero, List.set_cons_succ, i64_w, i32_w]
                                  rfl
                                refine pure_ (i := 15) (N := some 113) (v := undef) (a' := ?_) #[tt,tt,tt,tt,tt,tt,tt,tt,tt,tt,tt,tt,tt,tt,tt,tt,ff,ff,ff] rfl rfl (any_of HT_.out (by kernel_rfl)) (fun _ _ _ h => h) (Or.inr ⟨by rfl, rfl⟩) ?_ ?_
                                rotate_left
                                · simp only [Act.put, List.setIfInBounds_toArray, List.set_cons_zero, List.set_cons_succ, i64_w, i32_w]
                                  rfl
                                refine pure_ (i := 16) (N := some 114) (v := undef) (a' := ?_) #[tt,tt,tt,tt,tt,tt,tt,tt,tt,tt,tt,tt,tt,tt,tt,tt,tt,ff,ff] rfl rfl (any_of HT_.out (by kernel_rfl)) (fun _ _ _ h => h) (Or.inr ⟨by rfl, rfl⟩) ?_ ?_
                                rotate_left
                                · simp only [Act.put, List.setIfInBounds_toArray, List.set_cons_zero, List.set_cons_succ, i64_w, i32_w]
                                  rfl
                                refine pure_ (i := 17) (N := some 115) (v := ?_) (a' := ?_) #[tt,tt,tt,tt,tt,tt,tt,tt,tt,tt,tt,tt,tt,tt,tt,tt,tt,tt,ff] rfl rfl (any_of HT_.out (by kernel_rfl)) (fun _ _ _ h => h) (Or.inl ⟨by rfl, ?_⟩) ?_ ?_
                                rotate_left
                                · intro w'
                                  go_simp
                                  with_reducible rfl
                                rotate_left
                                · simp only [Act.put, List.setIfInBounds_toArray, List.set_cons_zero, List.set_cons_succ, i64_w, i32_w]
                                  rfl
                                refine pure_ (i := 18) (N := some 116) (v := ?_) (a' := ?_) #[tt,tt,tt,tt,tt,tt,tt,tt,tt,tt,tt,tt,tt,tt,tt,tt,tt,tt,tt] rfl rfl (any_of HT_.out (by kernel_rfl)) (fun _ _ _ h => h) (Or.inl ⟨by rfl, ?_⟩) ?_ ?_
                                rotate_left
                                · intro w'
                                  go_simp
                                  with_reducible rfl
                                rotate_left
                                · simp only [Act.put, List.setIfInBounds_toArray, List.set_cons_zero, List.set_cons_succ, i64_w, i32_w]
                                  rfl
                                refine done_ (done_of HT_.out (by kernel_rfl)) ?_
                                try go_wp2
                                go_meet
                                case rel => exact ⟨_, (true), (by first | rfl | (simp; done) | (simp [*]; done)), H', ⟨by have := HJ10.out; have := HJ30.out; have := HK3.out; first | omega | exact Nat.le_refl _⟩, ⟨by (with_reducible repeat (first | refine blk_drewN ?_ _ | refine blk_drew ?_ | refine blk_alloc ?_ _)); exact BK319.out⟩, ⟨by repeat (first | (with_reducible first | exact HB.out | apply below_alloc | apply pw_below_drewN | apply below_drew1 | refine below_set ?_ GE319.out) | exact HB.out)⟩⟩
                              · replace c49 := Bool.eq_false_iff.mpr c49
                                subst c49
                                have H1 : ((anchor_Sight.f ((rd_T56 l0 ((rd_T56 l0 x8_3).f0)).f1.f0) ((rd_T56 l0 ((rd_T56 l0 x8_3).f0)).f1.f1) a1_0 a1_1).bind fun t333 => (valancelaw12_AnchorSeen.j4 k3 l0 true x8_3 ((rd_T56 l0 x8_3).f0) (t333 != 1) a1_0 a1_1)) = some r := by rw [if_neg (show ¬ (false = true) by decide)] at H; exact H
                                clear H
                                have H := H1
                                clear H1
                                replace H := Option.bind_eq_some_iff.mp H
                                obtain ⟨t333, A510, H⟩ := H
                                replace H : (valancelaw12_AnchorSeen.j4 k3 l0 true x8_3 ((rd_T56 l0 x8_3).f0) (t333 != 1) a1_0 a1_1) = some r := H
                                have A51 := Aside0.mk A510
                                clear A510
                                have H' := Aside0.mk H
                                clear H
                                try go_wp2
                                have n0_ := Aside0.mk (blk_drew BK319.out)
                                have n1_ := Aside0.mk (below_drew1 HB.out)
                                clear BK319
                                clear HB
                                have BK319 := n0_
                                have HB := n1_
                                clear n0_ n1_
                                have p331 : 0 ≤ (((rd_T56 l0 x8_3).f0) : Int) := of_decide_eq_true (by first | (with_reducible assumption) | assumption)
                                have q331 : ((rd_T56 l0 x8_3).f0) < (l0.length : Int) := of_decide_eq_true (by first | (with_reducible assumption) | assumption)
                                obtain ⟨ad331, e331, hx331_0, hx331_1, hx331_2, hx331_3⟩ := at_T56 HR0.out ((rd_T56 l0 x8_3).f0) p331 q331
                                have hw331_3 := hx331_3
                                have hw331_2 := hx331_2
                                have hw331_1 := hx331_1
                                have hw331_0 := hx331_0
                                (try rw [← Nbq48.out] at hx331_3)
                                (try rw [← Nbq48.out] at hw331_3)
                                obtain rfl : ad330 = ad331 := (by injection e331)
                                replace hx331_0 := (HB.out.cell (World.block_lt_of_cell? w _ hx331_0)).trans hx331_0
                                replace hx331_1 := (HB.out.cell (World.block_lt_of_cell? w _ hx331_1)).trans hx331_1
                                replace hx331_2 := (HB.out.cell (World.block_lt_of_cell? w _ hx331_2)).trans hx331_2
                                replace hx331_3 := (HB.out.cell (World.block_lt_of_cell? w _ hx331_3)).trans hx331_3
                                replace p331 := eq_true p331
                                replace q331 := eq_true q331
                                have p332 : 0 ≤ (((rd_T56 l0 x8_3).f0) : Int) := of_decide_eq_true (by first | (with_reducible assumption) | assumption)
                                have q332 : ((rd_T56 l0 x8_3).f0) < (l0.length : Int) := of_decide_eq_true (by first | (with_reducible assumption) | assumption)
                                obtain ⟨ad332, e332, hx332_0, hx332_1, hx332_2, hx332_3⟩ := at_T56 HR0.out ((rd_T56 l0 x8_3).f0) p332 q332
                                have hw332_3 := hx332_3
                                have hw332_2 := hx332_2
                                have hw332_1 := hx332_1
                                have hw332_0 := hx332_0
                                (try rw [← Nbq48.out] at hx332_3)
                                (try rw [← Nbq48.out] at hw332_3)
                                obtain rfl : ad330 = ad332 := (by injection e332)
                                replace hx332_0 := (HB.out.cell (World.block_lt_of_cell? w _ hx332_0)).trans hx332_0
                                replace hx332_1 := (HB.out.cell (World.block_lt_of_cell? w _ hx332_1)).trans hx332_1
                                replace hx332_2 := (HB.out.cell (World.block_lt_of_cell? w _ hx332_2)).trans hx332_2
                                replace hx332_3 := (HB.out.cell (World.block_lt_of_cell? w _ hx332_3)).trans hx332_3
                                replace p332 := eq_true p332
                                replace q332 := eq_true q332
                                refine start_ (n := 19) (S := fun w' => w'.cell? ⟨gb319, 0, none⟩ = some (.int .i64 a1_0) ∧ w'.cell? ⟨gb319, 1, none⟩ = some (.int .i64 a1_1) ∧ w'.cell? (ad330.add ((((rd_T56 l0 x8_3).f0)).toNat * 4)) = some (.int .i64 ((rd_T56 l0 ((rd_T56 l0 x8_3).f0)).f0)) ∧ w'.cell? ⟨(ad330.add ((((rd_T56 l0 x8_3).f0)).toNat * 4)).block, (ad330.add ((((rd_T56 l0 x8_3).f0)).toNat * 4)).off + 1, none⟩ = some (.int .i64 ((rd_T56 l0 ((rd_T56 l0 x8_3).f0)).f1.f0)) ∧ w'.cell? ⟨(ad330.add ((((rd_T56 l0 x8_3).f0)).toNat * 4)).block, (ad330.add ((((rd_T56 l0 x8_3).f0)).toNat * 4)).off + 2, none⟩ = some (.int .i64 ((rd_T56 l0 ((rd_T56 l0 x8_3).f0)).f1.f1)) ∧ w'.cell? ⟨(ad330.add ((((rd_T56 l0 x8_3).f0)).toNat * 4)).block, (ad330.add ((((rd_T56 l0 x8_3).f0)).toNat * 4)).off + 3, none⟩ = some (.bool false) ∧ w'.cell? (ad330.add ((((rd_T56 l0 x8_3).f0)).toNat * 4)) = some (.int .i64 ((rd_T56 l0 ((rd_T56 l0 x8_3).f0)).f0)) ∧ w'.cell? ⟨(ad330.add ((((rd_T56 l0 x8_3).f0)).toNat * 4)).block, (ad330.add ((((rd_T56 l0 x8_3).f0)).toNat * 4)).off + 1, none⟩ = some (.int .i64 ((rd_T56 l0 ((rd_T56 l0 x8_3).f0)).f1.f0)) ∧ w'.cell? ⟨(ad330.add ((((rd_T56 l0 x8_3).f0)).toNat * 4)).block, (ad330.add ((((rd_T56 l0 x8_3).f0)).toNat * 4)).off + 2, none⟩ = some (.int .i64 ((rd_T56 l0 ((rd_T56 l0 x8_3).f0)).f1.f1)) ∧ w'.cell? ⟨(ad330.add ((((rd_T56 l0 x8_3).f0)).toNat * 4)).block, (ad330.add ((((rd_T56 l0 x8_3).f0)).toNat * 4)).off + 3, none⟩ = some (.bool (false))) (ds := []) #[ff,ff,ff,ff,ff,ff,ff,ff,ff,ff,ff,ff,ff,ff,ff,ff,ff,ff,ff] (by kernel_rfl) rfl rfl ⟨(blk_cell BK319.out 0).trans rfl, (blk_cell BK319.out 1).trans rfl, ((HB.out.cell (World.block_lt_of_cell? w _ hw331_0)).trans hw331_0), ((HB.out.cell (World.block_lt_of_cell? w _ hw331_1)).trans hw331_1), ((HB.out.cell (World.block_lt_of_cell? w _ hw331_2)).trans hw331_2), ((HB.out.cell (World.block_lt_of_cell? w _ hw331_3)).trans hw331_3), ((HB.out.cell (World.block_lt_of_cell? w _ hw332_0)).trans hw332_0), ((HB.out.cell (World.block_lt_of_cell? w _ hw332_1)).trans hw332_1), ((HB.out.cell (World.block_lt_of_cell? w _ hw332_2)).trans hw332_2), ((HB.out.cell (World.block_lt_of_cell? w _ hw332_3)).trans hw332_3)⟩ (fun hHeld => ?_); refine with_tabW valancelaw12_AnchorSeen.tab24 valancelaw12_AnchorSeen.bits24 (fun HT_ HW_ => ?_)
                                generalize wr.drew = w52 at BK319 HB hx331_0 hx331_1 hx331_2 hx331_3 hx332_0 hx332_1 hx332_2 hx332_3 hHeld ⊢
                                refine pure_ (i := 0) (N := some 98) (v := ?_) (a' := ?_) #[tt,ff,ff,ff,ff,ff,ff,ff,ff,ff,ff,ff,ff,ff,ff,ff,ff,ff,ff] rfl rfl (any_of HT_.out (by kernel_rfl)) (fun _ _ _ h => h) (Or.inl ⟨by rfl, ?_⟩) ?_ ?_
                                rotate_left
                                · intro w'
                                  go_simp
                                  with_reducible rfl
                                rotate_left
                                · simp only [Act.put, List.setIfInBounds_toArray, List.set_cons_zero, List.set_cons_succ, i64_w, i32_w]
                                  rfl
                                refine pure_ (i := 1) (N := some 99) (v := ?_) (a' := ?_) #[tt,tt,ff,ff,ff,ff,ff,ff,ff,ff,ff,ff,ff,ff,ff,ff,ff,ff,ff] rfl rfl (any_of HT_.out (by kernel_rfl)) (fun _ _ _ h => h) (Or.inl ⟨by rfl, ?_⟩) ?_ ?_
                                rotate_left
                                · intro w'
                                  go_simp
                                  with_reducible rfl
                                rotate_left
                                · simp only [Act.put, List.setIfInBounds_toArray, List.set_cons_zero, List.set_cons_succ, i64_w, i32_w]
                                  rfl
                                refine pure_ (i := 2) (N := some 100) (v := ?_) (a' := ?_) #[tt,tt,tt,ff,ff,ff,ff,ff,ff,ff,ff,ff,ff,ff,ff,ff,ff,ff,ff] rfl rfl (any_of HT_.out (by kernel_rfl)) (fun _ _ _ h => h) (Or.inl ⟨by rfl, ?_⟩) ?_ ?_
                                rotate_left
                                · intro w'
                                  go_simp
                                  with_reducible rfl
                                rotate_left
                                · simp only [Act.put, List.setIfInBounds_toArray, List.set_cons_zero, List.set_cons_succ, i64_w, i32_w]
                                  rfl
                                refine pure_ (i := 3) (N := some 101) (v := ?_) (a' := ?_) #[tt,tt,tt,tt,ff,ff,ff,ff,ff,ff,ff,ff,ff,ff,ff,ff,ff,ff,ff] rfl rfl (any_of HT_.out (by kernel_rfl)) (fun _ _ _ h => h) (Or.inl ⟨by rfl, ?_⟩) ?_ ?_
                                rotate_left
                                · intro w'
                                  go_simp
                                  with_reducible rfl
                                rotate_left
                                · simp only [Act.put, List.setIfInBounds_toArray, List.set_cons_zero, List.set_cons_succ, i64_w, i32_w]
                                  rfl
                                refine pure_ (i := 4) (N := some 102) (v := ?_) (a' := ?_) #[tt,tt,tt,tt,tt,ff,ff,ff,ff,ff,ff,ff,ff,ff,ff,ff,ff,ff,ff] rfl rfl (any_of HT_.out (by kernel_rfl)) (fun _ _ _ h => h) (Or.inl ⟨by rfl, ?_⟩) ?_ ?_
                                rotate_left
                                · intro w'
                                  go_simp
                                  with_reducible rfl
                                rotate_left
                                · simp only [Act.put, List.setIfInBounds_toArray, List.set_cons_zero, List.set_cons_succ, i64_w, i32_w]
                                  rfl
                                refine pure_ (i := 5) (N := some 103) (v := ?_) (a' := ?_) #[tt,tt,tt,tt,tt,tt,ff,ff,ff,ff,ff,ff,ff,ff,ff,ff,ff,ff,ff] rfl rfl (any_of HT_.out (by kernel_rfl)) (fun _ _ _ h => h) (Or.inl ⟨by rfl, ?_⟩) ?_ ?_
                                rotate_left
                                · intro w'
                                  go_simp
                                  with_reducible rfl
                                rotate_left
                                · simp only [Act.put, List.setIfInBounds_toArray, List.set_cons_zero, List.set_cons_succ, i64_w, i32_w]
                                  rfl
                                refine pure_ (i := 6) (N := some 104) (v := ?_) (a' := ?_) #[tt,tt,tt,tt,tt,tt,tt,ff,ff,ff,ff,ff,ff,ff,ff,ff,ff,ff,ff] rfl rfl (any_of HT_.out (by kernel_rfl)) (fun _ _ _ h => h) (Or.inl ⟨by rfl, ?_⟩) ?_ ?_
                                rotate_left
                                · intro w'
                                  go_simp
                                  with_reducible rfl
                                rotate_left
                                · simp only [Act.put, List.setIfInBounds_toArray, List.set_cons_zero, List.set_cons_succ, i64_w, i32_w]
                                  rfl
                                refine take_ (i := 7) (N := some 105) (v := ?_) (a' := ?_) #[tt,tt,tt,tt,tt,tt,tt,tt,ff,ff,ff,ff,ff,ff,ff,ff,ff,ff,ff] rfl rfl (take_ofW HT_.out HW_.out (by kernel_rfl)) (fun _ _ _ h => h) (Or.inl ⟨by rfl, ?_⟩) hHeld ?_ ?_
                                rotate_left
                                · rintro w' ⟨s0, s1, s2, s3, s4, s5, s6, s7, s8, s9⟩
                                  go_simp
                                  with_reducible rfl
                                rotate_left
                                · simp only [Act.put, List.setIfInBounds_toArray, List.set_cons_zero, List.set_cons_succ, i64_w, i32_w]
                                  rfl
                                refine pure_ (i := 8) (N := some 106) (v := ?_) (a' := ?_) #[tt,tt,tt,tt,tt,tt,tt,tt,tt,ff,ff,ff,ff,ff,ff,ff,ff,ff,ff] rfl rfl (any_of HT_.out (by kernel_rfl)) (fun _ _ _ h => h) (Or.inl ⟨by rfl, ?_⟩) ?_ ?_
                                rotate_left
                                · intro w'
                                  go_simp
                                  with_reducible rfl
                                rotate_left
                                · simp only [Act.put, List.setIfInBounds_toArray, List.set_cons_zero, List.set_cons_succ, i64_w, i32_w]
                                  rfl
                                refine pure_ (i := 9) (N := some 107) (v := ?_) (a' := ?_) #[tt,tt,tt,tt,tt,tt,tt,tt,tt,tt,ff,ff,ff,ff,ff,ff,ff,ff,ff] rfl rfl (any_of HT_.out (by kernel_rfl)) (fun _ _ _ h => h) (Or.inl ⟨by rfl, ?_⟩) ?_ ?_
                                rotate_left
                                · intro w'
                                  go_simp
                                  with_reducible rfl
                                rotate_left
                                · simp only [Act.put, List.setIfInBounds_toArray, List.set_cons_zero, List.set_cons_succ, i64_w, i32_w]
                                  rfl
                                refine pure_ (i := 10) (N := some 108) (v := ?_) (a' := ?_) #[tt,tt,tt,tt,tt,tt,tt,tt,tt,tt,tt,ff,ff,ff,ff,ff,ff,ff,ff] rfl rfl (any_of HT_.out (by kernel_rfl)) (fun _ _ _ h => h) (Or.inl ⟨by rfl, ?_⟩) ?_ ?_
                                rotate_left
                                · intro w'
                                  go_simp
                                  with_reducible rfl
                                rotate_left
                                · simp only [Act.put, List.setIfInBounds_toArray, List.set_cons_zero, List.set_cons_succ, i64_w, i32_w]
                                  rfl
                                refine pure_ (i := 11) (N := some 109) (v := ?_) (a' := ?_) #[tt,tt,tt,tt,tt,tt,tt,tt,tt,tt,tt,tt,ff,ff,ff,ff,ff,ff,ff] rfl rfl (any_of HT_.out (by kernel_rfl)) (fun _ _ _ h => h) (Or.inl ⟨by rfl, ?_⟩) ?_ ?_
                                rotate_left
                                · intro w'
                                  go_simp
                                  with_reducible rfl
                                rotate_left
                                · simp only [Act.put, List.setIfInBounds_toArray, List.set_cons_zero, List.set_cons_succ, i64_w, i32_w]
                                  rfl
                                refine pure_ (i := 12) (N := some 110) (v := ?_) (a' := ?_) #[tt,tt,tt,tt,tt,tt,tt,tt,tt,tt,tt,tt,tt,ff,ff,ff,ff,ff,ff] rfl rfl (any_of HT_.out (by kernel_rfl)) (fun _ _ _ h => h) (Or.inl ⟨by rfl, ?_⟩) ?_ ?_
                                rotate_left
                                · intro w'
                                  go_simp
                                  with_reducible rfl
                                rotate_left
                                · simp only [Act.put, List.setIfInBounds_toArray, List.set_cons_zero, List.set_cons_succ, i64_w, i32_w]
                                  rfl
                                refine take_ (i := 13) (N := some 111) (v := ?_) (a' := ?_) #[tt,tt,tt,tt,tt,tt,tt,tt,tt,tt,tt,tt,tt,tt,ff,ff,ff,ff,ff] rfl rfl (take_ofW HT_.out HW_.out (by kernel_rfl)) (fun _ _ _ h => h) (Or.inl ⟨by rfl, ?_⟩) hHeld ?_ ?_
                                rotate_left
                                · rintro w' ⟨s0, s1, s2, s3, s4, s5, s6, s7, s8, s9⟩
                                  go_simp
                                  with_reducible rfl
                                rotate_left
                                · simp only [Act.put, List.setIfInBounds_toArray, List.set_cons_zero, List.set_cons_succ, i64_w, i32_w]
                                  rfl
                                refine take_ (i := 14) (N := some 112) (v := ?_) (a' := ?_) #[tt,tt,tt,tt,tt,tt,tt,tt,tt,tt,tt,tt,tt,tt,tt,ff,ff,ff,ff] rfl rfl (take_ofW HT_.out HW_.out (by kernel_rfl)) (fun _ _ _ h => h) (Or.inl ⟨by rfl, ?_⟩) hHeld ?_ ?_
                                rotate_left
                                · rintro w' ⟨s0, s1, s2, s3, s4, s5, s6, s7, s8, s9⟩
                                  go_simp
                                  with_reducible rfl
                                rotate_left
                                · simp only [Act.put, List.setIfInBounds_toArray, List.set_cons_zero, List.set_cons_succ, i64_w, i32_w]
                                  rfl
                                refine one_ (i := 15) (N := some 113) #[tt,tt,tt,tt,tt,tt,tt,tt,tt,tt,tt,tt,tt,tt,tt,tt,ff,ff,ff] rfl rfl (one_of HT_.out (by kernel_rfl)) (by decide) (fun K hK => ?_)
                                refine goes_ Try.func28 (by kernel_rfl) rfl #[.agg #[.int .i64 ((rd_T56 l0 ((rd_T56 l0 x8_3).f0)).f1.f0), .int .i64 ((rd_T56 l0 ((rd_T56 l0 x8_3).f0)).f1.f1)], .agg #[.int .i64 a1_0, .int .i64 a1_1]] (by rfl) rfl rfl (by (try simp only [List.map_toArray, List.map_cons, List.map_nil]); first | done | rfl | (simp only [List.length_drop, List.length_take]; rfl)) ?_
                                with_reducible refine (anchor_Sight.calls ((rd_T56 l0 ((rd_T56 l0 x8_3).f0)).f1.f0) ((rd_T56 l0 ((rd_T56 l0 x8_3).f0)).f1.f1) a1_0 a1_1 t333 _ A51.out).mono ?_
                                rintro e w53 ⟨rfl, hb⟩
                                refine ⟨_, rfl, ?_⟩
                                have n0_ := Aside0.mk (blk_below (g := gb319) (o := .cells #[.int .i64 a1_0, .int .i64 a1_1] 23 (0, 0)) BK319.out hb)
                                have n1_ := Aside0.mk (below_step (by repeat (first | (with_reducible first | exact HB.out | apply below_alloc | apply pw_below_drewN | apply below_drew1 | refine below_set ?_ GE319.out) | exact HB.out)) hb)
                                clear BK319
                                clear HB
                                have BK319 := n0_
                                have HB := n1_
                                clear n0_ n1_
                                (try clear hb)
                                (try clear hb2)
                                (try clear hk)
                                (try clear hi)
                                refine hK.out _ _ ⟨(blk_cell BK319.out 0).trans rfl, (blk_cell BK319.out 1).trans rfl, ((HB.out.cell (World.block_lt_of_cell? w _ hw331_0)).trans hw331_0), ((HB.out.cell (World.block_lt_of_cell? w _ hw331_1)).trans hw331_1), ((HB.out.cell (World.block_lt_of_cell? w _ hw331_2)).trans hw331_2), ((HB.out.cell (World.block_lt_of_cell? w _ hw331_3)).trans hw331_3), ((HB.out.cell (World.block_lt_of_cell? w _ hw332_0)).trans hw332_0), ((HB.out.cell (World.block_lt_of_cell? w _ hw332_1)).trans hw332_1), ((HB.out.cell (World.block_lt_of_cell? w _ hw332_2)).trans hw332_2), ((HB.out.cell (World.block_lt_of_cell? w _ hw332_3)).trans hw332_3)⟩ (fun hHeld => ?_)
                                clear hK K
                                refine norm_ (a' := ?_) ?_ ?_
                                rotate_left
                                · show Act.put _ (some 113) _ = _
                                  simp only [Act.put, List.setIfInBounds_toArray, List.set_cons_zero, List.set_cons_succ, i64_w, i32_w]
                                  rfl
                                refine pure_ (i := 16) (N := some 114) (v := ?_) (a' := ?_) #[tt,tt,tt,tt,tt,tt,tt,tt,tt,tt,tt,tt,tt,tt,tt,tt,tt,ff,ff] rfl rfl (any_of HT_.out (by kernel_rfl)) (fun _ _ _ h => h) (Or.inl ⟨by rfl, ?_⟩) ?_ ?_
                                rotate_left
                                · intro w'
                                  go_simp
                                  with_reducible rfl
                                rotate_left
                                · simp only [Act.put, List.setIfInBounds_toArray, List.set_cons_zero, List.set_cons_succ, i64_w, i32_w]
                                  rfl
                                refine pure_ (i := 17) (N := some 115) (v := ?_) (a' := ?_) #[tt,tt,tt,tt,tt,tt,tt,tt,tt,tt,tt,tt,tt,tt,tt,tt,tt,tt,ff] rfl rfl (any_of HT_.out (by kernel_rfl)) (fun _ _ _ h => h) (Or.inl ⟨by rfl, ?_⟩) ?_ ?_
                                rotate_left
                                · intro w'
                                  go_simp
                                  with_reducible rfl
                                rotate_left
                                · simp only [Act.put, List.setIfInBounds_toArray, List.set_cons_zero, List.set_cons_succ, i64_w, i32_w]
                                  rfl
                                refine pure_ (i := 18) (N := some 116) (v := ?_) (a' := ?_) #[tt,tt,tt,tt,tt,tt,tt,tt,tt,tt,tt,tt,tt,tt,tt,tt,tt,tt,tt] rfl rfl (any_of HT_.out (by kernel_rfl)) (fun _ _ _ h => h) (Or.inl ⟨by rfl, ?_⟩) ?_ ?_
                                rotate_left
                                · intro w'
                                  go_simp
                                  with_reducible rfl
                                rotate_left
                                · simp only [Act.put, List.setIfInBounds_toArray, List.set_cons_zero, List.set_cons_succ, i64_w, i32_w]
                                  rfl
                                refine done_ (done_of HT_.out (by kernel_rfl)) ?_
                                try go_wp2
                                go_meet
                                case rel => exact ⟨_, ((t333 != 1)), (by first | rfl | (simp; done) | (simp [*]; done)), H', ⟨by have := HJ10.out; have := HJ30.out; have := HK3.out; first | omega | exact Nat.le_refl _⟩, ⟨by (with_reducible repeat (first | refine blk_drewN ?_ _ | refine blk_drew ?_ | refine blk_alloc ?_ _)); exact BK319.out⟩, ⟨by repeat (first | (with_reducible first | exact HB.out | apply below_alloc | apply pw_below_drewN | apply below_drew1 | refine below_set ?_ GE319.out) | exact HB.out)⟩⟩
                            · rw [if_neg c45] at H
                              have c45b0 : decide (0 ≤ ((rd_T56 l0 x8_3).f0)) = false := decide_eq_false c45
                              clear c45
                              (first | rw [c45b0] | (simp only [i64_w, i32_w]; rw [c45b0]) | skip)
                              have H' := Aside0.mk H
                              clear H
                              try go_wp2
                              have n0_ := Aside0.mk (blk_drew BK319.out)
                              have n1_ := Aside0.mk (below_drew1 HB.out)
                              clear BK319
                              clear HB
                              have BK319 := n0_
                              have HB := n1_
                              clear n0_ n1_
                              refine start_ (n := 19) (S := fun w' => True) (ds := []) #[ff,ff,ff,ff,ff,ff,ff,ff,ff,ff,ff,ff,ff,ff,ff,ff,ff,ff,ff] (by kernel_rfl) rfl rfl trivial (fun hHeld => ?_); refine with_tabW valancelaw12_AnchorSeen.tab24 valancelaw12_AnchorSeen.bits24 (fun HT_ HW_ => ?_)
                              generalize wr.drew = w54 at BK319 HB hHeld ⊢
                              refine pure_ (i := 0) (N := some 98) (v := ?_) (a' := ?_) #[tt,ff,ff,ff,ff,ff,ff,ff,ff,ff,ff,ff,ff,ff,ff,ff,ff,ff,ff] rfl rfl (any_of HT_.out (by kernel_rfl)) (fun _ _ _ h => h) (Or.inl ⟨by rfl, ?_⟩) ?_ ?_
                              rotate_left
                              · intro w'
                                go_simp
                                with_reducible rfl
                              rotate_left
                              · simp only [Act.put, List.setIfInBounds_toArray, List.set_cons_zero, List.set_cons_succ, i64_w, i32_w]
                                rfl
                              refine pure_ (i := 1) (N := some 99) (v := ?_) (a' := ?_) #[tt,tt,ff,ff,ff,ff,ff,ff,ff,ff,ff,ff,ff,ff,ff,ff,ff,ff,ff] rfl rfl (any_of HT_.out (by kernel_rfl)) (fun _ _ _ h => h) (Or.inl ⟨by rfl, ?_⟩) ?_ ?_
                              rotate_left
                              · intro w'
                                go_simp
                                with_reducible rfl
                              rotate_left
                              · simp only [Act.put, List.setIfInBounds_toArray, List.set_cons_zero, List.set_cons_succ, i64_w, i32_w]
                                rfl
                              refine pure_ (i := 2) (N := some 100) (v := ?_) (a' := ?_) #[tt,tt,tt,ff,ff,ff,ff,ff,ff,ff,ff,ff,ff,ff,ff,ff,ff,ff,ff] rfl rfl (any_of HT_.out (by kernel_rfl)) (fun _ _ _ h => h) (Or.inl ⟨by rfl, ?_⟩) ?_ ?_
                              rotate_left
                              · intro w'
                                go_simp
                                with_reducible rfl
                              rotate_left
                              · simp only [Act.put, List.setIfInBounds_toArray, List.set_cons_zero, List.set_cons_succ, i64_w, i32_w]
                                rfl
                              refine pure_ (i := 3) (N := some 101) (v := undef) (a' := ?_) #[tt,tt,tt,tt,ff,ff,ff,ff,ff,ff,ff,ff,ff,ff,ff,ff,ff,ff,ff] rfl rfl (any_of HT_.out (by kernel_rfl)) (fun _ _ _ h => h) (Or.inr ⟨by rfl, rfl⟩) ?_ ?_
                              rotate_left
                              · simp only [Act.put, List.setIfInBounds_toArray, List.set_cons_zero, List.set_cons_succ, i64_w, i32_w]
                                rfl
                              refine pure_ (i := 4) (N := some 102) (v := undef) (a' := ?_) #[tt,tt,tt,tt,tt,ff,ff,ff,ff,ff,ff,ff,ff,ff,ff,ff,ff,ff,ff] rfl rfl (any_of HT_.out (by kernel_rfl)) (fun _ _ _ h => h) (Or.inr ⟨by rfl, rfl⟩) ?_ ?_
                              rotate_left
                              · simp only [Act.put, List.setIfInBounds_toArray, List.set_cons_zero, List.set_cons_succ, i64_w, i32_w]
                                rfl
                              refine pure_ (i := 5) (N := some 103) (v := undef) (a' := ?_) #[tt,tt,tt,tt,tt,tt,ff,ff,ff,ff,ff,ff,ff,ff,ff,ff,ff,ff,ff] rfl rfl (any_of HT_.out (by kernel_rfl)) (fun _ _ _ h => h) (Or.inr ⟨by rfl, rfl⟩) ?_ ?_
                              rotate_left
                              · simp only [Act.put, List.setIfInBounds_toArray, List.set_cons_zero, List.set_cons_succ, i64_w, i32_w]
                                rfl
                              refine pure_ (i := 6) (N := some 104) (v := undef) (a' := ?_) #[tt,tt,tt,tt,tt,tt,tt,ff,ff,ff,ff,ff,ff,ff,ff,ff,ff,ff,ff] rfl rfl (any_of HT_.out (by kernel_rfl)) (fun _ _ _ h => h) (Or.inr ⟨by rfl, rfl⟩) ?_ ?_
                              rotate_left
                              · simp only [Act.put, List.setIfInBounds_toArray, List.set_cons_zero, List.set_cons_succ, i64_w, i32_w]
                                rfl
                              refine pure_ (i := 7) (N := some 105) (v := undef) (a' := ?_) #[tt,tt,tt,tt,tt,tt,tt,tt,ff,ff,ff,ff,ff,ff,ff,ff,ff,ff,ff] rfl rfl (any_of HT_.out (by kernel_rfl)) (fun _ _ _ h => h) (Or.inr ⟨by rfl, rfl⟩) ?_ ?_
                              rotate_left
                              · simp only [Act.put, List.setIfInBounds_toArray, List.set_cons_zero, List.set_cons_succ, i64_w, i32_w]
                                rfl
                              refine pure_ (i := 8) (N := some 106) (v := undef) (a' := ?_) #[tt,tt,tt,tt,tt,tt,tt,tt,tt,ff,ff,ff,ff,ff,ff,ff,ff,ff,ff] rfl rfl (any_of HT_.out (by kernel_rfl)) (fun _ _ _ h => h) (Or.inr ⟨by rfl, rfl⟩) ?_ ?_
                              rotate_left
                              · simp only [Act.put, List.setIfInBounds_toArray, List.set_cons_zero, List.set_cons_succ, i64_w, i32_w]
                                rfl
                              refine pure_ (i := 9) (N := some 107) (v := undef) (a' := ?_) #[tt,tt,tt,tt,tt,tt,tt,tt,tt,tt,ff,ff,ff,ff,ff,ff,ff,ff,ff] rfl rfl (any_of HT_.out (by kernel_rfl)) (fun _ _ _ h => h) (Or.inr ⟨by rfl, rfl⟩) ?_ ?_
                              rotate_left
                              · simp only [Act.put, List.setIfInBounds_toArray, List.set_cons_zero, List.set_cons_succ, i64_w, i32_w]
                                rfl
                              refine pure_ (i := 10) (N := some 108) (v := undef) (a' := ?_) #[tt,tt,tt,tt,tt,tt,tt,tt,tt,tt,tt,ff,ff,ff,ff,ff,ff,ff,ff] rfl rfl (any_of HT_.out (by kernel_rfl)) (fun _ _ _ h => h) (Or.inr ⟨by rfl, rfl⟩) ?_ ?_
                              rotate_left
                              · simp only [Act.put, List.setIfInBounds_toArray, List.set_cons_zero, List.set_cons_succ, i64_w, i32_w]
                                rfl
                              refine pure_ (i := 11) (N := some 109) (v := undef) (a' := ?_) #[tt,tt,tt,tt,tt,tt,tt,tt,tt,tt,tt,tt,ff,ff,ff,ff,ff,ff,ff] rfl rfl (any_of HT_.out (by kernel_rfl)) (fun _ _ _ h => h) (Or.inr ⟨by rfl, rfl⟩) ?_ ?_
                              rotate_left
                              · simp only [Act.put, List.setIfInBounds_toArray, List.set_cons_zero, List.set_cons_succ, i64_w, i32_w]
                                rfl
                              refine pure_ (i := 12) (N := some 110) (v := undef) (a' := ?_) #[tt,tt,tt,tt,tt,tt,tt,tt,tt,tt,tt,tt,tt,ff,ff,ff,ff,ff,ff] rfl rfl (any_of HT_.out (by kernel_rfl)) (fun _ _ _ h => h) (Or.inr ⟨by rfl, rfl⟩) ?_ ?_
                              rotate_left
                              · simp only [Act.put, List.setIfInBounds_toArray, List.set_cons_zero, List.set_cons_succ, i64_w, i32_w]
                                rfl
                              refine pure_ (i := 13) (N := some 111) (v := undef) (a' := ?_) #[tt,tt,tt,tt,tt,tt,tt,tt,tt,tt,tt,tt,tt,tt,ff,ff,ff,ff,ff] rfl rfl (any_of HT_.out (by kernel_rfl)) (fun _ _ _ h => h) (Or.inr ⟨by rfl, rfl⟩) ?_ ?_
                              rotate_left
                              · simp only [Act.put, List.setIfInBounds_toArray, List.set_cons_zero, List.set_cons_succ, i64_w, i32_w]
                                rfl
                              refine pure_ (i := 14) (N := some 112) (v := undef) (a' := ?_) #[tt,tt,tt,tt,tt,tt,tt,tt,tt,tt,tt,tt,tt,tt,tt,ff,ff,ff,ff] rfl rfl (any_of HT_.out (by kernel_rfl)) (fun _ _ _ h => h) (Or.inr ⟨by rfl, rfl⟩) ?_ ?_
                              rotate_left
                              · simp only [Act.put, List.setIfInBounds_toArray, List.set_cons_zero, List.set_cons_succ, i64_w, i32_w]
                                rfl
                              refine pure_ (i := 15) (N := some 113) (v := undef) (a' := ?_) #[tt,tt,tt,tt,tt,tt,tt,tt,tt,tt,tt,tt,tt,tt,tt,tt,ff,ff,ff] rfl rfl (any_of HT_.out (by kernel_rfl)) (fun _ _ _ h => h) (Or.inr ⟨by rfl, rfl⟩) ?_ ?_
                              rotate_left
                              · simp only [Act.put, List.setIfInBounds_toArray, List.set_cons_zero, List.set_cons_succ, i64_w, i32_w]
                                rfl
                              refine pure_ (i := 16) (N := some 114) (v := undef) (a' := ?_) #[tt,tt,tt,tt,tt,tt,tt,tt,tt,tt,tt,tt,tt,tt,tt,tt,tt,ff,ff] rfl rfl (any_of HT_.out (by kernel_rfl)) (fun _ _ _ h => h) (Or.inr ⟨by rfl, rfl⟩) ?_ ?_
                              rotate_left
                              · simp only [Act.put, List.setIfInBounds_toArray, List.set_cons_zero, List.set_cons_succ, i64_w, i32_w]
                                rfl
                              refine pure_ (i := 17) (N := some 115) (v := undef) (a' := ?_) #[tt,tt,tt,tt,tt,tt,tt,tt,tt,tt,tt,tt,tt,tt,tt,tt,tt,tt,ff] rfl rfl (any_of HT_.out (by kernel_rfl)) (fun _ _ _ h => h) (Or.inr ⟨by rfl, rfl⟩) ?_ ?_
                              rotate_left
                              · simp only [Act.put, List.setIfInBounds_toArray, List.set_cons_zero, List.set_cons_succ, i64_w, i32_w]
                                rfl
                              refine pure_ (i := 18) (N := some 116) (v := ?_) (a' := ?_) #[tt,tt,tt,tt,tt,tt,tt,tt,tt,tt,tt,tt,tt,tt,tt,tt,tt,tt,tt] rfl rfl (any_of HT_.out (by kernel_rfl)) (fun _ _ _ h => h) (Or.inl ⟨by rfl, ?_⟩) ?_ ?_
                              rotate_left
                              · intro w'
                                go_simp
                                with_reducible rfl
                              rotate_left
                              · simp only [Act.put, List.setIfInBounds_toArray, List.set_cons_zero, List.set_cons_succ, i64_w, i32_w]
                                rfl
                              refine done_ (done_of HT_.out (by kernel_rfl)) ?_
                              try go_wp2
                              go_meet
                              case rel => exact ⟨_, (false), (by first | rfl | (simp; done) | (simp [*]; done)), H', ⟨by have := HJ10.out; have := HJ30.out; have := HK3.out; first | omega | exact Nat.le_refl _⟩, ⟨by (with_reducible repeat (first | refine blk_drewN ?_ _ | refine blk_drew ?_ | refine blk_alloc ?_ _)); exact BK319.out⟩, ⟨by repeat (first | (with_reducible first | exact HB.out | apply below_alloc | apply pw_below_drewN | apply below_drew1 | refine below_set ?_ GE319.out) | exact HB.out)⟩⟩
                          case rest =>
                            clear HC44
                            try clear c1
                            try clear c2
                            try clear p2
                            try clear c3
                            try clear p3
                            try clear q3
                            try clear hx3
                            try clear c4
                            try clear q4
                            try clear p6
                            try clear c19
                            try clear c19b0
                            try clear c19b1
                            try clear c20
                            try clear c20b0
                            try clear c21
                            try clear c22
                            try clear c22b0
                            try clear c22b1
                            try clear c28
                            try clear c32
                            try clear c32b0
                            try clear p32
                            try clear q32
                            try clear hx32
                            try clear c33
                            try clear c33b0
                            try clear p33
                            try clear q33
                            try clear hx33
                            try clear c35
                            try clear c35b0
                            try clear c35b1
                            try clear c40
                            try clear c41
                            try clear c41b0
                            try clear c42
                            try clear c42b0
                            try clear c43
                            try clear c43b0
                            try clear c45
                            try clear c45b0
                            try clear c46
                            try clear c46b0
                            try clear c47
                            try clear c47b0
                            try clear q48
                            try clear c49
                            try clear hx323_0
                            try clear hx323_1
                            try clear hx323_2
                            try clear hx323_3
                            try clear hx327_0
                            try clear hx327_1
                            try clear hx327_2
                            try clear hx327_3
                            try clear hx329_0
                            try clear hx329_1
                            try clear hx329_2
                            try clear hx329_3
                            try clear hx330_0
                            try clear hx330_1
                            try clear hx330_2
                            try clear hx330_3
                            try clear hx331_0
                            try clear hx331_1
                            try clear hx331_2
                            try clear hx331_3
                            try clear hx332_0
                            try clear hx332_1
                            try clear hx332_2
                            try clear hx332_3
                            try clear p2
                            try clear p3
                            try clear p32
                            try clear p323
                            try clear p327
                            try clear p329
                            try clear p330
                            try clear p331
                            try clear p332
                            try clear p6
                            try clear q3
                            try clear q32
                            try clear q323
                            try clear q327
                            try clear q329
                            try clear q330
                            try clear q331
                            try clear q332
                            obtain ⟨kq, x116_43, rfl, HA, HJ43, BK319, HB⟩ := hcut
                            cases kq with
                            | zero => exact absurd HA.out (by simp [valancelaw12_AnchorSeen.j4])
                            | succ kj43 =>
                              have H := HA.out
                              clear HA
                              simp only [valancelaw12_AnchorSeen.j4] at H
                              by_cases c55 : x116_43 = true
                              · subst c55
                                have H1 : (none) = some r := by rw [if_pos rfl] at H; exact H
                                clear H
                                have H := H1
                                clear H1
                                exact absurd H (by simp)
                              · replace c55 := Bool.eq_false_iff.mpr c55
                                subst c55
                                have H1 : (valancelaw12_AnchorSeen.l2 kj43 l0 true x8_3 ((rd_T56 l0 x8_3).f0) 0 a1_0 a1_1) = some r := by rw [if_neg (show ¬ (false = true) by decide)] at H; exact H
                                clear H
                                have H := H1
                                clear H1
                                have H' := Aside0.mk H
                                clear H
                                go_wp2
                                go_loopg [10] kj43 (fun kq v10 w' => ∃ (x10_5 : Int), v10 = .int .i64 x10_5 ∧ Aside0 (valancelaw12_AnchorSeen.l2 kq l0 true x8_3 ((rd_T56 l0 x8_3).f0) x10_5 a1_0 a1_1 = some r) ∧ Aside0 (kq ≤ kj43) ∧ Aside0 (w'.heap[gb319]? = some (.cells #[.int .i64 a1_0, .int .i64 a1_1] 23 (0, 0))) ∧ Aside0 (Below w.heap.size w w'))
                                case atStart => exact ⟨(0), (by first | rfl | (simp; done) | (simp [*]; done)), H', ⟨Nat.le_refl _⟩, ⟨by (with_reducible repeat (first | refine blk_drewN ?_ _ | refine blk_drew ?_ | refine blk_alloc ?_ _)); exact BK319.out⟩, ⟨by repeat (first | (with_reducible first | exact HB.out | apply below_alloc | apply pw_below_drewN | apply below_drew1 | refine below_set ?_ GE319.out) | exact HB.out)⟩⟩
                                case round =>
                                  clear H'
                                  try clear c1
                                  try clear c2
                                  try clear p2
                                  try clear c3
                                  try clear p3
                                  try clear q3
                                  try clear hx3
                                  try clear c4
                                  try clear q4
                                  try clear c5
                                  try clear p6
                                  try clear c19
                                  try clear c19b0
                                  try clear c19b1
                                  try clear c20
                                  try clear c20b0
                                  try clear c21
                                  try clear c22
                                  try clear c22b0
                                  try clear c22b1
                                  try clear c28
                                  try clear c32
                                  try clear c32b0
                                  try clear p32
                                  try clear q32
                                  try clear hx32
                                  try clear c33
                                  try clear c33b0
                                  try clear p33
                                  try clear q33
                                  try clear hx33
                                  try clear c35
                                  try clear c35b0
                                  try clear c35b1
                                  try clear c40
                                  try clear c41
                                  try clear c41b0
                                  try clear c42
                                  try clear c42b0
                                  try clear c43
                                  try clear c43b0
                                  try clear c45
                                  try clear c45b0
                                  try clear c46
                                  try clear c46b0
                                  try clear c47
                                  try clear c47b0
                                  try clear q48
                                  try clear c49
                                  try clear c55
                                  try clear hx323_0
                                  try clear hx323_1
                                  try clear hx323_2
                                  try clear hx323_3
                                  try clear hx327_0
                                  try clear hx327_1
                                  try clear hx327_2
                                  try clear hx327_3
                                  try clear hx329_0
                                  try clear hx329_1
                                  try clear hx329_2
                                  try clear hx329_3
                                  try clear hx330_0
                                  try clear hx330_1
                                  try clear hx330_2
                                  try clear hx330_3
                                  try clear hx331_0
                                  try clear hx331_1
                                  try clear hx331_2
                                  try clear hx331_3
                                  try clear hx332_0
                                  try clear hx332_1
                                  try clear hx332_2
                                  try clear hx332_3
                                  try clear p2
                                  try clear p3
                                  try clear p32
                                  try clear p323
                                  try clear p327
                                  try clear p329
                                  try clear p33
                                  try clear p330
                                  try clear p331
                                  try clear p332
                                  try clear p6
                                  try clear q3
                                  try clear q32
                                  try clear q323
                                  try clear q327
                                  try clear q329
                                  try clear q33
                                  try clear q330
                                  try clear q331
                                  try clear q332
                                  try clear q4
                                  try clear q48
                                  obtain ⟨x10_5, rfl, HA, HK5, BK319, HB⟩ := hrel
                                  cases gk with
                                  | zero => exact absurd HA.out (by simp [valancelaw12_AnchorSeen.l2])
                                  | succ k5 =>
                                    have H := HA.out
                                    clear HA
                                    simp only [valancelaw12_AnchorSeen.l2] at H
                                    by_cases c56 : x10_5 < x8_3
                                    · rw [if_pos c56] at H
                                      have c56b0 : decide (x10_5 < x8_3) = true := decide_eq_true c56
                                      clear c56
                                      by_cases c57 : 0 ≤ x10_5
                                      case neg =>
                                        rw [if_neg c57] at H
                                        exact absurd H (by simp)
                                      rw [if_pos c57] at H
                                      have c57b0 : decide (0 ≤ x10_5) = true := decide_eq_true c57
                                      clear c57
                                      by_cases c58 : x10_5 < (l0.length : Int)
                                      case neg =>
                                        rw [if_neg c58] at H
                                        exact absurd H (by simp)
                                      rw [if_pos c58] at H
                                      have c58b0 : decide (x10_5 < (l0.length : Int)) = true := decide_eq_true c58
                                      clear c58
                                      by_cases c59 : ((rd_T56 l0 x10_5).f0) = ((rd_T56 l0 x8_3).f0)
                                      · rw [if_pos c59] at H
                                        have c59b0 : (((rd_T56 l0 x10_5).f0) == ((rd_T56 l0 x8_3).f0)) = true := beq_iff_eq.mpr c59
                                        have c59b1 : (((rd_T56 l0 x10_5).f0) != ((rd_T56 l0 x8_3).f0)) = false := bne_eq_false_iff_eq.mpr c59
                                        clear c59
                                        obtain ⟨bq60, hbq60⟩ : ∃ b_ : Bool, b_ = ((rd_T56 l0 x10_5).f2) := ⟨_, rfl⟩
                                        replace H : (if (bq60 = true) then (valancelaw12_AnchorSeen.l2 k5 l0 true x8_3 ((rd_T56 l0 x8_3).f0) (wrap64 (x10_5 + 1)) a1_0 a1_1) else ((anchor_Sight.f ((rd_T56 l0 x10_5).f1.f0) ((rd_T56 l0 x10_5).f1.f1) a1_0 a1_1).bind fun t337 => (if t337 > 0 then (none) else (valancelaw12_AnchorSeen.l2 k5 l0 true x8_3 ((rd_T56 l0 x8_3).f0) (wrap64 (x10_5 + 1)) a1_0 a1_1)))) = some r := by rw [← hbq60] at H; exact H
                                        have Nbq60 := Aside0.mk hbq60
                                        clear hbq60
                                        by_cases c61 : (bq60 = true)
                                        · subst c61
                                          have H1 : (valancelaw12_AnchorSeen.l2 k5 l0 true x8_3 ((rd_T56 l0 x8_3).f0) (wrap64 (x10_5 + 1)) a1_0 a1_1) = some r := by rw [if_pos rfl] at H; exact H
                                          clear H
                                          have H := H1
                                          clear H1
                                          have H' := Aside0.mk H
                                          clear H
                                          try go_wp2
                                          have n0_ := Aside0.mk (blk_drew BK319.out)
                                          have n1_ := Aside0.mk (below_drew1 HB.out)
                                          clear BK319
                                          clear HB
                                          have BK319 := n0_
                                          have HB := n1_
                                          clear n0_ n1_
                                          have p334 : 0 ≤ (x10_5 : Int) := of_decide_eq_true (by first | (with_reducible assumption) | assumption)
                                          have q334 : x10_5 < (l0.length : Int) := of_decide_eq_true (by first | (with_reducible assumption) | assumption)
                                          obtain ⟨ad334, e334, hx334_0, hx334_1, hx334_2, hx334_3⟩ := at_T56 HR0.out x10_5 p334 q334
                                          have hw334_3 := hx334_3
                                          have hw334_2 := hx334_2
                                          have hw334_1 := hx334_1
                                          have hw334_0 := hx334_0
                                          (try rw [← Nbq60.out] at hx334_3)
                                          (try rw [← Nbq60.out] at hw334_3)
                                          obtain rfl : ad330 = ad334 := (by injection e334)
                                          replace hx334_0 := (HB.out.cell (World.block_lt_of_cell? w _ hx334_0)).trans hx334_0
                                          replace hx334_1 := (HB.out.cell (World.block_lt_of_cell? w _ hx334_1)).trans hx334_1
                                          replace hx334_2 := (HB.out.cell (World.block_lt_of_cell? w _ hx334_2)).trans hx334_2
                                          replace hx334_3 := (HB.out.cell (World.block_lt_of_cell? w _ hx334_3)).trans hx334_3
                                          replace p334 := eq_true p334
                                          replace q334 := eq_true q334
                                          have p335 : 0 ≤ (x10_5 : Int) := of_decide_eq_true (by first | (with_reducible assumption) | assumption)
                                          have q335 : x10_5 < (l0.length : Int) := of_decide_eq_true (by first | (with_reducible assumption) | assumption)
                                          obtain ⟨ad335, e335, hx335_0, hx335_1, hx335_2, hx335_3⟩ := at_T56 HR0.out x10_5 p335 q335
                                          have hw335_3 := hx335_3
                                          have hw335_2 := hx335_2
                                          have hw335_1 := hx335_1
                                          have hw335_0 := hx335_0
                                          (try rw [← Nbq60.out] at hx335_3)
                                          (try rw [← Nbq60.out] at hw335_3)
                                          obtain rfl : ad330 = ad335 := (by injection e335)
                                          replace hx335_0 := (HB.out.cell (World.block_lt_of_cell? w _ hx335_0)).trans hx335_0
                                          replace hx335_1 := (HB.out.cell (World.block_lt_of_cell? w _ hx335_1)).trans hx335_1
                                          replace hx335_2 := (HB.out.cell (World.block_lt_of_cell? w _ hx335_2)).trans hx335_2
                                          replace hx335_3 := (HB.out.cell (World.block_lt_of_cell? w _ hx335_3)).trans hx335_3
                                          replace p335 := eq_true p335
                                          replace q335 := eq_true q335
                                          refine start_ (n := 25) (S := fun w' => w'.cell? (ad330.add ((x10_5).toNat * 4)) = some (.int .i64 ((rd_T56 l0 x10_5).f0)) ∧ w'.cell? ⟨(ad330.add ((x10_5).toNat * 4)).block, (ad330.add ((x10_5).toNat * 4)).off + 1, none⟩ = some (.int .i64 ((rd_T56 l0 x10_5).f1.f0)) ∧ w'.cell? ⟨(ad330.add ((x10_5).toNat * 4)).block, (ad330.add ((x10_5).toNat * 4)).off + 2, none⟩ = some (.int .i64 ((rd_T56 l0 x10_5).f1.f1)) ∧ w'.cell? ⟨(ad330.add ((x10_5).toNat * 4)).block, (ad330.add ((x10_5).toNat * 4)).off + 3, none⟩ = some (.bool true) ∧ w'.cell? (ad330.add ((x10_5).toNat * 4)) = some (.int .i64 ((rd_T56 l0 x10_5).f0)) ∧ w'.cell? ⟨(ad330.add ((x10_5).toNat * 4)).block, (ad330.add ((x10_5).toNat * 4)).off + 1, none⟩ = some (.int .i64 ((rd_T56 l0 x10_5).f1.f0)) ∧ w'.cell? ⟨(ad330.add ((x10_5).toNat * 4)).block, (ad330.add ((x10_5).toNat * 4)).off + 2, none⟩ = some (.int .i64 ((rd_T56 l0 x10_5).f1.f1)) ∧ w'.cell? ⟨(ad330.add ((x10_5).toNat * 4)).block, (ad330.add ((x10_5).toNat * 4)).off + 3, none⟩ = some (.bool true)) (ds := []) #[ff,ff,ff,ff,ff,ff,ff,ff,ff,ff,ff,ff,ff,ff,ff,ff,ff,ff,ff,ff,ff,ff,ff,ff,ff] (by kernel_rfl) rfl rfl ⟨((HB.out.cell (World.block_lt_of_cell? w _ hw334_0)).trans hw334_0), ((HB.out.cell (World.block_lt_of_cell? w _ hw334_1)).trans hw334_1), ((HB.out.cell (World.block_lt_of_cell? w _ hw334_2)).trans hw334_2), ((HB.out.cell (World.block_lt_of_cell? w _ hw334_3)).trans hw334_3), ((HB.out.cell (World.block_lt_of_cell? w _ hw335_0)).trans hw335_0), ((HB.out.cell (World.block_lt_of_cell? w _ hw335_1)).trans hw335_1), ((HB.out.cell (World.block_lt_of_cell? w _ hw335_2)).trans hw335_2), ((HB.out.cell (World.block_lt_of_cell? w _ hw335_3)).trans hw335_3)⟩ (fun hHeld => ?_); refine with_tabW valancelaw12_AnchorSeen.tab29 valancelaw12_AnchorSeen.bits29 (fun HT_ HW_ => ?_)
                                          generalize wr.drew = w62 at BK319 HB hx334_0 hx334_1 hx334_2 hx334_3 hx335_0 hx335_1 hx335_2 hx335_3 hHeld ⊢
                                          refine pure_ (i := 0) (N := some 122) (v := ?_) (a' := ?_) #[tt,ff,ff,ff,ff,ff,ff,ff,ff,ff,ff,ff,ff,ff,ff,ff,ff,ff,ff,ff,ff,ff,ff,ff,ff] rfl rfl (any_of HT_.out (by kernel_rfl)) (fun _ _ _ h => h) (Or.inl ⟨by rfl, ?_⟩) ?_ ?_
                                          rotate_left
                                          · intro w'
                                            go_simp
                                            with_reducible rfl
                                          rotate_left
                                          · simp only [Act.put, List.setIfInBounds_toArray, List.set_cons_zero, List.set_cons_succ, i64_w, i32_w]
                                            rfl
                                          refine pure_ (i := 1) (N := some 123) (v := ?_) (a' := ?_) #[tt,tt,ff,ff,ff,ff,ff,ff,ff,ff,ff,ff,ff,ff,ff,ff,ff,ff,ff,ff,ff,ff,ff,ff,ff] rfl rfl (any_of HT_.out (by kernel_rfl)) (fun _ _ _ h => h) (Or.inl ⟨by rfl, ?_⟩) ?_ ?_
                                          rotate_left
                                          · intro w'
                                            go_simp
                                            with_reducible rfl
                                          rotate_left
                                          · simp only [Act.put, List.setIfInBounds_toArray, List.set_cons_zero, List.set_cons_succ, i64_w, i32_w]
                                            rfl
                                          refine pure_ (i := 2) (N := some 124) (v := ?_) (a' := ?_) #[tt,tt,tt,ff,ff,ff,ff,ff,ff,ff,ff,ff,ff,ff,ff,ff,ff,ff,ff,ff,ff,ff,ff,ff,ff] rfl rfl (any_of HT_.out (by kernel_rfl)) (fun _ _ _ h => h) (Or.inl ⟨by rfl, ?_⟩) ?_ ?_
                                          rotate_left
                                          · intro w'
                                            go_simp
                                            with_reducible rfl
                                          rotate_left
                                          · simp only [Act.put, List.setIfInBounds_toArray, List.set_cons_zero, List.set_cons_succ, i64_w, i32_w]
                                            rfl
                                          refine pure_ (i := 3) (N := some 125) (v := ?_) (a' := ?_) #[tt,tt,tt,tt,ff,ff,ff,ff,ff,ff,ff,ff,ff,ff,ff,ff,ff,ff,ff,ff,ff,ff,ff,ff,ff] rfl rfl (any_of HT_.out (by kernel_rfl)) (fun _ _ _ h => h) (Or.inl ⟨by rfl, ?_⟩) ?_ ?_
                                          rotate_left
                                          · intro w'
                                            go_simp
                                            with_reducible rfl
                                          rotate_left
                                          · simp only [Act.put, List.setIfInBounds_toArray, List.set_cons_zero, List.set_cons_succ, i64_w, i32_w]
                                            rfl
                                          refine pure_ (i := 5) (N := some 127) (v := ?_) (a' := ?_) #[tt,tt,tt,tt,ff,tt,ff,ff,ff,ff,ff,ff,ff,ff,ff,ff,ff,ff,ff,ff,ff,ff,ff,ff,ff] rfl rfl (any_of HT_.out (by kernel_rfl)) (fun _ _ _ h => h) (Or.inl ⟨by rfl, ?_⟩) ?_ ?_
                                          rotate_left
                                          · intro w'
                                            go_simp
                                            with_reducible rfl
                                          rotate_left
                                          · simp only [Act.put, List.setIfInBounds_toArray, List.set_cons_zero, List.set_cons_succ, i64_w, i32_w]
                                            rfl
                                          refine take_ (i := 4) (N := some 126) (v := ?_) (a' := ?_) #[tt,tt,tt,tt,tt,tt,ff,ff,ff,ff,ff,ff,ff,ff,ff,ff,ff,ff,ff,ff,ff,ff,ff,ff,ff] rfl rfl (take_ofW HT_.out HW_.out (by kernel_rfl)) (fun _ _ _ h => h) (Or.inl ⟨by rfl, ?_⟩) hHeld ?_ ?_
                                          rotate_left
                                          · rintro w' ⟨s0, s1, s2, s3, s4, s5, s6, s7⟩
                                            go_simp
                                            with_reducible rfl
                                          rotate_left
                                          · simp only [Act.put, List.setIfInBounds_toArray, List.set_cons_zero, List.set_cons_succ, i64_w, i32_w]
                                            rfl
                                          refine pure_ (i := 6) (N := some 128) (v := ?_) (a' := ?_) #[tt,tt,tt,tt,tt,tt,tt,ff,ff,ff,ff,ff,ff,ff,ff,ff,ff,ff,ff,ff,ff,ff,ff,ff,ff] rfl rfl (any_of HT_.out (by kernel_rfl)) (fun _ _ _ h => h) (Or.inl ⟨by rfl, ?_⟩) ?_ ?_
                                          rotate_left
                                          · intro w'
                                            go_simp
                                            with_reducible rfl
                                          rotate_left
                                          · simp only [Act.put, List.setIfInBounds_toArray, List.set_cons_zero, List.set_cons_succ, i64_w, i32_w]
                                            rfl
                                          refine pure_ (i := 7) (N := some 129) (v := ?_) (a' := ?_) #[tt,tt,tt,tt,tt,tt,tt,tt,ff,ff,ff,ff,ff,ff,ff,ff,ff,ff,ff,ff,ff,ff,ff,ff,ff] rfl rfl (any_of HT_.out (by kernel_rfl)) (fun _ _ _ h => h) (Or.inl ⟨by rfl, ?_⟩) ?_ ?_
                                          rotate_left
                                          · intro w'
                                            go_simp
                                            with_reducible rfl
                                          rotate_left
                                          · simp only [Act.put, List.setIfInBounds_toArray, List.set_cons_zero, List.set_cons_succ, i64_w, i32_w]
                                            rfl
                                          refine pure_ (i := 8) (N := some 130) (v := ?_) (a' := ?_) #[tt,tt,tt,tt,tt,tt,tt,tt,tt,ff,ff,ff,ff,ff,ff,ff,ff,ff,ff,ff,ff,ff,ff,ff,ff] rfl rfl (any_of HT_.out (by kernel_rfl)) (fun _ _ _ h => h) (Or.inl ⟨by rfl, ?_⟩) ?_ ?_
                                          rotate_left
                                          · intro w'
                                            go_simp
                                            with_reducible rfl
                                          rotate_left
                                          · simp only [Act.put, List.setIfInBounds_toArray, List.set_cons_zero, List.set_cons_succ, i64_w, i32_w]
                                            rfl
                                          refine pure_ (i := 9) (N := some 131) (v := ?_) (a' := ?_) #[tt,tt,tt,tt,tt,tt,tt,tt,tt,tt,ff,ff,ff,ff,ff,ff,ff,ff,ff,ff,ff,ff,ff,ff,ff] rfl rfl (any_of HT_.out (by kernel_rfl)) (fun _ _ _ h => h) (Or.inl ⟨by rfl, ?_⟩) ?_ ?_
                                          rotate_left
                                          · intro w'
                                            go_simp
                                            with_reducible rfl
                                          rotate_left
                                          · simp only [Act.put, List.setIfInBounds_toArray, List.set_cons_zero, List.set_cons_succ, i64_w, i32_w]
                                            rfl
                                          refine pure_ (i := 10) (N := some 132) (v := ?_) (a' := ?_) #[tt,tt,tt,tt,tt,tt,tt,tt,tt,tt,tt,ff,ff,ff,ff,ff,ff,ff,ff,ff,ff,ff,ff,ff,ff] rfl rfl (any_of HT_.out (by kernel_rfl)) (fun _ _ _ h => h) (Or.inl ⟨by rfl, ?_⟩) ?_ ?_
                                          rotate_left
                                          · intro w'
                                            go_simp
                                            with_reducible rfl
                                          rotate_left
                                          · simp only [Act.put, List.setIfInBounds_toArray, List.set_cons_zero, List.set_cons_succ, i64_w, i32_w]
                                            rfl
                                          refine pure_ (i := 11) (N := some 133) (v := ?_) (a' := ?_) #[tt,tt,tt,tt,tt,tt,tt,tt,tt,tt,tt,tt,ff,ff,ff,ff,ff,ff,ff,ff,ff,ff,ff,ff,ff] rfl rfl (any_of HT_.out (by kernel_rfl)) (fun _ _ _ h => h) (Or.inl ⟨by rfl, ?_⟩) ?_ ?_
                                          rotate_left
                                          · intro w'
                                            go_simp
                                            with_reducible rfl
                                          rotate_left
                                          · simp only [Act.put, List.setIfInBounds_toArray, List.set_cons_zero, List.set_cons_succ, i64_w, i32_w]
                                            rfl
                                          refine take_ (i := 12) (N := some 134) (v := ?_) (a' := ?_) #[tt,tt,tt,tt,tt,tt,tt,tt,tt,tt,tt,tt,tt,ff,ff,ff,ff,ff,ff,ff,ff,ff,ff,ff,ff] rfl rfl (take_ofW HT_.out HW_.out (by kernel_rfl)) (fun _ _ _ h => h) (Or.inl ⟨by rfl, ?_⟩) hHeld ?_ ?_
                                          rotate_left
                                          · rintro w' ⟨s0, s1, s2, s3, s4, s5, s6, s7⟩
                                            go_simp
                                            with_reducible rfl
                                          rotate_left
                                          · simp only [Act.put, List.setIfInBounds_toArray, List.set_cons_zero, List.set_cons_succ, i64_w, i32_w]
                                            rfl
                                          refine pure_ (i := 13) (N := some 135) (v := ?_) (a' := ?_) #[tt,tt,tt,tt,tt,tt,tt,tt,tt,tt,tt,tt,tt,tt,ff,ff,ff,ff,ff,ff,ff,ff,ff,ff,ff] rfl rfl (any_of HT_.out (by kernel_rfl)) (fun _ _ _ h => h) (Or.inl ⟨by rfl, ?_⟩) ?_ ?_
                                          rotate_left
                                          · intro w'
                                            go_simp
                                            with_reducible rfl
                                          rotate_left
                                          · simp only [Act.put, List.setIfInBounds_toArray, List.set_cons_zero, List.set_cons_succ, i64_w, i32_w]
                                            rfl
                                          refine pure_ (i := 14) (N := some 136) (v := ?_) (a' := ?_) #[tt,tt,tt,tt,tt,tt,tt,tt,tt,tt,tt,tt,tt,tt,tt,ff,ff,ff,ff,ff,ff,ff,ff,ff,ff] rfl rfl (any_of HT_.out (by kernel_rfl)) (fun _ _ _ h => h) (Or.inl ⟨by rfl, ?_⟩) ?_ ?_
                                          rotate_left
                                          · intro w'
                                            go_simp
                                            with_reducible rfl
                                          rotate_left
                                          · simp only [Act.put, List.setIfInBounds_toArray, List.set_cons_zero, List.set_cons_succ, i64_w, i32_w]
                                            rfl
                                          refine pure_ (i := 15) (N := some 137) (v := ?_) (a' := ?_) #[tt,tt,tt,tt,tt,tt,tt,tt,tt,tt,tt,tt,tt,tt,tt,tt,ff,ff,ff,ff,ff,ff,ff,ff,ff] rfl rfl (any_of HT_.out (by kernel_rfl)) (fun _ _ _ h => h) (Or.inl ⟨by rfl, ?_⟩) ?_ ?_
                                          rotate_left
                                          · intro w'
                                            go_simp
                                            with_reducible rfl
                                          rotate_left
                                          · simp only [Act.put, List.setIfInBounds_toArray, List.set_cons_zero, List.set_cons_succ, i64_w, i32_w]
                                            rfl
                                          refine pure_ (i := 16) (N := some 138) (v := undef) (a' := ?_) #[tt,tt,tt,tt,tt,tt,tt,tt,tt,tt,tt,tt,tt,tt,tt,tt,tt,ff,ff,ff,ff,ff,ff,ff,ff] rfl rfl (any_of HT_.out (by kernel_rfl)) (fun _ _ _ h => h) (Or.inr ⟨by rfl, rfl⟩) ?_ ?_
                                          rotate_left
                                          · simp only [Act.put, List.setIfInBounds_toArray, List.set_cons_zero, List.set_cons_succ, i64_w, i32_w]
                                            rfl
                                          refine pure_ (i := 17) (N := some 139) (v := undef) (a' := ?_) #[tt,tt,tt,tt,tt,tt,tt,tt,tt,tt,tt,tt,tt,tt,tt,tt,tt,tt,ff,ff,ff,ff,ff,ff,ff] rfl rfl (any_of HT_.out (by kernel_rfl)) (fun _ _ _ h => h) (Or.inr ⟨by rfl, rfl⟩) ?_ ?_
                                          rotate_left
                                          · simp only [Act.put, List.setIfInBounds_toArray, List.set_cons_zero, List.set_cons_succ, i64_w, i32_w]
                                            rfl
                                          refine pure_ (i := 18) (N := some 140) (v := undef) (a' := ?_) #[tt,tt,tt,tt,tt,tt,tt,tt,tt,tt,tt,tt,tt,tt,tt,tt,tt,tt,tt,ff,ff,ff,ff,ff,ff] rfl rfl (any_of HT_.out (by kernel_rfl)) (fun _ _ _ h => h) (Or.inr ⟨by rfl, rfl⟩) ?_ ?_
                                          rotate_left
                                          · simp only [Act.put, List.setIfInBounds_toArray, List.set_cons_zero, List.set_cons_succ, i64_w, i32_w]
                                            rfl
                                          refine pure_ (i := 19) (N := some 141) (v := undef) (a' := ?_) #[tt,tt,tt,tt,tt,tt,tt,tt,tt,tt,tt,tt,tt,tt,tt,tt,tt,tt,tt,tt,ff,ff,ff,ff,ff] rfl rfl (any_of HT_.out (by kernel_rfl)) (fun _ _ _ h => h) (Or.inr ⟨by rfl, rfl⟩) ?_ ?_
                                          rotate_left
                                          · simp only [Act.put, List.setIfInBounds_toArray, List.set_cons_zero, List.set_cons_succ, i64_w, i32_w]
                                            rfl
                                          refine pure_ (i := 20) (N := some 142) (v := undef) (a' := ?_) #[tt,tt,tt,tt,tt,tt,tt,tt,tt,tt,tt,tt,tt,tt,tt,tt,tt,tt,tt,tt,tt,ff,ff,ff,ff] rfl rfl (any_of HT_.out (by kernel_rfl)) (fun _ _ _ h => h) (Or.inr ⟨by rfl, rfl⟩) ?_ ?_
                                          rotate_left
                                          · simp only [Act.put, List.setIfInBounds_toArray, List.set_cons_zero, List.set_cons_succ, i64_w, i32_w]
                                            rfl
                                          refine pure_ (i := 21) (N := some 143) (v := undef) (a' := ?_) #[tt,tt,tt,tt,tt,tt,tt,tt,tt,tt,tt,tt,tt,tt,tt,tt,tt,tt,tt,tt,tt,tt,ff,ff,ff] rfl rfl (any_of HT_.out (by kernel_rfl)) (fun _ _ _ h => h) (Or.inr ⟨by rfl, rfl⟩) ?_ ?_
                                          rotate_left
                                          · simp only [Act.put, List.setIfInBounds_toArray, List.set_cons_zero, List.set_cons_succ, i64_w, i32_w]
                                            rfl
                                          refine pure_ (i := 22) (N := some 144) (v := undef) (a' := ?_) #[tt,tt,tt,tt,tt,tt,tt,tt,tt,tt,tt,tt,tt,tt,tt,tt,tt,tt,tt,tt,tt,tt,tt,ff,ff] rfl rfl (any_of HT_.out (by kernel_rfl)) (fun _ _ _ h => h) (Or.inr ⟨by rfl, rfl⟩) ?_ ?_
                                          rotate_left
                                          · simp only [Act.put, List.setIfInBounds_toArray, List.set_cons_zero, List.set_cons_succ, i64_w, i32_w]
                                            rfl
                                          refine pure_ (i := 23) (N := some 145) (v := undef) (a' := ?_) #[tt,tt,tt,tt,tt,tt,tt,tt,tt,tt,tt,tt,tt,tt,tt,tt,tt,tt,tt,tt,tt,tt,tt,tt,ff] rfl rfl (any_of HT_.out (by kernel_rfl)) (fun _ _ _ h => h) (Or.inr ⟨by rfl, rfl⟩) ?_ ?_
                                          rotate_left
                                          · simp only [Act.put, List.setIfInBounds_toArray, List.set_cons_zero, List.set_cons_succ, i64_w, i32_w]
                                            rfl
                                          refine pure_ (i := 24) (N := some 146) (v := ?_) (a' := ?_) #[tt,tt,tt,tt,tt,tt,tt,tt,tt,tt,tt,tt,tt,tt,tt,tt,tt,tt,tt,tt,tt,tt,tt,tt,tt] rfl rfl (any_of HT_.out (by kernel_rfl)) (fun _ _ _ h => h) (Or.inl ⟨by rfl, ?_⟩) ?_ ?_
                                          rotate_left
                                          · intro w'
                                            go_simp
                                            with_reducible rfl
                                          rotate_left
                                          · simp only [Act.put, List.setIfInBounds_toArray, List.set_cons_zero, List.set_cons_succ, i64_w, i32_w]
                                            rfl
                                          refine done_ (done_of HT_.out (by kernel_rfl)) ?_
                                          try go_wp2
                                          go_roundg k5
                                          case measure => have := HJ10.out; have := HJ30.out; have := HK3.out; have := HJ43.out; have := HK5.out; omega
                                          case rel => exact ⟨(wrap64 (x10_5 + 1)), (by first | rfl | (simp; done) | (simp [*]; done)), H', ⟨by have := HJ10.out; have := HJ30.out; have := HK3.out; have := HJ43.out; have := HK5.out; omega⟩, ⟨by (with_reducible repeat (first | refine blk_drewN ?_ _ | refine blk_drew ?_ | refine blk_alloc ?_ _)); exact BK319.out⟩, ⟨by repeat (first | (with_reducible first | exact HB.out | apply below_alloc | apply pw_below_drewN | apply below_drew1 | refine below_set ?_ GE319.out) | exact HB.out)⟩⟩
                                        · replace c61 := Bool.eq_false_iff.mpr c61
                                          subst c61
                                          have H1 : ((anchor_Sight.f ((rd_T56 l0 x10_5).f1.f0) ((rd_T56 l0 x10_5).f1.f1) a1_0 a1_1).bind fun t337 => (if t337 > 0 then (none) else (valancelaw12_AnchorSeen.l2 k5 l0 true x8_3 ((rd_T56 l0 x8_3).f0) (wrap64 (x10_5 + 1)) a1_0 a1_1))) = some r := by rw [if_neg (show ¬ (false = true) by decide)] at H; exact H
                                          clear H
                                          have H := H1
                                          clear H1
                                          replace H := Option.bind_eq_some_iff.mp H
                                          obtain ⟨t337, A630, H⟩ := H
                                          replace H : (if t337 > 0 then (none) else (valancelaw12_AnchorSeen.l2 k5 l0 true x8_3 ((rd_T56 l0 x8_3).f0) (wrap64 (x10_5 + 1)) a1_0 a1_1)) = some r := H
                                          have A63 := Aside0.mk A630
                                          clear A630
                                          by_cases c64 : t337 > 0
                                          · rw [if_pos c64] at H
                                            exact absurd H (by simp)
                                          · rw [if_neg c64] at H
                                            have c64b0 : decide (0 < t337) = false := decide_eq_false c64
                                            clear c64
                                            have H' := Aside0.mk H
                                            clear H
                                            try go_wp2
                                            have n0_ := Aside0.mk (blk_drew BK319.out)
                                            have n1_ := Aside0.mk (below_drew1 HB.out)
                                            clear BK319
                                            clear HB
                                            have BK319 := n0_
                                            have HB := n1_
                                            clear n0_ n1_
                                            have p334 : 0 ≤ (x10_5 : Int) := of_decide_eq_true (by first | (with_reducible assumption) | assumption)
                                            have q334 : x10_5 < (l0.length : Int) := of_decide_eq_true (by first | (with_reducible assumption) | assumption)
                                            obtain ⟨ad334, e334, hx334_0, hx334_1, hx334_2, hx334_3⟩ := at_T56 HR0.out x10_5 p334 q334
                                            have hw334_3 := hx334_3
                                            have hw334_2 := hx334_2
                                            have hw334_1 := hx334_1
                                            have hw334_0 := hx334_0
                                            (try rw [← Nbq60.out] at hx334_3)
                                            (try rw [← Nbq60.out] at hw334_3)
                                            obtain rfl : ad330 = ad334 := (by injection e334)
                                            replace hx334_0 := (HB.out.cell (World.block_lt_of_cell? w _ hx334_0)).trans hx334_0
                                            replace hx334_1 := (HB.out.cell (World.block_lt_of_cell? w _ hx334_1)).trans hx334_1
                                            replace hx334_2 := (HB.out.cell (World.block_lt_of_cell? w _ hx334_2)).trans hx334_2
                                            replace hx334_3 := (HB.out.cell (World.block_lt_of_cell? w _ hx334_3)).trans hx334_3
                                            replace p334 := eq_true p334
                                            replace q334 := eq_true q334
                                            have p335 : 0 ≤ (x10_5 : Int) := of_decide_eq_true (by first | (with_reducible assumption) | assumption)
                                            have q335 : x10_5 < (l0.length : Int) := of_decide_eq_true (by first | (with_reducible assumption) | assumption)
                                            obtain ⟨ad335, e335, hx335_0, hx335_1, hx335_2, hx335_3⟩ := at_T56 HR0.out x10_5 p335 q335
                                            have hw335_3 := hx335_3
                                            have hw335_2 := hx335_2
                                            have hw335_1 := hx335_1
                                            have hw335_0 := hx335_0
                                            (try rw [← Nbq60.out] at hx335_3)
                                            (try rw [← Nbq60.out] at hw335_3)
                                            obtain rfl : ad330 = ad335 := (by injection e335)
                                            replace hx335_0 := (HB.out.cell (World.block_lt_of_cell? w _ hx335_0)).trans hx335_0
                                            replace hx335_1 := (HB.out.cell (World.block_lt_of_cell? w _ hx335_1)).trans hx335_1
                                            replace hx335_2 := (HB.out.cell (World.block_lt_of_cell? w _ hx335_2)).trans hx335_2
                                            replace hx335_3 := (HB.out.cell (World.block_lt_of_cell? w _ hx335_3)).trans hx335_3
                                            replace p335 := eq_true p335
                                            replace q335 := eq_true q335
                                            have p336 : 0 ≤ (x10_5 : Int) := of_decide_eq_true (by first | (with_reducible assumption) | assumption)
                                            have q336 : x10_5 < (l0.length : Int) := of_decide_eq_true (by first | (with_reducible assumption) | assumption)
                                            obtain ⟨ad336, e336, hx336_0, hx336_1, hx336_2, hx336_3⟩ := at_T56 HR0.out x10_5 p336 q336
                                            have hw336_3 := hx336_3
                                            have hw336_2 := hx336_2
                                            have hw336_1 := hx336_1
                                            have hw336_0 := hx336_0
                                            (try rw [← Nbq60.out] at hx336_3)
                                            (try rw [← Nbq60.out] at hw336_3)
                                            obtain rfl : ad330 = ad336 := (by injection e336)
                                            replace hx336_0 := (HB.out.cell (World.block_lt_of_cell? w _ hx336_0)).trans hx336_0
                                            replace hx336_1 := (HB.out.cell (World.block_lt_of_cell? w _ hx336_1)).trans hx336_1
                                            replace hx336_2 := (HB.out.cell (World.block_lt_of_cell? w _ hx336_2)).trans hx336_2
                                            replace hx336_3 := (HB.out.cell (World.block_lt_of_cell? w _ hx336_3)).trans hx336_3
                                            replace p336 := eq_true p336
                                            replace q336 := eq_true q336
                                            refine start_ (n := 25) (S := fun w' => w'.cell? ⟨gb319, 0, none⟩ = some (.int .i64 a1_0) ∧ w'.cell? ⟨gb319, 1, none⟩ = some (.int .i64 a1_1) ∧ w'.cell? (ad330.add ((x10_5).toNat * 4)) = some (.int .i64 ((rd_T56 l0 x10_5).f0)) ∧ w'.cell? ⟨(ad330.add ((x10_5).toNat * 4)).block, (ad330.add ((x10_5).toNat * 4)).off + 1, none⟩ = some (.int .i64 ((rd_T56 l0 x10_5).f1.f0)) ∧ w'.cell? ⟨(ad330.add ((x10_5).toNat * 4)).block, (ad330.add ((x10_5).toNat * 4)).off + 2, none⟩ = some (.int .i64 ((rd_T56 l0 x10_5).f1.f1)) ∧ w'.cell? ⟨(ad330.add ((x10_5).toNat * 4)).block, (ad330.add ((x10_5).toNat * 4)).off + 3, none⟩ = some (.bool false) ∧ w'.cell? (ad330.add ((x10_5).toNat * 4)) = some (.int .i64 ((rd_T56 l0 x10_5).f0)) ∧ w'.cell? ⟨(ad330.add ((x10_5).toNat * 4)).block, (ad330.add ((x10_5).toNat * 4)).off + 1, none⟩ = some (.int .i64 ((rd_T56 l0 x10_5).f1.f0)) ∧ w'.cell? ⟨(ad330.add ((x10_5).toNat * 4)).block, (ad330.add ((x10_5).toNat * 4)).off + 2, none⟩ = some (.int .i64 ((rd_T56 l0 x10_5).f1.f1)) ∧ w'.cell? ⟨(ad330.add ((x10_5).toNat * 4)).block, (ad330.add ((x10_5).toNat * 4)).off + 3, none⟩ = some (.bool false) ∧ w'.cell? (ad330.add ((x10_5).toNat * 4)) = some (.int .i64 ((rd_T56 l0 x10_5).f0)) ∧ w'.cell? ⟨(ad330.add ((x10_5).toNat * 4)).block, (ad330.add ((x10_5).toNat * 4)).off + 1, none⟩ = some (.int .i64 ((rd_T56 l0 x10_5).f1.f0)) ∧ w'.cell? ⟨(ad330.add ((x10_5).toNat * 4)).block, (ad330.add ((x10_5).toNat * 4)).off + 2, none⟩ = some (.int .i64 ((rd_T56 l0 x10_5).f1.f1)) ∧ w'.cell? ⟨(ad330.add ((x10_5).toNat * 4)).block, (ad330.add ((x10_5).toNat * 4)).off + 3, none⟩ = some (.bool (false))) (ds := []) #[ff,ff,ff,ff,ff,ff,ff,ff,ff,ff,ff,ff,ff,ff,ff,ff,ff,ff,ff,ff,ff,ff,ff,ff,ff] (by kernel_rfl) rfl rfl ⟨(blk_cell BK319.out 0).trans rfl, (blk_cell BK319.out 1).trans rfl, ((HB.out.cell (World.block_lt_of_cell? w _ hw334_0)).trans hw334_0), ((HB.out.cell (World.block_lt_of_cell? w _ hw334_1)).trans hw334_1), ((HB.out.cell (World.block_lt_of_cell? w _ hw334_2)).trans hw334_2), ((HB.out.cell (World.block_lt_of_cell? w _ hw334_3)).trans hw334_3), ((HB.out.cell (World.block_lt_of_cell? w _ hw335_0)).trans hw335_0), ((HB.out.cell (World.block_lt_of_cell? w _ hw335_1)).trans hw335_1), ((HB.out.cell (World.block_lt_of_cell? w _ hw335_2)).trans hw335_2), ((HB.out.cell (World.block_lt_of_cell? w _ hw335_3)).trans hw335_3), ((HB.out.cell (World.block_lt_of_cell? w _ hw336_0)).trans hw336_0), ((HB.out.cell (World.block_lt_of_cell? w _ hw336_1)).trans hw336_1), ((HB.out.cell (World.block_lt_of_cell? w _ hw336_2)).trans hw336_2), ((HB.out.cell (World.block_lt_of_cell? w _ hw336_3)).trans hw336_3)⟩ (fun hHeld => ?_); refine with_tabW valancelaw12_AnchorSeen.tab29 valancelaw12_AnchorSeen.bits29 (fun HT_ HW_ => ?_)
                                            generalize wr.drew = w65 at BK319 HB hx334_0 hx334_1 hx334_2 hx334_3 hx335_0 hx335_1 hx335_2 hx335_3 hx336_0 hx336_1 hx336_2 hx336_3 hHeld ⊢
                                            refine pure_ (i := 0) (N := some 122) (v := ?_) (a' := ?_) #[tt,ff,ff,ff,ff,ff,ff,ff,ff,ff,ff,ff,ff,ff,ff,ff,ff,ff,ff,ff,ff,ff,ff,ff,ff] rfl rfl (any_of HT_.out (by kernel_rfl)) (fun _ _ _ h => h) (Or.inl ⟨by rfl, ?_⟩) ?_ ?_
                                            rotate_left
                                            · intro w'
                                              go_simp
                                              with_reducible rfl
                                            rotate_left
                                            · simp only [Act.put, List.setIfInBounds_toArray, List.set_cons_zero, List.set_cons_succ, i64_w, i32_w]
                                              rfl
                                            refine pure_ (i := 1) (N := some 123) (v := ?_) (a' := ?_) #[tt,tt,ff,ff,ff,ff,ff,ff,ff,ff,ff,ff,ff,ff,ff,ff,ff,ff,ff,ff,ff,ff,ff,ff,ff] rfl rfl (any_of HT_.out (by kernel_rfl)) (fun _ _ _ h => h) (Or.inl ⟨by rfl, ?_⟩) ?_ ?_
                                            rotate_left
                                            · intro w'
                                              go_simp
                                              with_reducible rfl
                                            rotate_left
                                            · simp only [Act.put, List.setIfInBounds_toArray, List.set_cons_zero, List.set_cons_succ, i64_w, i32_w]
                                              rfl
                                            refine pure_ (i := 2) (N := some 124) (v := ?_) (a' := ?_) #[tt,tt,tt,ff,ff,ff,ff,ff,ff,ff,ff,ff,ff,ff,ff,ff,ff,ff,ff,ff,ff,ff,ff,ff,ff] rfl rfl (any_of HT_.out (by kernel_rfl)) (fun _ _ _ h => h) (Or.inl ⟨by rfl, ?_⟩) ?_ ?_
                                            rotate_left
                                            · intro w'
                                              go_simp
                                              with_reducible rfl
                                            rotate_left
                                            · simp only [Act.put, List.setIfInBounds_toArray, List.set_cons_zero, List.set_cons_succ, i64_w, i32_w]
                                              rfl
                                            refine pure_ (i := 3) (N := some 125) (v := ?_) (a' := ?_) #[tt,tt,tt,tt,ff,ff,ff,ff,ff,ff,ff,ff,ff,ff,ff,ff,ff,ff,ff,ff,ff,ff,ff,ff,ff] rfl rfl (any_of HT_.out (by kernel_rfl)) (fun _ _ _ h => h) (Or.inl ⟨by rfl, ?_⟩) ?_ ?_
                                            rotate_left
                                            · intro w'
                                              go_simp
                                              with_reducible rfl
                                            rotate_left
                                            · simp only [Act.put, List.setIfInBounds_toArray, List.set_cons_zero, List.set_cons_succ, i64_w, i32_w]
                                              rfl
                                            refine pure_ (i := 5) (N := some 127) (v := ?_) (a' := ?_) #[tt,tt,tt,tt,ff,tt,ff,ff,ff,ff,ff,ff,ff,ff,ff,ff,ff,ff,ff,ff,ff,ff,ff,ff,ff] rfl rfl (any_of HT_.out (by kernel_rfl)) (fun _ _ _ h => h) (Or.inl ⟨by rfl, ?_⟩) ?_ ?_
                                            rotate_left
                                            · intro w'
                                              go_simp
                                              with_reducible rfl
                                            rotate_left
                                            · simp only [Act.put, List.setIfInBounds_toArray, List.set_cons_zero, List.set_cons_succ, i64_w, i32_w]
                                              rfl
                                            refine take_ (i := 4) (N := some 126) (v := ?_) (a' := ?_) #[tt,tt,tt,tt,tt,tt,ff,ff,ff,ff,ff,ff,ff,ff,ff,ff,ff,ff,ff,ff,ff,ff,ff,ff,ff] rfl rfl (take_ofW HT_.out HW_.out (by kernel_rfl)) (fun _ _ _ h => h) (Or.inl ⟨by rfl, ?_⟩) hHeld ?_ ?_
                                            rotate_left
                                            · rintro w' ⟨s0, s1, s2, s3, s4, s5, s6, s7, s8, s9, s10, s11, s12, s13⟩
                                              go_simp
                                              with_reducible rfl
                                            rotate_left
                                            · simp only [Act.put, List.setIfInBounds_toArray, List.set_cons_zero, List.set_cons_succ, i64_w, i32_w]
                                              rfl
                                            refine pure_ (i := 6) (N := some 128) (v := ?_) (a' := ?_) #[tt,tt,tt,tt,tt,tt,tt,ff,ff,ff,ff,ff,ff,ff,ff,ff,ff,ff,ff,ff,ff,ff,ff,ff,ff] rfl rfl (any_of HT_.out (by kernel_rfl)) (fun _ _ _ h => h) (Or.inl ⟨by rfl, ?_⟩) ?_ ?_
                                            rotate_left
                                            · intro w'
                                              go_simp
                                              with_reducible rfl
                                            rotate_left
                                            · simp only [Act.put, List.setIfInBounds_toArray, List.set_cons_zero, List.set_cons_succ, i64_w, i32_w]
                                              rfl
                                            refine pure_ (i := 7) (N := some 129) (v := ?_) (a' := ?_) #[tt,tt,tt,tt,tt,tt,tt,tt,ff,ff,ff,ff,ff,ff,ff,ff,ff,ff,ff,ff,ff,ff,ff,ff,ff] rfl rfl (any_of HT_.out (by kernel_rfl)) (fun _ _ _ h => h) (Or.inl ⟨by rfl, ?_⟩) ?_ ?_
                                            rotate_left
                                            · intro w'
                                              go_simp
                                              with_reducible rfl
                                            rotate_left
                                            · simp only [Act.put, List.setIfInBounds_toArray, List.set_cons_zero, List.set_cons_succ, i64_w, i32_w]
                                              rfl
                                            refine pure_ (i := 8) (N := some 130) (v := ?_) (a' := ?_) #[tt,tt,tt,tt,tt,tt,tt,tt,tt,ff,ff,ff,ff,ff,ff,ff,ff,ff,ff,ff,ff,ff,ff,ff,ff] rfl rfl (any_of HT_.out (by kernel_rfl)) (fun _ _ _ h => h) (Or.inl ⟨by rfl, ?_⟩) ?_ ?_
                                            rotate_left
                                            · intro w'
                                              go_simp
                                              with_reducible rfl
                                            rotate_left
                                            · simp only [Act.put, List.setIfInBounds_toArray, List.set_cons_zero, List.set_cons_succ, i64_w, i32_w]
                                              rfl
                                            refine pure_ (i := 9) (N := some 131) (v := ?_) (a' := ?_) #[tt,tt,tt,tt,tt,tt,tt,tt,tt,tt,ff,ff,ff,ff,ff,ff,ff,ff,ff,ff,ff,ff,ff,ff,ff] rfl rfl (any_of HT_.out (by kernel_rfl)) (fun _ _ _ h => h) (Or.inl ⟨by rfl, ?_⟩) ?_ ?_
                                            rotate_left
                                            · intro w'
                                              go_simp
                                              with_reducible rfl
                                            rotate_left
                                            · simp only [Act.put, List.setIfInBounds_toArray, List.set_cons_zero, List.set_cons_succ, i64_w, i32_w]
                                              rfl
                                            refine pure_ (i := 10) (N := some 132) (v := ?_) (a' := ?_) #[tt,tt,tt,tt,tt,tt,tt,tt,tt,tt,tt,ff,ff,ff,ff,ff,ff,ff,ff,ff,ff,ff,ff,ff,ff] rfl rfl (any_of HT_.out (by kernel_rfl)) (fun _ _ _ h => h) (Or.inl ⟨by rfl, ?_⟩) ?_ ?_
                                            rotate_left
                                            · intro w'
                                              go_simp
                                              with_reducible rfl
                                            rotate_left
                                            · simp only [Act.put, List.setIfInBounds_toArray, List.set_cons_zero, List.set_cons_succ, i64_w, i32_w]
                                              rfl
                                            refine pure_ (i := 11) (N := some 133) (v := ?_) (a' := ?_) #[tt,tt,tt,tt,tt,tt,tt,tt,tt,tt,tt,tt,ff,ff,ff,ff,ff,ff,ff,ff,ff,ff,ff,ff,ff] rfl rfl (any_of HT_.out (by kernel_rfl)) (fun _ _ _ h => h) (Or.inl ⟨by rfl, ?_⟩) ?_ ?_
                                            rotate_left
                                            · intro w'
                                              go_simp
                                              with_reducible rfl
                                            rotate_left
                                            · simp only [Act.put, List.setIfInBounds_toArray, List.set_cons_zero, List.set_cons_succ, i64_w, i32_w]
                                              rfl
                                            refine take_ (i := 12) (N := some 134) (v := ?_) (a' := ?_) #[tt,tt,tt,tt,tt,tt,tt,tt,tt,tt,tt,tt,tt,ff,ff,ff,ff,ff,ff,ff,ff,ff,ff,ff,ff] rfl rfl (take_ofW HT_.out HW_.out (by kernel_rfl)) (fun _ _ _ h => h) (Or.inl ⟨by rfl, ?_⟩) hHeld ?_ ?_
                                            rotate_left
                                            · rintro w' ⟨s0, s1, s2, s3, s4, s5, s6, s7, s8, s9, s10, s11, s12, s13⟩
                                              go_simp
                                              with_reducible rfl
                                            rotate_left
                                            · simp only [Act.put, List.setIfInBounds_toArray, List.set_cons_zero, List.set_cons_succ, i64_w, i32_w]
                                              rfl
                                            refine pure_ (i := 13) (N := some 135) (v := ?_) (a' := ?_) #[tt,tt,tt,tt,tt,tt,tt,tt,tt,tt,tt,tt,tt,tt,ff,ff,ff,ff,ff,ff,ff,ff,ff,ff,ff] rfl rfl (any_of HT_.out (by kernel_rfl)) (fun _ _ _ h => h) (Or.inl ⟨by rfl, ?_⟩) ?_ ?_
                                            rotate_left
                                            · intro w'
                                              go_simp
                                              with_reducible rfl
                                            rotate_left
                                            · simp only [Act.put, List.setIfInBounds_toArray, List.set_cons_zero, List.set_cons_succ, i64_w, i32_w]
                                              rfl
                                            refine pure_ (i := 14) (N := some 136) (v := ?_) (a' := ?_) #[tt,tt,tt,tt,tt,tt,tt,tt,tt,tt,tt,tt,tt,tt,tt,ff,ff,ff,ff,ff,ff,ff,ff,ff,ff] rfl rfl (any_of HT_.out (by kernel_rfl)) (fun _ _ _ h => h) (Or.inl ⟨by rfl, ?_⟩) ?_ ?_
                                            rotate_left
                                            · intro w'
                                              go_simp
                                              with_reducible rfl
                                            rotate_left
                                            · simp only [Act.put, List.setIfInBounds_toArray, List.set_cons_zero, List.set_cons_succ, i64_w, i32_w]
                                              rfl
                                            refine pure_ (i := 15) (N := some 137) (v := ?_) (a' := ?_) #[tt,tt,tt,tt,tt,tt,tt,tt,tt,tt,tt,tt,tt,tt,tt,tt,ff,ff,ff,ff,ff,ff,ff,ff,ff] rfl rfl (any_of HT_.out (by kernel_rfl)) (fun _ _ _ h => h) (Or.inl ⟨by rfl, ?_⟩) ?_ ?_
                                            rotate_left
                                            · intro w'
                                              go_simp
                                              with_reducible rfl
                                            rotate_left
                                            · simp only [Act.put, List.setIfInBounds_toArray, List.set_cons_zero, List.set_cons_succ, i64_w, i32_w]
                                              rfl
                                            refine pure_ (i := 16) (N := some 138) (v := ?_) (a' := ?_) #[tt,tt,tt,tt,tt,tt,tt,tt,tt,tt,tt,tt,tt,tt,tt,tt,tt,ff,ff,ff,ff,ff,ff,ff,ff] rfl rfl (any_of HT_.out (by kernel_rfl)) (fun _ _ _ h => h) (Or.inl ⟨by rfl, ?_⟩) ?_ ?_
                                            rotate_left
                                            · intro w'
                                              go_simp
                                              with_reducible rfl
                                            rotate_left
                                            · simp only [Act.put, List.setIfInBounds_toArray, List.set_cons_zero, List.set_cons_succ, i64_w, i32_w]
                                              rfl
                                            refine pure_ (i := 17) (N := some 139) (v := ?_) (a' := ?_) #[tt,tt,tt,tt,tt,tt,tt,tt,tt,tt,tt,tt,tt,tt,tt,tt,tt,tt,ff,ff,ff,ff,ff,ff,ff] rfl rfl (any_of HT_.out (by kernel_rfl)) (fun _ _ _ h => h) (Or.inl ⟨by rfl, ?_⟩) ?_ ?_
                                            rotate_left
                                            · intro w'
                                              go_simp
                                              with_reducible rfl
                                            rotate_left
                                            · simp only [Act.put, List.setIfInBounds_toArray, List.set_cons_zero, List.set_cons_succ, i64_w, i32_w]
                                              rfl
                                            refine pure_ (i := 18) (N := some 140) (v := ?_) (a' := ?_) #[tt,tt,tt,tt,tt,tt,tt,tt,tt,tt,tt,tt,tt,tt,tt,tt,tt,tt,tt,ff,ff,ff,ff,ff,ff] rfl rfl (any_of HT_.out (by kernel_rfl)) (fun _ _ _ h => h) (Or.inl ⟨by rfl, ?_⟩) ?_ ?_
                                            rotate_left
                                            · intro w'
                                              go_simp
                                              with_reducible rfl
                                            rotate_left
                                            · simp only [Act.put, List.setIfInBounds_toArray, List.set_cons_zero, List.set_cons_succ, i64_w, i32_w]
                                              rfl
                                            refine pure_ (i := 19) (N := some 141) (v := ?_) (a' := ?_) #[tt,tt,tt,tt,tt,tt,tt,tt,tt,tt,tt,tt,tt,tt,tt,tt,tt,tt,tt,tt,ff,ff,ff,ff,ff] rfl rfl (any_of HT_.out (by kernel_rfl)) (fun _ _ _ h => h) (Or.inl ⟨by rfl, ?_⟩) ?_ ?_
                                            rotate_left
                                            · intro w'
                                              go_simp
                                              with_reducible rfl
                                            rotate_left
                                            · simp only [Act.put, List.setIfInBounds_toArray, List.set_cons_zero, List.set_cons_succ, i64_w, i32_w]
                                              rfl
                                            refine take_ (i := 20) (N := some 142) (v := ?_) (a' := ?_) #[tt,tt,tt,tt,tt,tt,tt,tt,tt,tt,tt,tt,tt,tt,tt,tt,tt,tt,tt,tt,tt,ff,ff,ff,ff] rfl rfl (take_ofW HT_.out HW_.out (by kernel_rfl)) (fun _ _ _ h => h) (Or.inl ⟨by rfl, ?_⟩) hHeld ?_ ?_
                                            rotate_left
                                            · rintro w' ⟨s0, s1, s2, s3, s4, s5, s6, s7, s8, s9, s10, s11, s12, s13⟩
                                              go_simp
                                              with_reducible rfl
                                            rotate_left
                                            · simp only [Act.put, List.setIfInBounds_toArray, List.set_cons_zero, List.set_cons_succ, i64_w, i32_w]
                                              rfl
                                            refine take_ (i := 21) (N := some 143) (v := ?_) (a' := ?_) #[tt,tt,tt,tt,tt,tt,tt,tt,tt,tt,tt,tt,tt,tt,tt,tt,tt,tt,tt,tt,tt,tt,ff,ff,ff] rfl rfl (take_ofW HT_.out HW_.out (by kernel_rfl)) (fun _ _ _ h => h) (Or.inl ⟨by rfl, ?_⟩) hHeld ?_ ?_
                                            rotate_left
                                            · rintro w' ⟨s0, s1, s2, s3, s4, s5, s6, s7, s8, s9, s10, s11, s12, s13⟩
                                              go_simp
                                              with_reducible rfl
                                            rotate_left
                                            · simp only [Act.put, List.setIfInBounds_toArray, List.set_cons_zero, List.set_cons_succ, i64_w, i32_w]
                                              rfl
                                            refine one_ (i := 22) (N := some 144) #[tt,tt,tt,tt,tt,tt,tt,tt,tt,tt,tt,tt,tt,tt,tt,tt,tt,tt,tt,tt,tt,tt,tt,ff,ff] rfl rfl (one_of HT_.out (by kernel_rfl)) (by decide) (fun K hK => ?_)
                                            refine goes_ Try.func28 (by kernel_rfl) rfl #[.agg #[.int .i64 ((rd_T56 l0 x10_5).f1.f0), .int .i64 ((rd_T56 l0 x10_5).f1.f1)], .agg #[.int .i64 a1_0, .int .i64 a1_1]] (by rfl) rfl rfl (by (try simp only [List.map_toArray, List.map_cons, List.map_nil]); first | done | rfl | (simp only [List.length_drop, List.length_take]; rfl)) ?_
                                            with_reducible refine (anchor_Sight.calls ((rd_T56 l0 x10_5).f1.f0) ((rd_T56 l0 x10_5).f1.f1) a1_0 a1_1 t337 _ A63.out).mono ?_
                                            rintro e w66 ⟨rfl, hb⟩
                                            refine ⟨_, rfl, ?_⟩
                                            have n0_ := Aside0.mk (blk_below (g := gb319) (o := .cells #[.int .i64 a1_0, .int .i64 a1_1] 23 (0, 0)) BK319.out hb)
                                            have n1_ := Aside0.mk (below_step (by repeat (first | (with_reducible first | exact HB.out | apply below_alloc | apply pw_below_drewN | apply below_drew1 | refine below_set ?_ GE319.out) | exact HB.out)) hb)
                                            clear BK319
                                            clear HB
                                            have BK319 := n0_
                                            have HB := n1_
                                            clear n0_ n1_
                                            (try clear hb)
                                            (try clear hb2)
                                            (try clear hk)
                                            (try clear hi)
                                            refine hK.out _ _ ⟨(blk_cell BK319.out 0).trans rfl, (blk_cell BK319.out 1).trans rfl, ((HB.out.cell (World.block_lt_of_cell? w _ hw334_0)).trans hw334_0), ((HB.out.cell (World.block_lt_of_cell? w _ hw334_1)).trans hw334_1), ((HB.out.cell (World.block_lt_of_cell? w _ hw334_2)).trans hw334_2), ((HB.out.cell (World.block_lt_of_cell? w _ hw334_3)).trans hw334_3), ((HB.out.cell (World.block_lt_of_cell? w _ hw335_0)).trans hw335_0), ((HB.out.cell (World.block_lt_of_cell? w _ hw335_1)).trans hw335_1), ((HB.out.cell (World.block_lt_of_cell? w _ hw335_2)).trans hw335_2), ((HB.out.cell (World.block_lt_of_cell? w _ hw335_3)).trans hw335_3), ((HB.out.cell (World.block_lt_of_cell? w _ hw336_0)).trans hw336_0), ((HB.out.cell (World.block_lt_of_cell? w _ hw336_1)).trans hw336_1), ((HB.out.cell (World.block_lt_of_cell? w _ hw336_2)).trans hw336_2), ((HB.out.cell (World.block_lt_of_cell? w _ hw336_3)).trans hw336_3)⟩ (fun hHeld => ?_)
                                            clear hK K
                                            refine norm_ (a' := ?_) ?_ ?_
                                            rotate_left
                                            · show Act.put _ (some 144) _ = _
                                              simp only [Act.put, List.setIfInBounds_toArray, List.set_cons_zero, List.set_cons_succ, i64_w, i32_w]
                                              rfl
                                            refine pure_ (i := 23) (N := some 145) (v := ?_) (a' := ?_) #[tt,tt,tt,tt,tt,tt,tt,tt,tt,tt,tt,tt,tt,tt,tt,tt,tt,tt,tt,tt,tt,tt,tt,tt,ff] rfl rfl (any_of HT_.out (by kernel_rfl)) (fun _ _ _ h => h) (Or.inl ⟨by rfl, ?_⟩) ?_ ?_
                                            rotate_left
                                            · intro w'
                                              go_simp
                                              with_reducible rfl
                                            rotate_left
                                            · simp only [Act.put, List.setIfInBounds_toArray, List.set_cons_zero, List.set_cons_succ, i64_w, i32_w]
                                              rfl
                                            refine pure_ (i := 24) (N := some 146) (v := ?_) (a' := ?_) #[tt,tt,tt,tt,tt,tt,tt,tt,tt,tt,tt,tt,tt,tt,tt,tt,tt,tt,tt,tt,tt,tt,tt,tt,tt] rfl rfl (any_of HT_.out (by kernel_rfl)) (fun _ _ _ h => h) (Or.inl ⟨by rfl, ?_⟩) ?_ ?_
                                            rotate_left
                                            · intro w'
                                              go_simp
                                              with_reducible rfl
                                            rotate_left
                                            · simp only [Act.put, List.setIfInBounds_toArray, List.set_cons_zero, List.set_cons_succ, i64_w, i32_w]
                                              rfl
                                            refine done_ (done_of HT_.out (by kernel_rfl)) ?_
                                            try go_wp2
                                            go_roundg k5
                                            case measure => have := HJ10.out; have := HJ30.out; have := HK3.out; have := HJ43.out; have := HK5.out; omega
                                            case rel => exact ⟨(wrap64 (x10_5 + 1)), (by first | rfl | (simp; done) | (simp [*]; done)), H', ⟨by have := HJ10.out; have := HJ30.out; have := HK3.out; have := HJ43.out; have := HK5.out; omega⟩, ⟨by (with_reducible repeat (first | refine blk_drewN ?_ _ | refine blk_drew ?_ | refine blk_alloc ?_ _)); exact BK319.out⟩, ⟨by repeat (first | (with_reducible first | exact HB.out | apply below_alloc | apply pw_below_drewN | apply below_drew1 | refine below_set ?_ GE319.out) | exact HB.out)⟩⟩
                                      · rw [if_neg c59] at H
                                        have c59b0 : (((rd_T56 l0 x10_5).f0) == ((rd_T56 l0 x8_3).f0)) = false := beq_eq_false_iff_ne.mpr c59
                                        have c59b1 : (((rd_T56 l0 x10_5).f0) != ((rd_T56 l0 x8_3).f0)) = true := bne_iff_ne.mpr c59
                                        have H' := Aside0.mk H
                                        clear H
                                        try go_wp2
                                        have n0_ := Aside0.mk (blk_drew BK319.out)
                                        have n1_ := Aside0.mk (below_drew1 HB.out)
                                        clear BK319
                                        clear HB
                                        have BK319 := n0_
                                        have HB := n1_
                                        clear n0_ n1_
                                        have p334 : 0 ≤ (x10_5 : Int) := of_decide_eq_true (by first | (with_reducible assumption) | assumption)
                                        have q334 : x10_5 < (l0.length : Int) := of_decide_eq_true (by first | (with_reducible assumption) | assumption)
                                        obtain ⟨ad334, e334, hx334_0, hx334_1, hx334_2, hx334_3⟩ := at_T56 HR0.out x10_5 p334 q334
                                        have hw334_3 := hx334_3
                                        have hw334_2 := hx334_2
                                        have hw334_1 := hx334_1
                                        have hw334_0 := hx334_0
                                        obtain rfl : ad330 = ad334 := (by injection e334)
                                        replace hx334_0 := (HB.out.cell (World.block_lt_of_cell? w _ hx334_0)).trans hx334_0
                                        replace hx334_1 := (HB.out.cell (World.block_lt_of_cell? w _ hx334_1)).trans hx334_1
                                        replace hx334_2 := (HB.out.cell (World.block_lt_of_cell? w _ hx334_2)).trans hx334_2
                                        replace hx334_3 := (HB.out.cell (World.block_lt_of_cell? w _ hx334_3)).trans hx334_3
                                        replace p334 := eq_true p334
                                        replace q334 := eq_true q334
                                        refine start_ (n := 25) (S := fun w' => w'.cell? (ad330.add ((x10_5).toNat * 4)) = some (.int .i64 ((rd_T56 l0 x10_5).f0)) ∧ w'.cell? ⟨(ad330.add ((x10_5).toNat * 4)).block, (ad330.add ((x10_5).toNat * 4)).off + 1, none⟩ = some (.int .i64 ((rd_T56 l0 x10_5).f1.f0)) ∧ w'.cell? ⟨(ad330.add ((x10_5).toNat * 4)).block, (ad330.add ((x10_5).toNat * 4)).off + 2, none⟩ = some (.int .i64 ((rd_T56 l0 x10_5).f1.f1)) ∧ w'.cell? ⟨(ad330.add ((x10_5).toNat * 4)).block, (ad330.add ((x10_5).toNat * 4)).off + 3, none⟩ = some (.bool ((rd_T56 l0 x10_5).f2))) (ds := []) #[ff,ff,ff,ff,ff,ff,ff,ff,ff,ff,ff,ff,ff,ff,ff,ff,ff,ff,ff,ff,ff,ff,ff,ff,ff] (by kernel_rfl) rfl rfl ⟨((HB.out.cell (World.block_lt_of_cell? w _ hw334_0)).trans hw334_0), ((HB.out.cell (World.block_lt_of_cell? w _ hw334_1)).trans hw334_1), ((HB.out.cell (World.block_lt_of_cell? w _ hw334_2)).trans hw334_2), ((HB.out.cell (World.block_lt_of_cell? w _ hw334_3)).trans hw334_3)⟩ (fun hHeld => ?_); refine with_tabW valancelaw12_AnchorSeen.tab29 valancelaw12_AnchorSeen.bits29 (fun HT_ HW_ => ?_)
                                        generalize wr.drew = w67 at BK319 HB hx334_0 hx334_1 hx334_2 hx334_3 hHeld ⊢
                                        refine pure_ (i := 0) (N := some 122) (v := ?_) (a' := ?_) #[tt,ff,ff,ff,ff,ff,ff,ff,ff,ff,ff,ff,ff,ff,ff,ff,ff,ff,ff,ff,ff,ff,ff,ff,ff] rfl rfl (any_of HT_.out (by kernel_rfl)) (fun _ _ _ h => h) (Or.inl ⟨by rfl, ?_⟩) ?_ ?_
                                        rotate_left
                                        · intro w'
                                          go_simp
                                          with_reducible rfl
                                        rotate_left
                                        · simp only [Act.put, List.setIfInBounds_toArray, List.set_cons_zero, List.set_cons_succ, i64_w, i32_w]
                                          rfl
                                        refine pure_ (i := 1) (N := some 123) (v := ?_) (a' := ?_) #[tt,tt,ff,ff,ff,ff,ff,ff,ff,ff,ff,ff,ff,ff,ff,ff,ff,ff,ff,ff,ff,ff,ff,ff,ff] rfl rfl (any_of HT_.out (by kernel_rfl)) (fun _ _ _ h => h) (Or.inl ⟨by rfl, ?_⟩) ?_ ?_
                                        rotate_left
                                        · intro w'
                                          go_simp
                                          with_reducible rfl
                                        rotate_left
                                        · simp only [Act.put, List.setIfInBounds_toArray, List.set_cons_zero, List.set_cons_succ, i64_w, i32_w]
                                          rfl
                                        refine pure_ (i := 2) (N := some 124) (v := ?_) (a' := ?_) #[tt,tt,tt,ff,ff,ff,ff,ff,ff,ff,ff,ff,ff,ff,ff,ff,ff,ff,ff,ff,ff,ff,ff,ff,ff] rfl rfl (any_of HT_.out (by kernel_rfl)) (fun _ _ _ h => h) (Or.inl ⟨by rfl, ?_⟩) ?_ ?_
                                        rotate_left
                                        · intro w'
                                          go_simp
                                          with_reducible rfl
                                        rotate_left
                                        · simp only [Act.put, List.setIfInBounds_toArray, List.set_cons_zero, List.set_cons_succ, i64_w, i32_w]
                                          rfl
                                        refine pure_ (i := 3) (N := some 125) (v := ?_) (a' := ?_) #[tt,tt,tt,tt,ff,ff,ff,ff,ff,ff,ff,ff,ff,ff,ff,ff,ff,ff,ff,ff,ff,ff,ff,ff,ff] rfl rfl (any_of HT_.out (by kernel_rfl)) (fun _ _ _ h => h) (Or.inl ⟨by rfl, ?_⟩) ?_ ?_
                                        rotate_left
                                        · intro w'
                                          go_simp
                                          with_reducible rfl
                                        rotate_left
                                        · simp only [Act.put, List.setIfInBounds_toArray, List.set_cons_zero, List.set_cons_succ, i64_w, i32_w]
                                          rfl
                                        refine pure_ (i := 5) (N := some 127) (v := ?_) (a' := ?_) #[tt,tt,tt,tt,ff,tt,ff,ff,ff,ff,ff,ff,ff,ff,ff,ff,ff,ff,ff,ff,ff,ff,ff,ff,ff] rfl rfl (any_of HT_.out (by kernel_rfl)) (fun _ _ _ h => h) (Or.inl ⟨by rfl, ?_⟩) ?_ ?_
                                        rotate_left
                                        · intro w'
                                          go_simp
                                          with_reducible rfl
                                        rotate_left
                                        · simp only [Act.put, List.setIfInBounds_toArray, List.set_cons_zero, List.set_cons_succ, i64_w, i32_w]
                                          rfl
                                        refine take_ (i := 4) (N := some 126) (v := ?_) (a' := ?_) #[tt,tt,tt,tt,tt,tt,ff,ff,ff,ff,ff,ff,ff,ff,ff,ff,ff,ff,ff,ff,ff,ff,ff,ff,ff] rfl rfl (take_ofW HT_.out HW_.out (by kernel_rfl)) (fun _ _ _ h => h) (Or.inl ⟨by rfl, ?_⟩) hHeld ?_ ?_
                                        rotate_left
                                        · rintro w' ⟨s0, s1, s2, s3⟩
                                          go_simp
                                          with_reducible rfl
                                        rotate_left
                                        · simp only [Act.put, List.setIfInBounds_toArray, List.set_cons_zero, List.set_cons_succ, i64_w, i32_w]
                                          rfl
                                        refine pure_ (i := 6) (N := some 128) (v := ?_) (a' := ?_) #[tt,tt,tt,tt,tt,tt,tt,ff,ff,ff,ff,ff,ff,ff,ff,ff,ff,ff,ff,ff,ff,ff,ff,ff,ff] rfl rfl (any_of HT_.out (by kernel_rfl)) (fun _ _ _ h => h) (Or.inl ⟨by rfl, ?_⟩) ?_ ?_
                                        rotate_left
                                        · intro w'
                                          go_simp
                                          with_reducible rfl
                                        rotate_left
                                        · simp only [Act.put, List.setIfInBounds_toArray, List.set_cons_zero, List.set_cons_succ, i64_w, i32_w]
                                          rfl
                                        refine pure_ (i := 7) (N := some 129) (v := ?_) (a' := ?_) #[tt,tt,tt,tt,tt,tt,tt,tt,ff,ff,ff,ff,ff,ff,ff,ff,ff,ff,ff,ff,ff,ff,ff,ff,ff] rfl rfl (any_of HT_.out (by kernel_rfl)) (fun _ _ _ h => h) (Or.inl ⟨by rfl, ?_⟩) ?_ ?_
                                        rotate_left
                                        · intro w'
                                          go_simp
                                          with_reducible rfl
                                        rotate_left
                                        · simp only [Act.put, List.setIfInBounds_toArray, List.set_cons_zero, List.set_cons_succ, i64_w, i32_w]
                                          rfl
                                        refine pure_ (i := 8) (N := some 130) (v := undef) (a' := ?_) #[tt,tt,tt,tt,tt,tt,tt,tt,tt,ff,ff,ff,ff,ff,ff,ff,ff,ff,ff,ff,ff,ff,ff,ff,ff] rfl rfl (any_of HT_.out (by kernel_rfl)) (fun _ _ _ h => h) (Or.inr ⟨by rfl, rfl⟩) ?_ ?_
                                        rotate_left
                                        · simp only [Act.put, List.setIfInBounds_toArray, List.set_cons_zero, List.set_cons_succ, i64_w, i32_w]
                                          rfl
                                        refine pure_ (i := 9) (N := some 131) (v := undef) (a' := ?_) #[tt,tt,tt,tt,tt,tt,tt,tt,tt,tt,ff,ff,ff,ff,ff,ff,ff,ff,ff,ff,ff,ff,ff,ff,ff] rfl rfl (any_of HT_.out (by kernel_rfl)) (fun _ _ _ h => h) (Or.inr ⟨by rfl, rfl⟩) ?_ ?_
                                        rotate_left
                                        · simp only [Act.put, List.setIfInBounds_toArray, List.set_cons_zero, List.set_cons_succ, i64_w, i32_w]
                                          rfl
                                        refine pure_ (i := 10) (N := some 132) (v := undef) (a' := ?_) #[tt,tt,tt,tt,tt,tt,tt,tt,tt,tt,tt,ff,ff,ff,ff,ff,ff,ff,ff,ff,ff,ff,ff,ff,ff] rfl rfl (any_of HT_.out (by kernel_rfl)) (fun _ _ _ h => h) (Or.inr ⟨by rfl, rfl⟩) ?_ ?_
                                        rotate_left
                                        · simp only [Act.put, List.setIfInBounds_toArray, List.set_cons_zero, List.set_cons_succ, i64_w, i32_w]
                                          rfl
                                        refine pure_ (i := 11) (N := some 133) (v := undef) (a' := ?_) #[tt,tt,tt,tt,tt,tt,tt,tt,tt,tt,tt,tt,ff,ff,ff,ff,ff,ff,ff,ff,ff,ff,ff,ff,ff] rfl rfl (any_of HT_.out (by kernel_rfl)) (fun _ _ _ h => h) (Or.inr ⟨by rfl, rfl⟩) ?_ ?_
                                        rotate_left
                                        · simp only [Act.put, List.setIfInBounds_toArray, List.set_cons_zero, List.set_cons_succ, i64_w, i32_w]
                                          rfl
                                        refine pure_ (i := 12) (N := some 134) (v := undef) (a' := ?_) #[tt,tt,tt,tt,tt,tt,tt,tt,tt,tt,tt,tt,tt,ff,ff,ff,ff,ff,ff,ff,ff,ff,ff,ff,ff] rfl rfl (any_of HT_.out (by kernel_rfl)) (fun _ _ _ h => h) (Or.inr ⟨by rfl, rfl⟩) ?_ ?_
                                        rotate_left
                                        · simp only [Act.put, List.setIfInBounds_toArray, List.set_cons_zero, List.set_cons_succ, i64_w, i32_w]
                                          rfl
                                        refine pure_ (i := 13) (N := some 135) (v := undef) (a' := ?_) #[tt,tt,tt,tt,tt,tt,tt,tt,tt,tt,tt,tt,tt,tt,ff,ff,ff,ff,ff,ff,ff,ff,ff,ff,ff] rfl rfl (any_of HT_.out (by kernel_rfl)) (fun _ _ _ h => h) (Or.inr ⟨by rfl, rfl⟩) ?_ ?_
                                        rotate_left
                                        · simp only [Act.put, List.setIfInBounds_toArray, List.set_cons_zero, List.set_cons_succ, i64_w, i32_w]
                                          rfl
                                        refine pure_ (i := 14) (N := some 136) (v := ?_) (a' := ?_) #[tt,tt,tt,tt,tt,tt,tt,tt,tt,tt,tt,tt,tt,tt,tt,ff,ff,ff,ff,ff,ff,ff,ff,ff,ff] rfl rfl (any_of HT_.out (by kernel_rfl)) (fun _ _ _ h => h) (Or.inl ⟨by rfl, ?_⟩) ?_ ?_
                                        rotate_left
                                        · intro w'
                                          go_simp
                                          with_reducible rfl
                                        rotate_left
                                        · simp only [Act.put, List.setIfInBounds_toArray, List.set_cons_zero, List.set_cons_succ, i64_w, i32_w]
                                          rfl
                                        refine pure_ (i := 15) (N := some 137) (v := ?_) (a' := ?_) #[tt,tt,tt,tt,tt,tt,tt,tt,tt,tt,tt,tt,tt,tt,tt,tt,ff,ff,ff,ff,ff,ff,ff,ff,ff] rfl rfl (any_of HT_.out (by kernel_rfl)) (fun _ _ _ h => h) (Or.inl ⟨by rfl, ?_⟩) ?_ ?_
                                        rotate_left
                                        · intro w'
                                          go_simp
                                          with_reducible rfl
                                        rotate_left
                                        · simp only [Act.put, List.setIfInBounds_toArray, List.set_cons_zero, List.set_cons_succ, i64_w, i32_w]
                                          rfl
                                        refine pure_ (i := 16) (N := some 138) (v := undef) (a' := ?_) #[tt,tt,tt,tt,tt,tt,tt,tt,tt,tt,tt,tt,tt,tt,tt,tt,tt,ff,ff,ff,ff,ff,ff,ff,ff] rfl rfl (any_of HT_.out (by kernel_rfl)) (fun _ _ _ h => h) (Or.inr ⟨by rfl, rfl⟩) ?_ ?_
                                        rotate_left
                                        · simp only [Act.put, List.setIfInBounds_toArray, List.set_cons_zero, List.set_cons_succ, i64_w, i32_w]
                                          rfl
                                        refine pure_ (i := 17) (N := some 139) (v := undef) (a' := ?_) #[tt,tt,tt,tt,tt,tt,tt,tt,tt,tt,tt,tt,tt,tt,tt,tt,tt,tt,ff,ff,ff,ff,ff,ff,ff] rfl rfl (any_of HT_.out (by kernel_rfl)) (fun _ _ _ h => h) (Or.inr ⟨by rfl, rfl⟩) ?_ ?_
                                        rotate_left
                                        · simp only [Act.put, List.setIfInBounds_toArray, List.set_cons_zero, List.set_cons_succ, i64_w, i32_w]
                                          rfl
                                        refine pure_ (i := 18) (N := some 140) (v := undef) (a' := ?_) #[tt,tt,tt,tt,tt,tt,tt,tt,tt,tt,tt,tt,tt,tt,tt,tt,tt,tt,tt,ff,ff,ff,ff,ff,ff] rfl rfl (any_of HT_.out (by kernel_rfl)) (fun _ _ _ h => h) (Or.inr ⟨by rfl, rfl⟩) ?_ ?_
                                        rotate_left
                                        · simp only [Act.put, List.setIfInBounds_toArray, List.set_cons_zero, List.set_cons_succ, i64_w, i32_w]
                                          rfl
                                        refine pure_ (i := 19) (N := some 141) (v := undef) (a' := ?_) #[tt,tt,tt,tt,tt,tt,tt,tt,tt,tt,tt,tt,tt,tt,tt,tt,tt,tt,tt,tt,ff,ff,ff,ff,ff] rfl rfl (any_of HT_.out (by kernel_rfl)) (fun _ _ _ h => h) (Or.inr ⟨by rfl, rfl⟩) ?_ ?_
                                        rotate_left
                                        · simp only [Act.put, List.setIfInBounds_toArray, List.set_cons_zero, List.set_cons_succ, i64_w, i32_w]
                                          rfl
                                        refine pure_ (i := 20) (N := some 142) (v := undef) (a' := ?_) #[tt,tt,tt,tt,tt,tt,tt,tt,tt,tt,tt,tt,tt,tt,tt,tt,tt,tt,tt,tt,tt,ff,ff,ff,ff] rfl rfl (any_of HT_.out (by kernel_rfl)) (fun _ _ _ h => h) (Or.inr ⟨by rfl, rfl⟩) ?_ ?_
                                        rotate_left
                                        · simp only [Act.put, List.setIfInBounds_toArray, List.set_cons_zero, List.set_cons_succ, i64_w, i32_w]
                                          rfl
                                        refine pure_ (i := 21) (N := some 143) (v := undef) (a' := ?_) #[tt,tt,tt,tt,tt,tt,tt,tt,tt,tt,tt,tt,tt,tt,tt,tt,tt,tt,tt,tt,tt,tt,ff,ff,ff] rfl rfl (any_of HT_.out (by kernel_rfl)) (fun _ _ _ h => h) (Or.inr ⟨by rfl, rfl⟩) ?_ ?_
                                        rotate_left
                                        · simp only [Act.put, List.setIfInBounds_toArray, List.set_cons_zero, List.set_cons_succ, i64_w, i32_w]
                                          rfl
                                        refine pure_ (i := 22) (N := some 144) (v := undef) (a' := ?_) #[tt,tt,tt,tt,tt,tt,tt,tt,tt,tt,tt,tt,tt,tt,tt,tt,tt,tt,tt,tt,tt,tt,tt,ff,ff] rfl rfl (any_of HT_.out (by kernel_rfl)) (fun _ _ _ h => h) (Or.inr ⟨by rfl, rfl⟩) ?_ ?_
                                        rotate_left
                                        · simp only [Act.put, List.setIfInBounds_toArray, List.set_cons_zero, List.set_cons_succ, i64_w, i32_w]
                                          rfl
                                        refine pure_ (i := 23) (N := some 145) (v := undef) (a' := ?_) #[tt,tt,tt,tt,tt,tt,tt,tt,tt,tt,tt,tt,tt,tt,tt,tt,tt,tt,tt,tt,tt,tt,tt,tt,ff] rfl rfl (any_of HT_.out (by kernel_rfl)) (fun _ _ _ h => h) (Or.inr ⟨by rfl, rfl⟩) ?_ ?_
                                        rotate_left
                                        · simp only [Act.put, List.setIfInBounds_toArray, List.set_cons_zero, List.set_cons_succ, i64_w, i32_w]
                                          rfl
                                        refine pure_ (i := 24) (N := some 146) (v := ?_) (a' := ?_) #[tt,tt,tt,tt,tt,tt,tt,tt,tt,tt,tt,tt,tt,tt,tt,tt,tt,tt,tt,tt,tt,tt,tt,tt,tt] rfl rfl (any_of HT_.out (by kernel_rfl)) (fun _ _ _ h => h) (Or.inl ⟨by rfl, ?_⟩) ?_ ?_
                                        rotate_left
                                        · intro w'
                                          go_simp
                                          with_reducible rfl
                                        rotate_left
                                        · simp only [Act.put, List.setIfInBounds_toArray, List.set_cons_zero, List.set_cons_succ, i64_w, i32_w]
                                          rfl
                                        refine done_ (done_of HT_.out (by kernel_rfl)) ?_
                                        try go_wp2
                                        go_roundg k5
                                        case measure => have := HJ10.out; have := HJ30.out; have := HK3.out; have := HJ43.out; have := HK5.out; omega
                                        case rel => exact ⟨(wrap64 (x10_5 + 1)), (by first | rfl | (simp; done) | (simp [*]; done)), H', ⟨by have := HJ10.out; have := HJ30.out; have := HK3.out; have := HJ43.out; have := HK5.out; omega⟩, ⟨by (with_reducible repeat (first | refine blk_drewN ?_ _ | refine blk_drew ?_ | refine blk_alloc ?_ _)); exact BK319.out⟩, ⟨by repeat (first | (with_reducible first | exact HB.out | apply below_alloc | apply pw_below_drewN | apply below_drew1 | refine below_set ?_ GE319.out) | exact HB.out)⟩⟩
                                    · rw [if_neg c56] at H
                                      have c56b0 : decide (x10_5 < x8_3) = false := decide_eq_false c56
                                      clear c56
                                      by_cases c68 : 0 ≤ x8_3
                                      case neg =>
                                        rw [if_neg c68] at H
                                        exact absurd H (by simp)
                                      rw [if_pos c68] at H
                                      have c68b0 : decide (0 ≤ x8_3) = true := decide_eq_true c68
                                      clear c68
                                      by_cases c69 : x8_3 < (l0.length : Int)
                                      case neg =>
                                        rw [if_neg c69] at H
                                        exact absurd H (by simp)
                                      rw [if_pos c69] at H
                                      have c69b0 : decide (x8_3 < (l0.length : Int)) = true := decide_eq_true c69
                                      clear c69
                                      have H' := Aside0.mk H
                                      clear H
                                      have p338 : 0 ≤ (x8_3 : Int) := of_decide_eq_true (by first | (with_reducible assumption) | assumption)
                                      have q338 : x8_3 < (l0.length : Int) := of_decide_eq_true (by first | (with_reducible assumption) | assumption)
                                      obtain ⟨ad338, e338, hx338_0, hx338_1, hx338_2, hx338_3⟩ := at_T56 HR0.out x8_3 p338 q338
                                      obtain rfl : ad330 = ad338 := (by injection e338)
                                      replace hx338_0 := (HB.out.cell (World.block_lt_of_cell? w _ hx338_0)).trans hx338_0
                                      replace hx338_1 := (HB.out.cell (World.block_lt_of_cell? w _ hx338_1)).trans hx338_1
                                      replace hx338_2 := (HB.out.cell (World.block_lt_of_cell? w _ hx338_2)).trans hx338_2
                                      replace hx338_3 := (HB.out.cell (World.block_lt_of_cell? w _ hx338_3)).trans hx338_3
                                      replace p338 := eq_true p338
                                      replace q338 := eq_true q338
                                      go_wp2
                                      go_roundg k5
                                      case measure => have := HJ10.out; have := HJ30.out; have := HK3.out; have := HJ43.out; have := HK5.out; omega
                                      case rel => exact ⟨((rd_T56 l0 x8_3).f0), (by first | rfl | (simp; done) | (simp [*]; done)), H', ⟨by have := HJ10.out; have := HJ30.out; have := HK3.out; have := HJ43.out; have := HK5.out; omega⟩, ⟨by (with_reducible repeat (first | refine blk_drewN ?_ _ | refine blk_drew ?_ | refine blk_alloc ?_ _)); exact BK319.out⟩, ⟨by repeat (first | (with_reducible first | exact HB.out | apply below_alloc | apply pw_below_drewN | apply below_drew1 | refine below_set ?_ GE319.out) | exact HB.out)⟩⟩
                        · rw [if_neg c41] at H
                          have c41b0 : decide (0 ≤ x8_3) = false := decide_eq_false c41
                          clear c41
                          obtain rfl := Option.some.inj H
                          go_wp2
                          go_ret
                          exact ⟨by first | rfl | (simp [errW_none, errW_some] <;> rfl) | (simp [*, errW_none, errW_some] <;> rfl), by repeat (first | (with_reducible first | exact HB.out | apply below_alloc | apply pw_below_drewN | apply below_drew1 | refine below_set ?_ GE319.out) | exact HB.out)⟩
    · replace c10 := Bool.eq_false_iff.mpr c10
      subst c10
      have H1 : (some (t321 == (-1))) = some r := by rw [if_neg (show ¬ (false = true) by decide)] at H; exact H
      clear H
      have H := H1
      clear H1
      obtain rfl := Option.some.inj H
      go_enter Try.func10, Try.ntmps10
      go_wp2_with (first | ((with_reducible refine gate_dst (N := 3) rfl ?_); (try (refine gate_guard (by rfl) ?_; dsimp only)); refine box_event ?hg (N := 3) ?hd (cs := #[.int .i64 a1_0, .int .i64 a1_1]) (t := 23) ?hr ?_; (case hd => rfl); (case hg => rfl); (case hr => first | (go_simp; done) | (go_simp; rfl)); intro gb319 hg w70 hbox hb; have n0_ := Aside0.mk (below_step (by repeat (first | (with_reducible first | exact HB.out | apply below_alloc | apply pw_below_drewN | apply below_drew1) | exact HB.out)) hb); have n1_ := Aside0.mk (hbox); have n2_ := Aside0.mk ((by rw [hg]; exact (below_size (by repeat (first | (with_reducible first | exact HB.out | apply below_alloc | apply pw_below_drewN | apply below_drew1) | exact HB.out))) : w.heap.size ≤ gb319)); have n3_ := Aside0.mk ((by rw [hg]; exact (below_size (by repeat (first | (with_reducible first | exact HB.out | apply below_alloc | apply pw_below_drewN | apply below_drew1) | exact HB.out))) : w.heap.size ≤ gb319)); clear HB; have HB := n0_; have BK319 := n1_; have GW319 := n2_; have GE319 := n3_; clear n0_ n1_ n2_ n3_; clear hb hbox hg) | ((with_reducible refine gate_callee (f := 24) rfl ?_); refine goesL_ (some 11) rfl rfl Try.func24 (by kernel_rfl) rfl #[] rfl (by (try simp only [List.map_toArray, List.map_cons, List.map_nil]); first | done | rfl | (simp only [List.length_drop, List.length_take]; rfl)) ?_; (with_reducible refine (valancelaw12_works.calls k  true _ A3.out).mono ?_); rintro e w71 ⟨rfl, hb⟩; refine ⟨_, rfl, ?_⟩; have n0_ := Aside0.mk (blk_below (g := gb319) (o := .cells #[.int .i64 a1_0, .int .i64 a1_1] 23 (0, 0)) BK319.out hb); have n1_ := Aside0.mk (below_step (by repeat (first | (with_reducible first | exact HB.out | apply below_alloc | apply pw_below_drewN | apply below_drew1 | refine below_set ?_ GE319.out) | exact HB.out)) hb); clear BK319; clear HB; have BK319 := n0_; have HB := n1_; clear n0_ n1_; (try clear hb); (try clear hb2); (try clear hk); (try clear hi); have hcz72_0 : w71.cell? ⟨gb319, 0, none⟩ = some (.int .i64 a1_0) := (blk_cell BK319.out 0).trans rfl; have hcz72_1 : w71.cell? ⟨gb319, 1, none⟩ = some (.int .i64 a1_1) := (blk_cell BK319.out 1).trans rfl; have hfz72_0 := blk_frozen BK319.out 0; have hfz72_1 := blk_frozen BK319.out 1) | ((with_reducible refine gate_callee (f := 31) rfl ?_); refine goesL_ (some 20) rfl rfl Try.func31 (by kernel_rfl) rfl #[.slice A0 l0.length c0, .agg #[.int .i64 a1_0, .int .i64 a1_1]] rfl (by (try simp only [List.map_toArray, List.map_cons, List.map_nil]); first | done | rfl | (simp only [List.length_drop, List.length_take]; rfl)) ?_; (with_reducible refine (anchor_Pick.calls k _ _ l0 a1_0 a1_1 t321 _ ?side1 ?side2 A8.out).mono ?_); (case side1 => repeat (first | exact (Kd.C_below HR0.out HB.out) | (with_reducible refine Kd.C_alloc ?_ _) | (with_reducible refine Kd.C_drewN ?_ _) | (with_reducible refine Kd.C_drew ?_))); (case side2 => exact HC0.out); rintro e w73 ⟨rfl, hb⟩; refine ⟨_, rfl, ?_⟩; have n0_ := Aside0.mk (blk_below (g := gb319) (o := .cells #[.int .i64 a1_0, .int .i64 a1_1] 23 (0, 0)) BK319.out hb); have n1_ := Aside0.mk (below_step (by repeat (first | (with_reducible first | exact HB.out | apply below_alloc | apply pw_below_drewN | apply below_drew1 | refine below_set ?_ GE319.out) | exact HB.out)) hb); clear BK319; clear HB; have BK319 := n0_; have HB := n1_; clear n0_ n1_; (try clear hb); (try clear hb2); (try clear hk); (try clear hi)) | ((with_reducible refine gate_callee (f := 30) rfl ?_); refine goesL_ (some 22) rfl rfl Try.func30 (by kernel_rfl) rfl #[.slice A0 l0.length c0] rfl (by (try simp only [List.map_toArray, List.map_cons, List.map_nil]); first | done | rfl | (simp only [List.length_drop, List.length_take]; rfl)) ?_; (with_reducible refine (anchor_Valid.calls k _ _ l0 false _ ?side1 ?side2 A9.out).mono ?_); (case side1 => repeat (first | exact (Kd.C_below HR0.out HB.out) | (with_reducible refine Kd.C_alloc ?_ _) | (with_reducible refine Kd.C_drewN ?_ _) | (with_reducible refine Kd.C_drew ?_))); (case side2 => exact HC0.out); rintro e w74 ⟨rfl, hb⟩; refine ⟨_, rfl, ?_⟩; have n0_ := Aside0.mk (blk_below (g := gb319) (o := .cells #[.int .i64 a1_0, .int .i64 a1_1] 23 (0, 0)) BK319.out hb); have n1_ := Aside0.mk (below_step (by repeat (first | (with_reducible first | exact HB.out | apply below_alloc | apply pw_below_drewN | apply below_drew1 | refine below_set ?_ GE319.out) | exact HB.out)) hb); clear BK319; clear HB; have BK319 := n0_; have HB := n1_; clear n0_ n1_; (try clear hb); (try clear hb2); (try clear hk); (try clear hi)))
      go_ret
      exact ⟨by first | rfl | (simp [errW_none, errW_some] <;> rfl) | (simp [*, errW_none, errW_some] <;> rfl), by repeat (first | (with_reducible first | exact HB.out | apply below_alloc | apply pw_below_drewN | apply below_drew1 | refine below_set ?_ GE319.out) | exact HB.out)⟩

/-- THE ONE PURE STATEMENT of valancelaw12_AnchorSeen: yours. -/
def valancelaw12_AnchorSeen.Pure : Prop := ∀ (l0 : List (S56)) (a1_0 : Int) (a1_1 : Int), l0.length ≤ maxLen → l0.length * 32 ≤ 140737488351232 → (∀ x ∈ l0, (Lit.int .i64 x.f0).wf = true ∧ (Lit.int .i64 x.f1.f0).wf = true ∧ (Lit.int .i64 x.f1.f1).wf = true) → (Lit.int .i64 a1_0).wf = true → (Lit.int .i64 a1_1).wf = true → ∃ k, valancelaw12_AnchorSeen.f k l0 a1_0 a1_1 = some true
theorem valancelaw12_AnchorSeen.walk (P : valancelaw12_AnchorSeen.Pure) (a0 : Option Addr) (cap0 : Nat) (l0 : List (S56)) (a1_0 : Int) (a1_1 : Int) (w : World) (hr0 : Kd.C k56 w a0 l0.length l0) (hc0 : l0.length ≤ cap0) (hm0 : l0.length ≤ maxLen) (y0 : l0.length * 32 ≤ 140737488351232) (hw0 : ∀ x ∈ l0, (Lit.int .i64 x.f0).wf = true ∧ (Lit.int .i64 x.f1.f0).wf = true ∧ (Lit.int .i64 x.f1.f1).wf = true) (w1_0 : (Lit.int .i64 a1_0).wf = true) (w1_1 : (Lit.int .i64 a1_1).wf = true) :
    Calls Try.prog 10 #[.slice a0 l0.length cap0, .agg #[.int .i64 a1_0, .int .i64 a1_1]] w fun e w' => e = .returned (.bool true) ∧ Below w.heap.size w w' := by
  obtain ⟨k, h⟩ := P l0 a1_0 a1_1 hm0 y0 hw0 w1_0 w1_1
  refine (valancelaw12_AnchorSeen.calls k _ _ l0 a1_0 a1_1 true w hr0 hc0 h).mono ?_
  rintro e w' ⟨rfl, hd⟩
  exact ⟨rfl, hd⟩

end Go.Proofs.Ytnmcefpnpfaklab.V
