/- What the functions of this seat answer, as plain Lean functions, and that the calls come to just that (written by a program of this repo, over the kit's printer; Lean checks it). -/
import Derived.Test.YtnmcefpnpfaklaeVx0
import Derived.Test.YtnmcefpnpfaklaeVx1
import Derived.Test.YtnmcefpnpfaklaeVx4
import Derived.Test.YtnmcefpnpfaklaeVx5
import Derived.Test.YtnmcefpnpfaklaeVx6
import Derived.Test.YtnmcefpnpfaklaeVx8
import Derived.Test.YtnmcefpnpfaklaeVx9
import Derived.Test.YtnmcefpnpfaklaeVx11
import Derived.Test.YtnmcefpnpfaklaeVx12
import Derived.Test.YtnmcefpnpfaklaeVx15
import Derived.Test.YtnmcefpnpfaklaeVx17
import Derived.Test.YtnmcefpnpfaklaeVx18
namespace Go.Proofs.Ytnmcefpnpfaklae.V
open Go.RowKit Go.Proofs.Ytnmcefpnpfaklae.Flt Go.Proofs.YtnmcefpnpfaklaeW.PrintWords Go.Proofs.YtnmcefpnpfaklaeW.PrintLast Go.Proofs.YtnmcefpnpfaklaeW.PrintMore
attribute [local go_sem high] run_eql_vpt2 run_neq_vpt2 eqGuard_vpt2 vpt2_zero run_add_vpt2
attribute [local go_sem] max2_int min2_int max_two min_two max_three min_three max_four min_four   -- for this text's walks alone
set_option linter.unusedVariables false
set_option linter.unusedSimpArgs false

attribute [local go_sem high] eqA23
/-! ### valancelaw04_works: function 6 -/
def valancelaw04_works.f  : Option (Bool) := (rect_Of.f 0 0 10 10).bind fun bt241 => ((rect_Of.f 5 5 10 10).bind fun bt246 => ((rect_Meet.f bt241.1 bt241.2.1 bt241.2.2.1 bt241.2.2.2 bt246.1 bt246.2.1 bt246.2.2.1 bt246.2.2.2).bind fun bt251 => (if (bt251.1 == 5 && (bt251.2.1 == 5 && (bt251.2.2.1 == 5 && (bt251.2.2.2 == 5)))) = true then ((rect_Join.f bt241.1 bt241.2.1 bt241.2.2.1 bt241.2.2.2 bt246.1 bt246.2.1 bt246.2.2.1 bt246.2.2.2).bind fun bt256 => ((rect_Of.f 0 0 15 15).bind fun bt260 => (if (bt256.1 == bt260.1 && (bt256.2.1 == bt260.2.1 && (bt256.2.2.1 == bt260.2.2.1 && (bt256.2.2.2 == bt260.2.2.2)))) = true then ((point_Of.f 5 9).bind fun t264 => ((rect_Has.f bt251.1 bt251.2.1 bt251.2.2.1 bt251.2.2.2 t264).bind fun t265 => (if t265 = true then ((point_Of.f 5 10).bind fun t266 => ((rect_Has.f bt251.1 bt251.2.1 bt251.2.2.1 bt251.2.2.2 t266).bind fun t267 => (if t267 = true then (none) else ((rect_In.f bt251.1 bt251.2.1 bt251.2.2.1 bt251.2.2.2 bt241.1 bt241.2.1 bt241.2.2.1 bt241.2.2.2).bind fun t268 => (if t268 = true then ((point_Of.f 5 5).bind fun t269 => ((rect_Move.f bt241.1 bt241.2.1 bt241.2.2.1 bt241.2.2.2 t269).bind fun bt270 => (if (bt270.1 == bt246.1 && (bt270.2.1 == bt246.2.1 && (bt270.2.2.1 == bt246.2.2.1 && (bt270.2.2.2 == bt246.2.2.2)))) = true then ((rect_Outset.f bt241.1 bt241.2.1 bt241.2.2.1 bt241.2.2.2 1 2 3 4).bind fun bt274 => ((rect_Inset.f bt274.1 bt274.2.1 bt274.2.2.1 bt274.2.2.2 1 2 3 4).bind fun bt278 => (if (bt278.1 == bt241.1 && (bt278.2.1 == bt241.2.1 && (bt278.2.2.1 == bt241.2.2.1 && (bt278.2.2.2 == bt241.2.2.2)))) = true then ((rect_Across.f bt241.1 bt241.2.1 bt241.2.2.1 bt241.2.2.2).bind fun bt282 => ((rect_Down.f bt246.1 bt246.2.1 bt246.2.2.1 bt246.2.2.2).bind fun bt284 => ((rect_By.f bt282.1 bt282.2 bt284.1 bt284.2).bind fun bt286 => ((rect_Of.f 0 5 10 10).bind fun bt290 => (some (bt286.1 == bt290.1 && (bt286.2.1 == bt290.2.1 && (bt286.2.2.1 == bt290.2.2.1 && (bt286.2.2.2 == bt290.2.2.2))))))))) else (none)))) else (none)))) else (none)))))) else (none)))) else (none)))) else (none))))
def valancelaw04_works.T4 : Bool × List (List Nat × List Nat) := (true, [([], []), ([], []), ([0, 1], [0, 1]), ([2], [2]), ([3], [3]), ([3], [3]), ([4, 5, 3, 3], [3, 4, 5]), ([6, 3], [3]), ([6, 7, 3], [3, 6, 7]), ([3, 8], [3, 8]), ([9, 7], [9]), ([10], [10]), ([10, 10], [10]), ([11, 12, 12, 10], [10, 11, 12]), ([10, 13], [10, 13]), ([14, 13], [14]), ([15], [15]), ([15, 15], [15]), ([16, 17, 17, 15], [15, 16, 17]), ([18, 15], [15, 18]), ([15, 19], [15, 19]), ([20, 18], [20]), ([21], [21]), ([21], [21]), ([22, 23, 21, 21], [21, 22, 23]), ([21, 24], [21, 24]), ([25, 24], [25]), ([26], [26]), ([26, 26], [26]), ([27, 28, 28, 26], [26, 27, 28]), ([26], [26]), ([29, 30, 26], [26, 29, 30]), ([26, 31], [26, 31]), ([32, 29], [32]), ([33], [33]), ([33], [33]), ([34, 35, 33, 33], [33, 34, 35]), ([33], [33]), ([36, 37, 36, 33], [33, 36, 37]), ([33], [33]), ([38, 39, 33], [33, 38, 39]), ([33, 40], [33, 40]), ([41, 38], [41]), ([42], [42]), ([43, 42, 42], [42, 43]), ([42], [42]), ([45, 44, 42], [42, 45]), ([44, 46, 46, 42], [42, 44, 46]), ([47, 42], [42]), ([47, 48, 42], [42, 47, 48]), ([42, 49], [42, 49]), ([50, 48, 0, 1, 2, 3, 4, 5, 6, 7, 8, 9, 10, 11, 12, 13, 14, 15, 16, 17, 18, 19, 20, 21, 22, 23, 24, 25, 26, 27, 28, 29, 30, 31, 32, 33, 34, 35, 36, 37, 38, 39, 40, 41, 42, 43, 44, 45, 46, 47, 48, 49, 50], [50])])
def valancelaw04_works.B4 : List Nat := [0, 0, 3, 7, 15, 15, 63, 127, 255, 511, 1023, 2047, 2047, 8191, 16383, 32767, 65535, 65535, 262143, 524287, 1048575, 2097151, 4194303, 4194303, 16777215, 33554431, 67108863, 134217727, 134217727, 536870911, 134217727, 2147483647, 4294967295, 8589934591, 17179869183, 17179869183, 68719476735, 17179869183, 274877906943, 17179869183, 1099511627775, 2199023255551, 4398046511103, 8796093022207, 17592186044415, 8796093022207, 70368744177663, 140737488355327, 281474976710655, 562949953421311, 1125899906842623, 2251799813685247]
theorem valancelaw04_works.tab4 : rtab .any (opsOf Try.f6 4) = valancelaw04_works.T4 := by kernel_rfl
theorem valancelaw04_works.bits4 : waitsOk valancelaw04_works.T4.2 valancelaw04_works.B4 = true := by kernel_rfl
set_option maxHeartbeats 8000000 in
set_option maxRecDepth 100000 in
theorem valancelaw04_works.calls  (r : Bool) (w : World) (h : valancelaw04_works.f  = some r) :
    Calls Try.prog 6 #[] w fun e w' => e = .returned (.bool r) ∧ Below w.heap.size w w' := by
  have hu23 := Try.underlying23
  have hu24 := Try.underlying24
  have HB := Aside0.mk (Below.refl w.heap.size w)
  have H : ((rect_Of.f 0 0 10 10).bind fun bt241 => ((rect_Of.f 5 5 10 10).bind fun bt246 => ((rect_Meet.f bt241.1 bt241.2.1 bt241.2.2.1 bt241.2.2.2 bt246.1 bt246.2.1 bt246.2.2.1 bt246.2.2.2).bind fun bt251 => (if (bt251.1 == 5 && (bt251.2.1 == 5 && (bt251.2.2.1 == 5 && (bt251.2.2.2 == 5)))) = true then ((rect_Join.f bt241.1 bt241.2.1 bt241.2.2.1 bt241.2.2.2 bt246.1 bt246.2.1 bt246.2.2.1 bt246.2.2.2).bind fun bt256 => ((rect_Of.f 0 0 15 15).bind fun bt260 => (if (bt256.1 == bt260.1 && (bt256.2.1 == bt260.2.1 && (bt256.2.2.1 == bt260.2.2.1 && (bt256.2.2.2 == bt260.2.2.2)))) = true then ((point_Of.f 5 9).bind fun t264 => ((rect_Has.f bt251.1 bt251.2.1 bt251.2.2.1 bt251.2.2.2 t264).bind fun t265 => (if t265 = true then ((point_Of.f 5 10).bind fun t266 => ((rect_Has.f bt251.1 bt251.2.1 bt251.2.2.1 bt251.2.2.2 t266).bind fun t267 => (if t267 = true then (none) else ((rect_In.f bt251.1 bt251.2.1 bt251.2.2.1 bt251.2.2.2 bt241.1 bt241.2.1 bt241.2.2.1 bt241.2.2.2).bind fun t268 => (if t268 = true then ((point_Of.f 5 5).bind fun t269 => ((rect_Move.f bt241.1 bt241.2.1 bt241.2.2.1 bt241.2.2.2 t269).bind fun bt270 => (if (bt270.1 == bt246.1 && (bt270.2.1 == bt246.2.1 && (bt270.2.2.1 == bt246.2.2.1 && (bt270.2.2.2 == bt246.2.2.2)))) = true then ((rect_Outset.f bt241.1 bt241.2.1 bt241.2.2.1 bt241.2.2.2 1 2 3 4).bind fun bt274 => ((rect_Inset.f bt274.1 bt274.2.1 bt274.2.2.1 bt274.2.2.2 1 2 3 4).bind fun bt278 => (if (bt278.1 == bt241.1 && (bt278.2.1 == bt241.2.1 && (bt278.2.2.1 == bt241.2.2.1 && (bt278.2.2.2 == bt241.2.2.2)))) = true then ((rect_Across.f bt241.1 bt241.2.1 bt241.2.2.1 bt241.2.2.2).bind fun bt282 => ((rect_Down.f bt246.1 bt246.2.1 bt246.2.2.1 bt246.2.2.2).bind fun bt284 => ((rect_By.f bt282.1 bt282.2 bt284.1 bt284.2).bind fun bt286 => ((rect_Of.f 0 5 10 10).bind fun bt290 => (some (bt286.1 == bt290.1 && (bt286.2.1 == bt290.2.1 && (bt286.2.2.1 == bt290.2.2.1 && (bt286.2.2.2 == bt290.2.2.2))))))))) else (none)))) else (none)))) else (none)))))) else (none)))) else (none)))) else (none))))) = some r := h
  clear h
  replace H := Option.bind_eq_some_iff.mp H
  obtain ⟨⟨t241, t242, t243, t244⟩, A10, H⟩ := H
  replace H : ((rect_Of.f 5 5 10 10).bind fun bt246 => ((rect_Meet.f t241 t242 t243 t244 bt246.1 bt246.2.1 bt246.2.2.1 bt246.2.2.2).bind fun bt251 => (if (bt251.1 == 5 && (bt251.2.1 == 5 && (bt251.2.2.1 == 5 && (bt251.2.2.2 == 5)))) = true then ((rect_Join.f t241 t242 t243 t244 bt246.1 bt246.2.1 bt246.2.2.1 bt246.2.2.2).bind fun bt256 => ((rect_Of.f 0 0 15 15).bind fun bt260 => (if (bt256.1 == bt260.1 && (bt256.2.1 == bt260.2.1 && (bt256.2.2.1 == bt260.2.2.1 && (bt256.2.2.2 == bt260.2.2.2)))) = true then ((point_Of.f 5 9).bind fun t264 => ((rect_Has.f bt251.1 bt251.2.1 bt251.2.2.1 bt251.2.2.2 t264).bind fun t265 => (if t265 = true then ((point_Of.f 5 10).bind fun t266 => ((rect_Has.f bt251.1 bt251.2.1 bt251.2.2.1 bt251.2.2.2 t266).bind fun t267 => (if t267 = true then (none) else ((rect_In.f bt251.1 bt251.2.1 bt251.2.2.1 bt251.2.2.2 t241 t242 t243 t244).bind fun t268 => (if t268 = true then ((point_Of.f 5 5).bind fun t269 => ((rect_Move.f t241 t242 t243 t244 t269).bind fun bt270 => (if (bt270.1 == bt246.1 && (bt270.2.1 == bt246.2.1 && (bt270.2.2.1 == bt246.2.2.1 && (bt270.2.2.2 == bt246.2.2.2)))) = true then ((rect_Outset.f t241 t242 t243 t244 1 2 3 4).bind fun bt274 => ((rect_Inset.f bt274.1 bt274.2.1 bt274.2.2.1 bt274.2.2.2 1 2 3 4).bind fun bt278 => (if (bt278.1 == t241 && (bt278.2.1 == t242 && (bt278.2.2.1 == t243 && (bt278.2.2.2 == t244)))) = true then ((rect_Across.f t241 t242 t243 t244).bind fun bt282 => ((rect_Down.f bt246.1 bt246.2.1 bt246.2.2.1 bt246.2.2.2).bind fun bt284 => ((rect_By.f bt282.1 bt282.2 bt284.1 bt284.2).bind fun bt286 => ((rect_Of.f 0 5 10 10).bind fun bt290 => (some (bt286.1 == bt290.1 && (bt286.2.1 == bt290.2.1 && (bt286.2.2.1 == bt290.2.2.1 && (bt286.2.2.2 == bt290.2.2.2))))))))) else (none)))) else (none)))) else (none)))))) else (none)))) else (none)))) else (none)))) = some r := H
  have A1 := Aside0.mk A10
  clear A10
  replace H := Option.bind_eq_some_iff.mp H
  obtain ⟨⟨t246, t247, t248, t249⟩, A20, H⟩ := H
  replace H : ((rect_Meet.f t241 t242 t243 t244 t246 t247 t248 t249).bind fun bt251 => (if (bt251.1 == 5 && (bt251.2.1 == 5 && (bt251.2.2.1 == 5 && (bt251.2.2.2 == 5)))) = true then ((rect_Join.f t241 t242 t243 t244 t246 t247 t248 t249).bind fun bt256 => ((rect_Of.f 0 0 15 15).bind fun bt260 => (if (bt256.1 == bt260.1 && (bt256.2.1 == bt260.2.1 && (bt256.2.2.1 == bt260.2.2.1 && (bt256.2.2.2 == bt260.2.2.2)))) = true then ((point_Of.f 5 9).bind fun t264 => ((rect_Has.f bt251.1 bt251.2.1 bt251.2.2.1 bt251.2.2.2 t264).bind fun t265 => (if t265 = true then ((point_Of.f 5 10).bind fun t266 => ((rect_Has.f bt251.1 bt251.2.1 bt251.2.2.1 bt251.2.2.2 t266).bind fun t267 => (if t267 = true then (none) else ((rect_In.f bt251.1 bt251.2.1 bt251.2.2.1 bt251.2.2.2 t241 t242 t243 t244).bind fun t268 => (if t268 = true then ((point_Of.f 5 5).bind fun t269 => ((rect_Move.f t241 t242 t243 t244 t269).bind fun bt270 => (if (bt270.1 == t246 && (bt270.2.1 == t247 && (bt270.2.2.1 == t248 && (bt270.2.2.2 == t249)))) = true then ((rect_Outset.f t241 t242 t243 t244 1 2 3 4).bind fun bt274 => ((rect_Inset.f bt274.1 bt274.2.1 bt274.2.2.1 bt274.2.2.2 1 2 3 4).bind fun bt278 => (if (bt278.1 == t241 && (bt278.2.1 == t242 && (bt278.2.2.1 == t243 && (bt278.2.2.2 == t244)))) = true then ((rect_Across.f t241 t242 t243 t244).bind fun bt282 => ((rect_Down.f t246 t247 t248 t249).bind fun bt284 => ((rect_By.f bt282.1 bt282.2 bt284.1 bt284.2).bind fun bt286 => ((rect_Of.f 0 5 10 10).bind fun bt290 => (some (bt286.1 == bt290.1 && (bt286.2.1 == bt290.2.1 && (bt286.2.2.1 == bt290.2.2.1 && (bt286.2.2.2 == bt290.2.2.2))))))))) else (none)))) else (none)))) else (none)))))) else (none)))) else (none)))) else (none))) = some r := H
  have A2 := Aside0.mk A20
  clear A20
  replace H := Option.bind_eq_some_iff.mp H
  obtain ⟨⟨t251, t252, t253, t254⟩, A30, H⟩ := H
  replace H : (if (t251 == 5 && (t252 == 5 && (t253 == 5 && (t254 == 5)))) = true then ((rect_Join.f t241 t242 t243 t244 t246 t247 t248 t249).bind fun bt256 => ((rect_Of.f 0 0 15 15).bind fun bt260 => (if (bt256.1 == bt260.1 && (bt256.2.1 == bt260.2.1 && (bt256.2.2.1 == bt260.2.2.1 && (bt256.2.2.2 == bt260.2.2.2)))) = true then ((point_Of.f 5 9).bind fun t264 => ((rect_Has.f t251 t252 t253 t254 t264).bind fun t265 => (if t265 = true then ((point_Of.f 5 10).bind fun t266 => ((rect_Has.f t251 t252 t253 t254 t266).bind fun t267 => (if t267 = true then (none) else ((rect_In.f t251 t252 t253 t254 t241 t242 t243 t244).bind fun t268 => (if t268 = true then ((point_Of.f 5 5).bind fun t269 => ((rect_Move.f t241 t242 t243 t244 t269).bind fun bt270 => (if (bt270.1 == t246 && (bt270.2.1 == t247 && (bt270.2.2.1 == t248 && (bt270.2.2.2 == t249)))) = true then ((rect_Outset.f t241 t242 t243 t244 1 2 3 4).bind fun bt274 => ((rect_Inset.f bt274.1 bt274.2.1 bt274.2.2.1 bt274.2.2.2 1 2 3 4).bind fun bt278 => (if (bt278.1 == t241 && (bt278.2.1 == t242 && (bt278.2.2.1 == t243 && (bt278.2.2.2 == t244)))) = true then ((rect_Across.f t241 t242 t243 t244).bind fun bt282 => ((rect_Down.f t246 t247 t248 t249).bind fun bt284 => ((rect_By.f bt282.1 bt282.2 bt284.1 bt284.2).bind fun bt286 => ((rect_Of.f 0 5 10 10).bind fun bt290 => (some (bt286.1 == bt290.1 && (bt286.2.1 == bt290.2.1 && (bt286.2.2.1 == bt290.2.2.1 && (bt286.2.2.2 == bt290.2.2.2))))))))) else (none)))) else (none)))) else (none)))))) else (none)))) else (none)))) else (none)) = some r := H
  have A3 := Aside0.mk A30
  clear A30
  by_cases c4 : (t251 == 5 && (t252 == 5 && (t253 == 5 && (t254 == 5)))) = true
  · rw [if_pos c4] at H
    have c4b0 : (t251 == 5 && (t252 == 5 && (t253 == 5 && (t254 == 5)))) = true := c4
    (try (have c4b1 : decide (t251 = 5 && (t252 == 5 && (t253 == 5 && (t254 == 5)))) = true := by simpa using c4))
    (try (have c4b2 : (t251 == 5 && (t252 == 5 && (t253 == 5 && (t254 == 5)))) = true := by simpa using c4))
    clear c4
    replace H := Option.bind_eq_some_iff.mp H
    obtain ⟨⟨t256, t257, t258, t259⟩, A50, H⟩ := H
    replace H : ((rect_Of.f 0 0 15 15).bind fun bt260 => (if (t256 == bt260.1 && (t257 == bt260.2.1 && (t258 == bt260.2.2.1 && (t259 == bt260.2.2.2)))) = true then ((point_Of.f 5 9).bind fun t264 => ((rect_Has.f t251 t252 t253 t254 t264).bind fun t265 => (if t265 = true then ((point_Of.f 5 10).bind fun t266 => ((rect_Has.f t251 t252 t253 t254 t266).bind fun t267 => (if t267 = true then (none) else ((rect_In.f t251 t252 t253 t254 t241 t242 t243 t244).bind fun t268 => (if t268 = true then ((point_Of.f 5 5).bind fun t269 => ((rect_Move.f t241 t242 t243 t244 t269).bind fun bt270 => (if (bt270.1 == t246 && (bt270.2.1 == t247 && (bt270.2.2.1 == t248 && (bt270.2.2.2 == t249)))) = true then ((rect_Outset.f t241 t242 t243 t244 1 2 3 4).bind fun bt274 => ((rect_Inset.f bt274.1 bt274.2.1 bt274.2.2.1 bt274.2.2.2 1 2 3 4).bind fun bt278 => (if (bt278.1 == t241 && (bt278.2.1 == t242 && (bt278.2.2.1 == t243 && (bt278.2.2.2 == t244)))) = true then ((rect_Across.f t241 t242 t243 t244).bind fun bt282 => ((rect_Down.f t246 t247 t248 t249).bind fun bt284 => ((rect_By.f bt282.1 bt282.2 bt284.1 bt284.2).bind fun bt286 => ((rect_Of.f 0 5 10 10).bind fun bt290 => (some (bt286.1 == bt290.1 && (bt286.2.1 == bt290.2.1 && (bt286.2.2.1 == bt290.2.2.1 && (bt286.2.2.2 == bt290.2.2.2))))))))) else (none)))) else (none)))) else (none)))))) else (none)))) else (none))) = some r := H
    have A5 := Aside0.mk A50
    clear A50
    replace H := Option.bind_eq_some_iff.mp H
    obtain ⟨⟨t260, t261, t262, t263⟩, A60, H⟩ := H
    replace H : (if (t256 == t260 && (t257 == t261 && (t258 == t262 && (t259 == t263)))) = true then ((point_Of.f 5 9).bind fun t264 => ((rect_Has.f t251 t252 t253 t254 t264).bind fun t265 => (if t265 = true then ((point_Of.f 5 10).bind fun t266 => ((rect_Has.f t251 t252 t253 t254 t266).bind fun t267 => (if t267 = true then (none) else ((rect_In.f t251 t252 t253 t254 t241 t242 t243 t244).bind fun t268 => (if t268 = true then ((point_Of.f 5 5).bind fun t269 => ((rect_Move.f t241 t242 t243 t244 t269).bind fun bt270 => (if (bt270.1 == t246 && (bt270.2.1 == t247 && (bt270.2.2.1 == t248 && (bt270.2.2.2 == t249)))) = true then ((rect_Outset.f t241 t242 t243 t244 1 2 3 4).bind fun bt274 => ((rect_Inset.f bt274.1 bt274.2.1 bt274.2.2.1 bt274.2.2.2 1 2 3 4).bind fun bt278 => (if (bt278.1 == t241 && (bt278.2.1 == t242 && (bt278.2.2.1 == t243 && (bt278.2.2.2 == t244)))) = true then ((rect_Across.f t241 t242 t243 t244).bind fun bt282 => ((rect_Down.f t246 t247 t248 t249).bind fun bt284 => ((rect_By.f bt282.1 bt282.2 bt284.1 bt284.2).bind fun bt286 => ((rect_Of.f 0 5 10 10).bind fun bt290 => (some (bt286.1 == bt290.1 && (bt286.2.1 == bt290.2.1 && (bt286.2.2.1 == bt290.2.2.1 && (bt286.2.2.2 == bt290.2.2.2))))))))) else (none)))) else (none)))) else (none)))))) else (none)))) else (none)) = some r := H
    have A6 := Aside0.mk A60
    clear A60
    by_cases c7 : (t256 == t260 && (t257 == t261 && (t258 == t262 && (t259 == t263)))) = true
    · rw [if_pos c7] at H
      have c7b0 : (t256 == t260 && (t257 == t261 && (t258 == t262 && (t259 == t263)))) = true := c7
      (try (have c7b1 : decide (t256 = t260 && (t257 == t261 && (t258 == t262 && (t259 == t263)))) = true := by simpa using c7))
      (try (have c7b2 : (t256 == t260 && (t257 == t261 && (t258 == t262 && (t259 == t263)))) = true := by simpa using c7))
      clear c7
      replace H := Option.bind_eq_some_iff.mp H
      obtain ⟨t264, A80, H⟩ := H
      replace H : ((rect_Has.f t251 t252 t253 t254 t264).bind fun t265 => (if t265 = true then ((point_Of.f 5 10).bind fun t266 => ((rect_Has.f t251 t252 t253 t254 t266).bind fun t267 => (if t267 = true then (none) else ((rect_In.f t251 t252 t253 t254 t241 t242 t243 t244).bind fun t268 => (if t268 = true then ((point_Of.f 5 5).bind fun t269 => ((rect_Move.f t241 t242 t243 t244 t269).bind fun bt270 => (if (bt270.1 == t246 && (bt270.2.1 == t247 && (bt270.2.2.1 == t248 && (bt270.2.2.2 == t249)))) = true then ((rect_Outset.f t241 t242 t243 t244 1 2 3 4).bind fun bt274 => ((rect_Inset.f bt274.1 bt274.2.1 bt274.2.2.1 bt274.2.2.2 1 2 3 4).bind fun bt278 => (if (bt278.1 == t241 && (bt278.2.1 == t242 && (bt278.2.2.1 == t243 && (bt278.2.2.2 == t244)))) = true then ((rect_Across.f t241 t242 t243 t244).bind fun bt282 => ((rect_Down.f t246 t247 t248 t249).bind fun bt284 => ((rect_By.f bt282.1 bt282.2 bt284.1 bt284.2).bind fun bt286 => ((rect_Of.f 0 5 10 10).bind fun bt290 => (some (bt286.1 == bt290.1 && (bt286.2.1 == bt290.2.1 && (bt286.2.2.1 == bt290.2.2.1 && (bt286.2.2.2 == bt290.2.2.2))))))))) else (none)))) else (none)))) else (none)))))) else (none))) = some r := H
      have A8 := Aside0.mk A80
      clear A80
      replace H := Option.bind_eq_some_iff.mp H
      obtain ⟨t265, A90, H⟩ := H
      replace H : (if t265 = true then ((point_Of.f 5 10).bind fun t266 => ((rect_Has.f t251 t252 t253 t254 t266).bind fun t267 => (if t267 = true then (none) else ((rect_In.f t251 t252 t253 t254 t241 t242 t243 t244).bind fun t268 => (if t268 = true then ((point_Of.f 5 5).bind fun t269 => ((rect_Move.f t241 t242 t243 t244 t269).bind fun bt270 => (if (bt270.1 == t246 && (bt270.2.1 == t247 && (bt270.2.2.1 == t248 && (bt270.2.2.2 == t249)))) = true then ((rect_Outset.f t241 t242 t243 t244 1 2 3 4).bind fun bt274 => ((rect_Inset.f bt274.1 bt274.2.1 bt274.2.2.1 bt274.2.2.2 1 2 3 4).bind fun bt278 => (if (bt278.1 == t241 && (bt278.2.1 == t242 && (bt278.2.2.1 == t243 && (bt278.2.2.2 == t244)))) = true then ((rect_Across.f t241 t242 t243 t244).bind fun bt282 => ((rect_Down.f t246 t247 t248 t249).bind fun bt284 => ((rect_By.f bt282.1 bt282.2 bt284.1 bt284.2).bind fun bt286 => ((rect_Of.f 0 5 10 10).bind fun bt290 => (some (bt286.1 == bt290.1 && (bt286.2.1 == bt290.2.1 && (bt286.2.2.1 == bt290.2.2.1 && (bt286.2.2.2 == bt290.2.2.2))))))))) else (none)))) else (none)))) else (none)))))) else (none)) = some r := H
      have A9 := Aside0.mk A90
      clear A90
      by_cases c10 : t265 = true
      · subst c10
        have H1 : ((point_Of.f 5 10).bind fun t266 => ((rect_Has.f t251 t252 t253 t254 t266).bind fun t267 => (if t267 = true then (none) else ((rect_In.f t251 t252 t253 t254 t241 t242 t243 t244).bind fun t268 => (if t268 = true then ((point_Of.f 5 5).bind fun t269 => ((rect_Move.f t241 t242 t243 t244 t269).bind fun bt270 => (if (bt270.1 == t246 && (bt270.2.1 == t247 && (bt270.2.2.1 == t248 && (bt270.2.2.2 == t249)))) = true then ((rect_Outset.f t241 t242 t243 t244 1 2 3 4).bind fun bt274 => ((rect_Inset.f bt274.1 bt274.2.1 bt274.2.2.1 bt274.2.2.2 1 2 3 4).bind fun bt278 => (if (bt278.1 == t241 && (bt278.2.1 == t242 && (bt278.2.2.1 == t243 && (bt278.2.2.2 == t244)))) = true then ((rect_Across.f t241 t242 t243 t244).bind fun bt282 => ((rect_Down.f t246 t247 t248 t249).bind fun bt284 => ((rect_By.f bt282.1 bt282.2 bt284.1 bt284.2).bind fun bt286 => ((rect_Of.f 0 5 10 10).bind fun bt290 => (some (bt286.1 == bt290.1 && (bt286.2.1 == bt290.2.1 && (bt286.2.2.1 == bt290.2.2.1 && (bt286.2.2.2 == bt290.2.2.2))))))))) else (none)))) else (none)))) else (none)))))) = some r := by rw [if_pos rfl] at H; exact H
        clear H
        have H := H1
        clear H1
        replace H := Option.bind_eq_some_iff.mp H
        obtain ⟨t266, A110, H⟩ := H
        replace H : ((rect_Has.f t251 t252 t253 t254 t266).bind fun t267 => (if t267 = true then (none) else ((rect_In.f t251 t252 t253 t254 t241 t242 t243 t244).bind fun t268 => (if t268 = true then ((point_Of.f 5 5).bind fun t269 => ((rect_Move.f t241 t242 t243 t244 t269).bind fun bt270 => (if (bt270.1 == t246 && (bt270.2.1 == t247 && (bt270.2.2.1 == t248 && (bt270.2.2.2 == t249)))) = true then ((rect_Outset.f t241 t242 t243 t244 1 2 3 4).bind fun bt274 => ((rect_Inset.f bt274.1 bt274.2.1 bt274.2.2.1 bt274.2.2.2 1 2 3 4).bind fun bt278 => (if (bt278.1 == t241 && (bt278.2.1 == t242 && (bt278.2.2.1 == t243 && (bt278.2.2.2 == t244)))) = true then ((rect_Across.f t241 t242 t243 t244).bind fun bt282 => ((rect_Down.f t246 t247 t248 t249).bind fun bt284 => ((rect_By.f bt282.1 bt282.2 bt284.1 bt284.2).bind fun bt286 => ((rect_Of.f 0 5 10 10).bind fun bt290 => (some (bt286.1 == bt290.1 && (bt286.2.1 == bt290.2.1 && (bt286.2.2.1 == bt290.2.2.1 && (bt286.2.2.2 == bt290.2.2.2))))))))) else (none)))) else (none)))) else (none))))) = some r := H
        have A11 := Aside0.mk A110
        clear A110
        replace H := Option.bind_eq_some_iff.mp H
        obtain ⟨t267, A120, H⟩ := H
        replace H : (if t267 = true then (none) else ((rect_In.f t251 t252 t253 t254 t241 t242 t243 t244).bind fun t268 => (if t268 = true then ((point_Of.f 5 5).bind fun t269 => ((rect_Move.f t241 t242 t243 t244 t269).bind fun bt270 => (if (bt270.1 == t246 && (bt270.2.1 == t247 && (bt270.2.2.1 == t248 && (bt270.2.2.2 == t249)))) = true then ((rect_Outset.f t241 t242 t243 t244 1 2 3 4).bind fun bt274 => ((rect_Inset.f bt274.1 bt274.2.1 bt274.2.2.1 bt274.2.2.2 1 2 3 4).bind fun bt278 => (if (bt278.1 == t241 && (bt278.2.1 == t242 && (bt278.2.2.1 == t243 && (bt278.2.2.2 == t244)))) = true then ((rect_Across.f t241 t242 t243 t244).bind fun bt282 => ((rect_Down.f t246 t247 t248 t249).bind fun bt284 => ((rect_By.f bt282.1 bt282.2 bt284.1 bt284.2).bind fun bt286 => ((rect_Of.f 0 5 10 10).bind fun bt290 => (some (bt286.1 == bt290.1 && (bt286.2.1 == bt290.2.1 && (bt286.2.2.1 == bt290.2.2.1 && (bt286.2.2.2 == bt290.2.2.2))))))))) else (none)))) else (none)))) else (none)))) = some r := H
        have A12 := Aside0.mk A120
        clear A120
        by_cases c13 : t267 = true
        · subst c13
          have H1 : (none) = some r := by rw [if_pos rfl] at H; exact H
          clear H
          have H := H1
          clear H1
          exact absurd H (by simp)
        · replace c13 := Bool.eq_false_iff.mpr c13
          subst c13
          have H1 : ((rect_In.f t251 t252 t253 t254 t241 t242 t243 t244).bind fun t268 => (if t268 = true then ((point_Of.f 5 5).bind fun t269 => ((rect_Move.f t241 t242 t243 t244 t269).bind fun bt270 => (if (bt270.1 == t246 && (bt270.2.1 == t247 && (bt270.2.2.1 == t248 && (bt270.2.2.2 == t249)))) = true then ((rect_Outset.f t241 t242 t243 t244 1 2 3 4).bind fun bt274 => ((rect_Inset.f bt274.1 bt274.2.1 bt274.2.2.1 bt274.2.2.2 1 2 3 4).bind fun bt278 => (if (bt278.1 == t241 && (bt278.2.1 == t242 && (bt278.2.2.1 == t243 && (bt278.2.2.2 == t244)))) = true then ((rect_Across.f t241 t242 t243 t244).bind fun bt282 => ((rect_Down.f t246 t247 t248 t249).bind fun bt284 => ((rect_By.f bt282.1 bt282.2 bt284.1 bt284.2).bind fun bt286 => ((rect_Of.f 0 5 10 10).bind fun bt290 => (some (bt286.1 == bt290.1 && (bt286.2.1 == bt290.2.1 && (bt286.2.2.1 == bt290.2.2.1 && (bt286.2.2.2 == bt290.2.2.2))))))))) else (none)))) else (none)))) else (none))) = some r := by rw [if_neg (show ¬ (false = true) by decide)] at H; exact H
          clear H
          have H := H1
          clear H1
          replace H := Option.bind_eq_some_iff.mp H
          obtain ⟨t268, A140, H⟩ := H
          replace H : (if t268 = true then ((point_Of.f 5 5).bind fun t269 => ((rect_Move.f t241 t242 t243 t244 t269).bind fun bt270 => (if (bt270.1 == t246 && (bt270.2.1 == t247 && (bt270.2.2.1 == t248 && (bt270.2.2.2 == t249)))) = true then ((rect_Outset.f t241 t242 t243 t244 1 2 3 4).bind fun bt274 => ((rect_Inset.f bt274.1 bt274.2.1 bt274.2.2.1 bt274.2.2.2 1 2 3 4).bind fun bt278 => (if (bt278.1 == t241 && (bt278.2.1 == t242 && (bt278.2.2.1 == t243 && (bt278.2.2.2 == t244)))) = true then ((rect_Across.f t241 t242 t243 t244).bind fun bt282 => ((rect_Down.f t246 t247 t248 t249).bind fun bt284 => ((rect_By.f bt282.1 bt282.2 bt284.1 bt284.2).bind fun bt286 => ((rect_Of.f 0 5 10 10).bind fun bt290 => (some (bt286.1 == bt290.1 && (bt286.2.1 == bt290.2.1 && (bt286.2.2.1 == bt290.2.2.1 && (bt286.2.2.2 == bt290.2.2.2))))))))) else (none)))) else (none)))) else (none)) = some r := H
          have A14 := Aside0.mk A140
          clear A140
          by_cases c15 : t268 = true
          · subst c15
            have H1 : ((point_Of.f 5 5).bind fun t269 => ((rect_Move.f t241 t242 t243 t244 t269).bind fun bt270 => (if (bt270.1 == t246 && (bt270.2.1 == t247 && (bt270.2.2.1 == t248 && (bt270.2.2.2 == t249)))) = true then ((rect_Outset.f t241 t242 t243 t244 1 2 3 4).bind fun bt274 => ((rect_Inset.f bt274.1 bt274.2.1 bt274.2.2.1 bt274.2.2.2 1 2 3 4).bind fun bt278 => (if (bt278.1 == t241 && (bt278.2.1 == t242 && (bt278.2.2.1 == t243 && (bt278.2.2.2 == t244)))) = true then ((rect_Across.f t241 t242 t243 t244).bind fun bt282 => ((rect_Down.f t246 t247 t248 t249).bind fun bt284 => ((rect_By.f bt282.1 bt282.2 bt284.1 bt284.2).bind fun bt286 => ((rect_Of.f 0 5 10 10).bind fun bt290 => (some (bt286.1 == bt290.1 && (bt286.2.1 == bt290.2.1 && (bt286.2.2.1 == bt290.2.2.1 && (bt286.2.2.2 == bt290.2.2.2))))))))) else (none)))) else (none)))) = some r := by rw [if_pos rfl] at H; exact H
            clear H
            have H := H1
            clear H1
            replace H := Option.bind_eq_some_iff.mp H
            obtain ⟨t269, A160, H⟩ := H
            replace H : ((rect_Move.f t241 t242 t243 t244 t269).bind fun bt270 => (if (bt270.1 == t246 && (bt270.2.1 == t247 && (bt270.2.2.1 == t248 && (bt270.2.2.2 == t249)))) = true then ((rect_Outset.f t241 t242 t243 t244 1 2 3 4).bind fun bt274 => ((rect_Inset.f bt274.1 bt274.2.1 bt274.2.2.1 bt274.2.2.2 1 2 3 4).bind fun bt278 => (if (bt278.1 == t241 && (bt278.2.1 == t242 && (bt278.2.2.1 == t243 && (bt278.2.2.2 == t244)))) = true then ((rect_Across.f t241 t242 t243 t244).bind fun bt282 => ((rect_Down.f t246 t247 t248 t249).bind fun bt284 => ((rect_By.f bt282.1 bt282.2 bt284.1 bt284.2).bind fun bt286 => ((rect_Of.f 0 5 10 10).bind fun bt290 => (some (bt286.1 == bt290.1 && (bt286.2.1 == bt290.2.1 && (bt286.2.2.1 == bt290.2.2.1 && (bt286.2.2.2 == bt290.2.2.2))))))))) else (none)))) else (none))) = some r := H
            have A16 := Aside0.mk A160
            clear A160
            replace H := Option.bind_eq_some_iff.mp H
            obtain ⟨⟨t270, t271, t272, t273⟩, A170, H⟩ := H
            replace H : (if (t270 == t246 && (t271 == t247 && (t272 == t248 && (t273 == t249)))) = true then ((rect_Outset.f t241 t242 t243 t244 1 2 3 4).bind fun bt274 => ((rect_Inset.f bt274.1 bt274.2.1 bt274.2.2.1 bt274.2.2.2 1 2 3 4).bind fun bt278 => (if (bt278.1 == t241 && (bt278.2.1 == t242 && (bt278.2.2.1 == t243 && (bt278.2.2.2 == t244)))) = true then ((rect_Across.f t241 t242 t243 t244).bind fun bt282 => ((rect_Down.f t246 t247 t248 t249).bind fun bt284 => ((rect_By.f bt282.1 bt282.2 bt284.1 bt284.2).bind fun bt286 => ((rect_Of.f 0 5 10 10).bind fun bt290 => (some (bt286.1 == bt290.1 && (bt286.2.1 == bt290.2.1 && (bt286.2.2.1 == bt290.2.2.1 && (bt286.2.2.2 == bt290.2.2.2))))))))) else (none)))) else (none)) = some r := H
            have A17 := Aside0.mk A170
            clear A170
            by_cases c18 : (t270 == t246 && (t271 == t247 && (t272 == t248 && (t273 == t249)))) = true
            · rw [if_pos c18] at H
              have c18b0 : (t270 == t246 && (t271 == t247 && (t272 == t248 && (t273 == t249)))) = true := c18
              (try (have c18b1 : decide (t270 = t246 && (t271 == t247 && (t272 == t248 && (t273 == t249)))) = true := by simpa using c18))
              (try (have c18b2 : (t270 == t246 && (t271 == t247 && (t272 == t248 && (t273 == t249)))) = true := by simpa using c18))
              clear c18
              replace H := Option.bind_eq_some_iff.mp H
              obtain ⟨⟨t274, t275, t276, t277⟩, A190, H⟩ := H
              replace H : ((rect_Inset.f t274 t275 t276 t277 1 2 3 4).bind fun bt278 => (if (bt278.1 == t241 && (bt278.2.1 == t242 && (bt278.2.2.1 == t243 && (bt278.2.2.2 == t244)))) = true then ((rect_Across.f t241 t242 t243 t244).bind fun bt282 => ((rect_Down.f t246 t247 t248 t249).bind fun bt284 => ((rect_By.f bt282.1 bt282.2 bt284.1 bt284.2).bind fun bt286 => ((rect_Of.f 0 5 10 10).bind fun bt290 => (some (bt286.1 == bt290.1 && (bt286.2.1 == bt290.2.1 && (bt286.2.2.1 == bt290.2.2.1 && (bt286.2.2.2 == bt290.2.2.2))))))))) else (none))) = some r := H
              have A19 := Aside0.mk A190
              clear A190
              replace H := Option.bind_eq_some_iff.mp H
              obtain ⟨⟨t278, t279, t280, t281⟩, A200, H⟩ := H
              replace H : (if (t278 == t241 && (t279 == t242 && (t280 == t243 && (t281 == t244)))) = true then ((rect_Across.f t241 t242 t243 t244).bind fun bt282 => ((rect_Down.f t246 t247 t248 t249).bind fun bt284 => ((rect_By.f bt282.1 bt282.2 bt284.1 bt284.2).bind fun bt286 => ((rect_Of.f 0 5 10 10).bind fun bt290 => (some (bt286.1 == bt290.1 && (bt286.2.1 == bt290.2.1 && (bt286.2.2.1 == bt290.2.2.1 && (bt286.2.2.2 == bt290.2.2.2))))))))) else (none)) = some r := H
              have A20 := Aside0.mk A200
              clear A200
              by_cases c21 : (t278 == t241 && (t279 == t242 && (t280 == t243 && (t281 == t244)))) = true
              · rw [if_pos c21] at H
                have c21b0 : (t278 == t241 && (t279 == t242 && (t280 == t243 && (t281 == t244)))) = true := c21
                (try (have c21b1 : decide (t278 = t241 && (t279 == t242 && (t280 == t243 && (t281 == t244)))) = true := by simpa using c21))
                (try (have c21b2 : (t278 == t241 && (t279 == t242 && (t280 == t243 && (t281 == t244)))) = true := by simpa using c21))
                clear c21
                replace H := Option.bind_eq_some_iff.mp H
                obtain ⟨⟨t282, t283⟩, A220, H⟩ := H
                replace H : ((rect_Down.f t246 t247 t248 t249).bind fun bt284 => ((rect_By.f t282 t283 bt284.1 bt284.2).bind fun bt286 => ((rect_Of.f 0 5 10 10).bind fun bt290 => (some (bt286.1 == bt290.1 && (bt286.2.1 == bt290.2.1 && (bt286.2.2.1 == bt290.2.2.1 && (bt286.2.2.2 == bt290.2.2.2)))))))) = some r := H
                have A22 := Aside0.mk A220
                clear A220
                replace H := Option.bind_eq_some_iff.mp H
                obtain ⟨⟨t284, t285⟩, A230, H⟩ := H
                replace H : ((rect_By.f t282 t283 t284 t285).bind fun bt286 => ((rect_Of.f 0 5 10 10).bind fun bt290 => (some (bt286.1 == bt290.1 && (bt286.2.1 == bt290.2.1 && (bt286.2.2.1 == bt290.2.2.1 && (bt286.2.2.2 == bt290.2.2.2))))))) = some r := H
                have A23 := Aside0.mk A230
                clear A230
                replace H := Option.bind_eq_some_iff.mp H
                obtain ⟨⟨t286, t287, t288, t289⟩, A240, H⟩ := H
                replace H : ((rect_Of.f 0 5 10 10).bind fun bt290 => (some (t286 == bt290.1 && (t287 == bt290.2.1 && (t288 == bt290.2.2.1 && (t289 == bt290.2.2.2)))))) = some r := H
                have A24 := Aside0.mk A240
                clear A240
                replace H := Option.bind_eq_some_iff.mp H
                obtain ⟨⟨t290, t291, t292, t293⟩, A250, H⟩ := H
                replace H : (some (t286 == t290 && (t287 == t291 && (t288 == t292 && (t289 == t293))))) = some r := H
                have A25 := Aside0.mk A250
                clear A250
                obtain rfl := Option.some.inj H
                go_enter Try.func6, Try.ntmps6
                try go_wp2_with (first | ((with_reducible refine gate_callee (f := 11) rfl ?_); refine goesL_ (some 4) rfl rfl Try.func11 (by kernel_rfl) rfl #[.int .i64 0, .int .i64 0, .int .i64 10, .int .i64 10] rfl (by (try simp only [List.map_toArray, List.map_cons, List.map_nil]); first | done | rfl | (simp only [List.length_drop, List.length_take]; rfl)) ?_; (with_reducible refine (rect_Of.calls 0 0 10 10 t241 t242 t243 t244 _ A1.out).mono ?_); rintro e w26 ⟨rfl, hb⟩; refine ⟨_, rfl, ?_⟩; have n0_ := Aside0.mk (below_step (by repeat (first | (with_reducible first | exact HB.out | apply below_alloc | apply pw_below_drewN | apply below_drew1) | exact HB.out)) hb); clear HB; have HB := n0_; clear n0_; (try clear hb); (try clear hb2); (try clear hk); (try clear hi)) | ((with_reducible refine gate_dst (N := 1) rfl ?_); refine box_event ?hg (N := 1) ?hd (cs := #[.int .i64 0, .int .i64 0, .int .i64 0, .int .i64 0]) (t := 23) ?hr ?_; (case hd => rfl); (case hg => rfl); (case hr => first | (go_simp; done) | (go_simp; rfl)); intro gb245 hg w27 hbox hb; have n0_ := Aside0.mk (below_step (by repeat (first | (with_reducible first | exact HB.out | apply below_alloc | apply pw_below_drewN | apply below_drew1) | exact HB.out)) hb); have n1_ := Aside0.mk (hbox); have n2_ := Aside0.mk ((by rw [hg]; exact (below_size (by repeat (first | (with_reducible first | exact HB.out | apply below_alloc | apply pw_below_drewN | apply below_drew1) | exact HB.out))) : w.heap.size ≤ gb245)); have n3_ := Aside0.mk ((by rw [hg]; exact (below_size (by repeat (first | (with_reducible first | exact HB.out | apply below_alloc | apply pw_below_drewN | apply below_drew1) | exact HB.out))) : w.heap.size ≤ gb245)); clear HB; have HB := n0_; have BK245 := n1_; have GW245 := n2_; have GE245 := n3_; clear n0_ n1_ n2_ n3_; clear hb hbox hg; have hcz28_0 : w27.cell? ⟨gb245, 0, none⟩ = some (.int .i64 0) := (blk_cell BK245.out 0).trans rfl; have hcz28_1 : w27.cell? ⟨gb245, 1, none⟩ = some (.int .i64 0) := (blk_cell BK245.out 1).trans rfl; have hcz28_2 : w27.cell? ⟨gb245, 2, none⟩ = some (.int .i64 0) := (blk_cell BK245.out 2).trans rfl; have hcz28_3 : w27.cell? ⟨gb245, 3, none⟩ = some (.int .i64 0) := (blk_cell BK245.out 3).trans rfl; have hfz28_0 := blk_frozen BK245.out 0; have hfz28_1 := blk_frozen BK245.out 1; have hfz28_2 := blk_frozen BK245.out 2; have hfz28_3 := blk_frozen BK245.out 3) | ((with_reducible refine gate_callee (f := 11) rfl ?_); refine goesL_ (some 5) rfl rfl Try.func11 (by kernel_rfl) rfl #[.int .i64 5, .int .i64 5, .int .i64 10, .int .i64 10] rfl (by (try simp only [List.map_toArray, List.map_cons, List.map_nil]); first | done | rfl | (simp only [List.length_drop, List.length_take]; rfl)) ?_; (with_reducible refine (rect_Of.calls 5 5 10 10 t246 t247 t248 t249 _ A2.out).mono ?_); rintro e w29 ⟨rfl, hb⟩; refine ⟨_, rfl, ?_⟩; have n0_ := Aside0.mk (blk_below (g := gb245) (o := .cells #[.int .i64 t241, .int .i64 t242, .int .i64 t243, .int .i64 t244] 23 (0, 0)) (by (with_reducible repeat (first | refine blk_drewN ?_ _ | refine blk_drew ?_ | refine blk_alloc ?_ _)); refine blk_put (cs := #[.int .i64 t241, .int .i64 t242, .int .i64 t243, .int .i64 0]) ?_ 3 _ rfl; (with_reducible repeat (first | refine blk_drewN ?_ _ | refine blk_drew ?_ | refine blk_alloc ?_ _)); refine blk_put (cs := #[.int .i64 t241, .int .i64 t242, .int .i64 0, .int .i64 0]) ?_ 2 _ rfl; (with_reducible repeat (first | refine blk_drewN ?_ _ | refine blk_drew ?_ | refine blk_alloc ?_ _)); refine blk_put (cs := #[.int .i64 t241, .int .i64 0, .int .i64 0, .int .i64 0]) ?_ 1 _ rfl; (with_reducible repeat (first | refine blk_drewN ?_ _ | refine blk_drew ?_ | refine blk_alloc ?_ _)); refine blk_put (cs := #[.int .i64 0, .int .i64 0, .int .i64 0, .int .i64 0]) ?_ 0 _ rfl; (with_reducible repeat (first | refine blk_drewN ?_ _ | refine blk_drew ?_ | refine blk_alloc ?_ _)); exact BK245.out) hb); have n1_ := Aside0.mk (below_step (by repeat (first | (with_reducible first | exact HB.out | apply below_alloc | apply pw_below_drewN | apply below_drew1 | refine below_set ?_ GE245.out) | exact HB.out)) hb); clear BK245; clear HB; have BK245 := n0_; have HB := n1_; clear n0_ n1_; (try clear hb); (try clear hb2); (try clear hk); (try clear hi)) | ((with_reducible refine gate_dst (N := 2) rfl ?_); refine box_event ?hg (N := 2) ?hd (cs := #[.int .i64 0, .int .i64 0, .int .i64 0, .int .i64 0]) (t := 23) ?hr ?_; (case hd => rfl); (case hg => rfl); (case hr => first | (go_simp; done) | (go_simp; rfl)); intro gb250 hg w30 hbox hb; have n0_ := Aside0.mk (blk_below (g := gb245) (o := .cells #[.int .i64 t241, .int .i64 t242, .int .i64 t243, .int .i64 t244] 23 (0, 0)) (by (with_reducible repeat (first | refine blk_drewN ?_ _ | refine blk_drew ?_ | refine blk_alloc ?_ _)); exact BK245.out) hb); have n1_ := Aside0.mk (below_step (by repeat (first | (with_reducible first | exact HB.out | apply below_alloc | apply pw_below_drewN | apply below_drew1 | refine below_set ?_ GE245.out) | exact HB.out)) hb); have n2_ := Aside0.mk (hbox); have n3_ := Aside0.mk ((by rw [hg]; exact (below_size (by repeat (first | (with_reducible first | exact HB.out | apply below_alloc | apply pw_below_drewN | apply below_drew1 | refine below_set ?_ GE245.out) | exact HB.out))) : w.heap.size ≤ gb250)); have n4_ := Aside0.mk ((by rw [hg]; exact (below_size (by repeat (first | (with_reducible first | exact HB.out | apply below_alloc | apply pw_below_drewN | apply below_drew1 | refine below_set ?_ GE245.out) | exact HB.out))) : w.heap.size ≤ gb250)); have n5_ := Aside0.mk ((by rw [hg]; exact Nat.ne_of_lt (blk_lt (g := gb245) (o := .cells #[.int .i64 t241, .int .i64 t242, .int .i64 t243, .int .i64 t244] 23 (0, 0)) (by (with_reducible repeat (first | refine blk_drewN ?_ _ | refine blk_drew ?_ | refine blk_alloc ?_ _)); exact BK245.out)) : gb245 ≠ gb250)); have n6_ := Aside0.mk ((by rw [hg]; exact Nat.ne_of_gt (blk_lt (g := gb245) (o := .cells #[.int .i64 t241, .int .i64 t242, .int .i64 t243, .int .i64 t244] 23 (0, 0)) (by (with_reducible repeat (first | refine blk_drewN ?_ _ | refine blk_drew ?_ | refine blk_alloc ?_ _)); exact BK245.out)) : gb250 ≠ gb245)); clear BK245; clear HB; have BK245 := n0_; have HB := n1_; have BK250 := n2_; have GW250 := n3_; have GE250 := n4_; have NB245_250 := n5_; have NB250_245 := n6_; clear n0_ n1_ n2_ n3_ n4_ n5_ n6_; clear hb hbox hg; have hnb31 := NB250_245.out; have hnc31 := NB245_250.out; have hcz32_0 : w30.cell? ⟨gb250, 0, none⟩ = some (.int .i64 0) := (blk_cell BK250.out 0).trans rfl; have hcz32_1 : w30.cell? ⟨gb250, 1, none⟩ = some (.int .i64 0) := (blk_cell BK250.out 1).trans rfl; have hcz32_2 : w30.cell? ⟨gb250, 2, none⟩ = some (.int .i64 0) := (blk_cell BK250.out 2).trans rfl; have hcz32_3 : w30.cell? ⟨gb250, 3, none⟩ = some (.int .i64 0) := (blk_cell BK250.out 3).trans rfl; have hfz32_0 := blk_frozen BK250.out 0; have hfz32_1 := blk_frozen BK250.out 1; have hfz32_2 := blk_frozen BK250.out 2; have hfz32_3 := blk_frozen BK250.out 3; have hcz33_0 : w30.cell? ⟨gb245, 0, none⟩ = some (.int .i64 t241) := (blk_cell BK245.out 0).trans rfl; have hcz33_1 : w30.cell? ⟨gb245, 1, none⟩ = some (.int .i64 t242) := (blk_cell BK245.out 1).trans rfl; have hcz33_2 : w30.cell? ⟨gb245, 2, none⟩ = some (.int .i64 t243) := (blk_cell BK245.out 2).trans rfl; have hcz33_3 : w30.cell? ⟨gb245, 3, none⟩ = some (.int .i64 t244) := (blk_cell BK245.out 3).trans rfl; have hfz33_0 := blk_frozen BK245.out 0; have hfz33_1 := blk_frozen BK245.out 1; have hfz33_2 := blk_frozen BK245.out 2; have hfz33_3 := blk_frozen BK245.out 3) | ((with_reducible refine gate_callee (f := 18) rfl ?_); refine goesL_ (some 8) rfl rfl Try.func18 (by kernel_rfl) rfl #[.agg #[.int .i64 t241, .int .i64 t242, .int .i64 t243, .int .i64 t244], .agg #[.int .i64 t246, .int .i64 t247, .int .i64 t248, .int .i64 t249]] rfl (by (try simp only [List.map_toArray, List.map_cons, List.map_nil]); first | done | rfl | (simp only [List.length_drop, List.length_take]; rfl)) ?_; (with_reducible refine (rect_Meet.calls t241 t242 t243 t244 t246 t247 t248 t249 t251 t252 t253 t254 _ A3.out).mono ?_); rintro e w34 ⟨rfl, hb⟩; refine ⟨_, rfl, ?_⟩; have n0_ := Aside0.mk (blk_below (g := gb245) (o := .cells #[.int .i64 t241, .int .i64 t242, .int .i64 t243, .int .i64 t244] 23 (0, 0)) (by (with_reducible repeat (first | refine blk_drewN ?_ _ | refine blk_drew ?_ | refine blk_alloc ?_ _)); refine blk_far ?_ NB245_250.out _; (with_reducible repeat (first | refine blk_drewN ?_ _ | refine blk_drew ?_ | refine blk_alloc ?_ _)); refine blk_far ?_ NB245_250.out _; (with_reducible repeat (first | refine blk_drewN ?_ _ | refine blk_drew ?_ | refine blk_alloc ?_ _)); refine blk_far ?_ NB245_250.out _; (with_reducible repeat (first | refine blk_drewN ?_ _ | refine blk_drew ?_ | refine blk_alloc ?_ _)); refine blk_far ?_ NB245_250.out _; (with_reducible repeat (first | refine blk_drewN ?_ _ | refine blk_drew ?_ | refine blk_alloc ?_ _)); exact BK245.out) hb); have n1_ := Aside0.mk (blk_below (g := gb250) (o := .cells #[.int .i64 t246, .int .i64 t247, .int .i64 t248, .int .i64 t249] 23 (0, 0)) (by (with_reducible repeat (first | refine blk_drewN ?_ _ | refine blk_drew ?_ | refine blk_alloc ?_ _)); refine blk_put (cs := #[.int .i64 t246, .int .i64 t247, .int .i64 t248, .int .i64 0]) ?_ 3 _ rfl; (with_reducible repeat (first | refine blk_drewN ?_ _ | refine blk_drew ?_ | refine blk_alloc ?_ _)); refine blk_put (cs := #[.int .i64 t246, .int .i64 t247, .int .i64 0, .int .i64 0]) ?_ 2 _ rfl; (with_reducible repeat (first | refine blk_drewN ?_ _ | refine blk_drew ?_ | refine blk_alloc ?_ _)); refine blk_put (cs := #[.int .i64 t246, .int .i64 0, .int .i64 0, .int .i64 0]) ?_ 1 _ rfl; (with_reducible repeat (first | refine blk_drewN ?_ _ | refine blk_drew ?_ | refine blk_alloc ?_ _)); refine blk_put (cs := #[.int .i64 0, .int .i64 0, .int .i64 0, .int .i64 0]) ?_ 0 _ rfl; (with_reducible repeat (first | refine blk_drewN ?_ _ | refine blk_drew ?_ | refine blk_alloc ?_ _)); exact BK250.out) hb); have n2_ := Aside0.mk (below_step (by repeat (first | (with_reducible first | exact HB.out | apply below_alloc | apply pw_below_drewN | apply below_drew1 | refine below_set ?_ GE245.out | refine below_set ?_ GE250.out) | exact HB.out)) hb); clear BK245; clear BK250; clear HB; have BK245 := n0_; have BK250 := n1_; have HB := n2_; clear n0_ n1_ n2_; (try clear hb); (try clear hb2); (try clear hk); (try clear hi)) | ((with_reducible refine gate_dst (N := 3) rfl ?_); refine box_event ?hg (N := 3) ?hd (cs := #[.int .i64 0, .int .i64 0, .int .i64 0, .int .i64 0]) (t := 23) ?hr ?_; (case hd => rfl); (case hg => rfl); (case hr => first | (go_simp; done) | (go_simp; rfl)); intro gb255 hg w35 hbox hb; have n0_ := Aside0.mk (blk_below (g := gb245) (o := .cells #[.int .i64 t241, .int .i64 t242, .int .i64 t243, .int .i64 t244] 23 (0, 0)) (by (with_reducible repeat (first | refine blk_drewN ?_ _ | refine blk_drew ?_ | refine blk_alloc ?_ _)); exact BK245.out) hb); have n1_ := Aside0.mk (blk_below (g := gb250) (o := .cells #[.int .i64 t246, .int .i64 t247, .int .i64 t248, .int .i64 t249] 23 (0, 0)) (by (with_reducible repeat (first | refine blk_drewN ?_ _ | refine blk_drew ?_ | refine blk_alloc ?_ _)); exact BK250.out) hb); have n2_ := Aside0.mk (below_step (by repeat (first | (with_reducible first | exact HB.out | apply below_alloc | apply pw_below_drewN | apply below_drew1 | refine below_set ?_ GE245.out | refine below_set ?_ GE250.out) | exact HB.out)) hb); have n3_ := Aside0.mk (hbox); have n4_ := Aside0.mk ((by rw [hg]; exact (below_size (by repeat (first | (with_reducible first | exact HB.out | apply below_alloc | apply pw_below_drewN | apply below_drew1 | refine below_set ?_ GE245.out | refine below_set ?_ GE250.out) | exact HB.out))) : w.heap.size ≤ gb255)); have n5_ := Aside0.mk ((by rw [hg]; exact (below_size (by repeat (first | (with_reducible first | exact HB.out | apply below_alloc | apply pw_below_drewN | apply below_drew1 | refine below_set ?_ GE245.out | refine below_set ?_ GE250.out) | exact HB.out))) : w.heap.size ≤ gb255)); have n6_ := Aside0.mk ((by rw [hg]; exact Nat.ne_of_lt (blk_lt (g := gb245) (o := .cells #[.int .i64 t241, .int .i64 t242, .int .i64 t243, .int .i64 t244] 23 (0, 0)) (by (with_reducible repeat (first | refine blk_drewN ?_ _ | refine blk_drew ?_ | refine blk_alloc ?_ _)); exact BK245.out)) : gb245 ≠ gb255)); have n7_ := Aside0.mk ((by rw [hg]; exact Nat.ne_of_gt (blk_lt (g := gb245) (o := .cells #[.int .i64 t241, .int .i64 t242, .int .i64 t243, .int .i64 t244] 23 (0, 0)) (by (with_reducible repeat (first | refine blk_drewN ?_ _ | refine blk_drew ?_ | refine blk_alloc ?_ _)); exact BK245.out)) : gb255 ≠ gb245)); have n8_ := Aside0.mk ((by rw [hg]; exact Nat.ne_of_lt (blk_lt (g := gb250) (o := .cells #[.int .i64 t246, .int .i64 t247, .int .i64 t248, .int .i64 t249] 23 (0, 0)) (by (with_reducible repeat (first | refine blk_drewN ?_ _ | refine blk_drew ?_ | refine blk_alloc ?_ _)); exact BK250.out)) : gb250 ≠ gb255)); have n9_ := Aside0.mk ((by rw [hg]; exact Nat.ne_of_gt (blk_lt (g := gb250) (o := .cells #[.int .i64 t246, .int .i64 t247, .int .i64 t248, .int .i64 t249] 23 (0, 0)) (by (with_reducible repeat (first | refine blk_drewN ?_ _ | refine blk_drew ?_ | refine blk_alloc ?_ _)); exact BK250.out)) : gb255 ≠ gb250)); clear BK245; clear BK250; clear HB; have BK245 := n0_; have BK250 := n1_; have HB := n2_; have BK255 := n3_; have GW255 := n4_; have GE255 := n5_; have NB245_255 := n6_; have NB255_245 := n7_; have NB250_255 := n8_; have NB255_250 := n9_; clear n0_ n1_ n2_ n3_ n4_ n5_ n6_ n7_ n8_ n9_; clear hb hbox hg; have hnb36 := NB255_245.out; have hnc36 := NB245_255.out; have hnb37 := NB255_250.out; have hnc37 := NB250_255.out; have hcz38_0 : w35.cell? ⟨gb255, 0, none⟩ = some (.int .i64 0) := (blk_cell BK255.out 0).trans rfl; have hcz38_1 : w35.cell? ⟨gb255, 1, none⟩ = some (.int .i64 0) := (blk_cell BK255.out 1).trans rfl; have hcz38_2 : w35.cell? ⟨gb255, 2, none⟩ = some (.int .i64 0) := (blk_cell BK255.out 2).trans rfl; have hcz38_3 : w35.cell? ⟨gb255, 3, none⟩ = some (.int .i64 0) := (blk_cell BK255.out 3).trans rfl; have hfz38_0 := blk_frozen BK255.out 0; have hfz38_1 := blk_frozen BK255.out 1; have hfz38_2 := blk_frozen BK255.out 2; have hfz38_3 := blk_frozen BK255.out 3))
                have n0_ : Aside0 (((((w35.setCell ⟨gb255, 0, none⟩ (.int .i64 t251)).setCell ⟨gb255, 1, none⟩ (.int .i64 t252)).setCell ⟨gb255, 2, none⟩ (.int .i64 t253)).setCell ⟨gb255, 3, none⟩ (.int .i64 t254)).heap[gb245]? = some (.cells #[.int .i64 t241, .int .i64 t242, .int .i64 t243, .int .i64 t244] 23 (0, 0))) := ⟨by (with_reducible repeat (first | refine blk_drewN ?_ _ | refine blk_drew ?_ | refine blk_alloc ?_ _)); refine blk_far ?_ NB245_255.out _; (with_reducible repeat (first | refine blk_drewN ?_ _ | refine blk_drew ?_ | refine blk_alloc ?_ _)); refine blk_far ?_ NB245_255.out _; (with_reducible repeat (first | refine blk_drewN ?_ _ | refine blk_drew ?_ | refine blk_alloc ?_ _)); refine blk_far ?_ NB245_255.out _; (with_reducible repeat (first | refine blk_drewN ?_ _ | refine blk_drew ?_ | refine blk_alloc ?_ _)); refine blk_far ?_ NB245_255.out _; (with_reducible repeat (first | refine blk_drewN ?_ _ | refine blk_drew ?_ | refine blk_alloc ?_ _)); exact BK245.out⟩
                have n1_ : Aside0 (((((w35.setCell ⟨gb255, 0, none⟩ (.int .i64 t251)).setCell ⟨gb255, 1, none⟩ (.int .i64 t252)).setCell ⟨gb255, 2, none⟩ (.int .i64 t253)).setCell ⟨gb255, 3, none⟩ (.int .i64 t254)).heap[gb250]? = some (.cells #[.int .i64 t246, .int .i64 t247, .int .i64 t248, .int .i64 t249] 23 (0, 0))) := ⟨by (with_reducible repeat (first | refine blk_drewN ?_ _ | refine blk_drew ?_ | refine blk_alloc ?_ _)); refine blk_far ?_ NB250_255.out _; (with_reducible repeat (first | refine blk_drewN ?_ _ | refine blk_drew ?_ | refine blk_alloc ?_ _)); refine blk_far ?_ NB250_255.out _; (with_reducible repeat (first | refine blk_drewN ?_ _ | refine blk_drew ?_ | refine blk_alloc ?_ _)); refine blk_far ?_ NB250_255.out _; (with_reducible repeat (first | refine blk_drewN ?_ _ | refine blk_drew ?_ | refine blk_alloc ?_ _)); refine blk_far ?_ NB250_255.out _; (with_reducible repeat (first | refine blk_drewN ?_ _ | refine blk_drew ?_ | refine blk_alloc ?_ _)); exact BK250.out⟩
                have n2_ : Aside0 (((((w35.setCell ⟨gb255, 0, none⟩ (.int .i64 t251)).setCell ⟨gb255, 1, none⟩ (.int .i64 t252)).setCell ⟨gb255, 2, none⟩ (.int .i64 t253)).setCell ⟨gb255, 3, none⟩ (.int .i64 t254)).heap[gb255]? = some (.cells #[.int .i64 t251, .int .i64 t252, .int .i64 t253, .int .i64 t254] 23 (0, 0))) := ⟨by (with_reducible repeat (first | refine blk_drewN ?_ _ | refine blk_drew ?_ | refine blk_alloc ?_ _)); refine blk_put (cs := #[.int .i64 t251, .int .i64 t252, .int .i64 t253, .int .i64 0]) ?_ 3 _ rfl; (with_reducible repeat (first | refine blk_drewN ?_ _ | refine blk_drew ?_ | refine blk_alloc ?_ _)); refine blk_put (cs := #[.int .i64 t251, .int .i64 t252, .int .i64 0, .int .i64 0]) ?_ 2 _ rfl; (with_reducible repeat (first | refine blk_drewN ?_ _ | refine blk_drew ?_ | refine blk_alloc ?_ _)); refine blk_put (cs := #[.int .i64 t251, .int .i64 0, .int .i64 0, .int .i64 0]) ?_ 1 _ rfl; (with_reducible repeat (first | refine blk_drewN ?_ _ | refine blk_drew ?_ | refine blk_alloc ?_ _)); refine blk_put (cs := #[.int .i64 0, .int .i64 0, .int .i64 0, .int .i64 0]) ?_ 0 _ rfl; (with_reducible repeat (first | refine blk_drewN ?_ _ | refine blk_drew ?_ | refine blk_alloc ?_ _)); exact BK255.out⟩
                have n3_ : Aside0 (Below w.heap.size w ((((w35.setCell ⟨gb255, 0, none⟩ (.int .i64 t251)).setCell ⟨gb255, 1, none⟩ (.int .i64 t252)).setCell ⟨gb255, 2, none⟩ (.int .i64 t253)).setCell ⟨gb255, 3, none⟩ (.int .i64 t254))) := ⟨by repeat (first | (with_reducible first | exact HB.out | apply below_alloc | apply pw_below_drewN | apply below_drew1 | refine below_set ?_ GE245.out | refine below_set ?_ GE250.out | refine below_set ?_ GE255.out) | exact HB.out)⟩
                (try clear BK245)
                (try clear BK250)
                (try clear BK255)
                (try clear HB)
                generalize ((((w35.setCell ⟨gb255, 0, none⟩ (.int .i64 t251)).setCell ⟨gb255, 1, none⟩ (.int .i64 t252)).setCell ⟨gb255, 2, none⟩ (.int .i64 t253)).setCell ⟨gb255, 3, none⟩ (.int .i64 t254)) = w39 at n0_ n1_ n2_ n3_ ⊢
                have BK245 := n0_
                have BK250 := n1_
                have BK255 := n2_
                have HB := n3_
                clear n0_ n1_ n2_ n3_
                have n0_ := Aside0.mk (blk_drew BK245.out)
                have n1_ := Aside0.mk (blk_drew BK250.out)
                have n2_ := Aside0.mk (blk_drew BK255.out)
                have n3_ := Aside0.mk (below_drew1 HB.out)
                clear BK245
                clear BK250
                clear BK255
                clear HB
                have BK245 := n0_
                have BK250 := n1_
                have BK255 := n2_
                have HB := n3_
                clear n0_ n1_ n2_ n3_
                refine start_ (n := 52) (S := fun w' => w'.cell? ⟨gb255, 0, none⟩ = some (.int .i64 t251) ∧ w'.cell? ⟨gb255, 1, none⟩ = some (.int .i64 t252) ∧ w'.cell? ⟨gb255, 2, none⟩ = some (.int .i64 t253) ∧ w'.cell? ⟨gb255, 3, none⟩ = some (.int .i64 t254) ∧ w'.cell? ⟨gb245, 0, none⟩ = some (.int .i64 t241) ∧ w'.cell? ⟨gb245, 1, none⟩ = some (.int .i64 t242) ∧ w'.cell? ⟨gb245, 2, none⟩ = some (.int .i64 t243) ∧ w'.cell? ⟨gb245, 3, none⟩ = some (.int .i64 t244) ∧ w'.cell? ⟨gb250, 0, none⟩ = some (.int .i64 t246) ∧ w'.cell? ⟨gb250, 1, none⟩ = some (.int .i64 t247) ∧ w'.cell? ⟨gb250, 2, none⟩ = some (.int .i64 t248) ∧ w'.cell? ⟨gb250, 3, none⟩ = some (.int .i64 t249)) (ds := []) #[false, false, false, false, false, false, false, false, false, false, false, false, false, false, false, false, false, false, false, false, false, false, false, false, false, false, false, false, false, false, false, false, false, false, false, false, false, false, false, false, false, false, false, false, false, false, false, false, false, false, false, false] (by kernel_rfl) rfl rfl ⟨(blk_cell BK255.out 0).trans rfl, (blk_cell BK255.out 1).trans rfl, (blk_cell BK255.out 2).trans rfl, (blk_cell BK255.out 3).trans rfl, (blk_cell BK245.out 0).trans rfl, (blk_cell BK245.out 1).trans rfl, (blk_cell BK245.out 2).trans rfl, (blk_cell BK245.out 3).trans rfl, (blk_cell BK250.out 0).trans rfl, (blk_cell BK250.out 1).trans rfl, (blk_cell BK250.out 2).trans rfl, (blk_cell BK250.out 3).trans rfl⟩ (fun hHeld => ?_); refine with_tabW valancelaw04_works.tab4 valancelaw04_works.bits4 (fun HT_ HW_ => ?_)
                generalize w39.drew = w40 at BK245 BK250 BK255 HB hHeld ⊢
                refine pure_ (i := 1) (N := some 10) (v := ?_) (a' := ?_) #[false, true, false, false, false, false, false, false, false, false, false, false, false, false, false, false, false, false, false, false, false, false, false, false, false, false, false, false, false, false, false, false, false, false, false, false, false, false, false, false, false, false, false, false, false, false, false, false, false, false, false, false] rfl rfl (any_of HT_.out (by kernel_rfl)) (fun _ _ _ h => h) (Or.inl ⟨by rfl, ?_⟩) ?_ ?_
                rotate_left
                · intro w'
                  go_simp
                  with_reducible rfl
                rotate_left
                · simp only [Act.put, List.setIfInBounds_toArray, List.set_cons_zero, List.set_cons_succ, i64_w, i32_w]
                  rfl
                refine take_ (i := 0) (N := some 9) (v := ?_) (a' := ?_) #[true, true, false, false, false, false, false, false, false, false, false, false, false, false, false, false, false, false, false, false, false, false, false, false, false, false, false, false, false, false, false, false, false, false, false, false, false, false, false, false, false, false, false, false, false, false, false, false, false, false, false, false] rfl rfl (take_ofW HT_.out HW_.out (by kernel_rfl)) (fun _ _ _ h => h) (Or.inl ⟨by rfl, ?_⟩) hHeld ?_ ?_
                rotate_left
                · rintro w' ⟨s0, s1, s2, s3, s4, s5, s6, s7, s8, s9, s10, s11⟩
                  go_simp
                  with_reducible rfl
                rotate_left
                · simp only [Act.put, List.setIfInBounds_toArray, List.set_cons_zero, List.set_cons_succ, i64_w, i32_w]
                  rfl
                refine pure_ (i := 2) (N := some 11) (v := ?_) (a' := ?_) #[true, true, true, false, false, false, false, false, false, false, false, false, false, false, false, false, false, false, false, false, false, false, false, false, false, false, false, false, false, false, false, false, false, false, false, false, false, false, false, false, false, false, false, false, false, false, false, false, false, false, false, false] rfl rfl (any_of HT_.out (by kernel_rfl)) (fun _ _ _ h => h) (Or.inl ⟨by rfl, ?_⟩) ?_ ?_
                rotate_left
                · intro w'
                  go_simp
                  with_reducible rfl
                rotate_left
                · simp only [Act.put, List.setIfInBounds_toArray, List.set_cons_zero, List.set_cons_succ, i64_w, i32_w]
                  rfl
                refine pure_ (i := 3) (N := some 12) (v := ?_) (a' := ?_) #[true, true, true, true, false, false, false, false, false, false, false, false, false, false, false, false, false, false, false, false, false, false, false, false, false, false, false, false, false, false, false, false, false, false, false, false, false, false, false, false, false, false, false, false, false, false, false, false, false, false, false, false] rfl rfl (any_of HT_.out (by kernel_rfl)) (fun _ _ _ h => h) (Or.inl ⟨by rfl, ?_⟩) ?_ ?_
                rotate_left
                · intro w'
                  go_simp
                  with_reducible rfl
                rotate_left
                · simp only [Act.put, List.setIfInBounds_toArray, List.set_cons_zero, List.set_cons_succ, i64_w, i32_w]
                  rfl
                refine take_ (i := 4) (N := some 13) (v := ?_) (a' := ?_) #[true, true, true, true, true, false, false, false, false, false, false, false, false, false, false, false, false, false, false, false, false, false, false, false, false, false, false, false, false, false, false, false, false, false, false, false, false, false, false, false, false, false, false, false, false, false, false, false, false, false, false, false] rfl rfl (take_ofW HT_.out HW_.out (by kernel_rfl)) (fun _ _ _ h => h) (Or.inl ⟨by rfl, ?_⟩) hHeld ?_ ?_
                rotate_left
                · rintro w' ⟨s0, s1, s2, s3, s4, s5, s6, s7, s8, s9, s10, s11⟩
                  go_simp
                  with_reducible rfl
                rotate_left
                · simp only [Act.put, List.setIfInBounds_toArray, List.set_cons_zero, List.set_cons_succ, i64_w, i32_w]
                  rfl
                refine take_ (i := 5) (N := some 14) (v := ?_) (a' := ?_) #[true, true, true, true, true, true, false, false, false, false, false, false, false, false, false, false, false, false, false, false, false, false, false, false, false, false, false, false, false, false, false, false, false, false, false, false, false, false, false, false, false, false, false, false, false, false, false, false, false, false, false, false] rfl rfl (take_ofW HT_.out HW_.out (by kernel_rfl)) (fun _ _ _ h => h) (Or.inl ⟨by rfl, ?_⟩) hHeld ?_ ?_
                rotate_left
                · rintro w' ⟨s0, s1, s2, s3, s4, s5, s6, s7, s8, s9, s10, s11⟩
                  go_simp
                  with_reducible rfl
                rotate_left
                · simp only [Act.put, List.setIfInBounds_toArray, List.set_cons_zero, List.set_cons_succ, i64_w, i32_w]
                  rfl
                refine one_ (i := 6) (N := some 15) #[true, true, true, true, true, true, true, false, false, false, false, false, false, false, false, false, false, false, false, false, false, false, false, false, false, false, false, false, false, false, false, false, false, false, false, false, false, false, false, false, false, false, false, false, false, false, false, false, false, false, false, false] rfl rfl (one_of HT_.out (by kernel_rfl)) (by decide) (fun K hK => ?_)
                refine goes_ Try.func17 (by kernel_rfl) rfl #[.agg #[.int .i64 t241, .int .i64 t242, .int .i64 t243, .int .i64 t244], .agg #[.int .i64 t246, .int .i64 t247, .int .i64 t248, .int .i64 t249]] (by rfl) rfl rfl (by (try simp only [List.map_toArray, List.map_cons, List.map_nil]); first | done | rfl | (simp only [List.length_drop, List.length_take]; rfl)) ?_
                with_reducible refine (rect_Join.calls t241 t242 t243 t244 t246 t247 t248 t249 t256 t257 t258 t259 _ A5.out).mono ?_
                rintro e w41 ⟨rfl, hb⟩
                refine ⟨_, rfl, ?_⟩
                have n0_ := Aside0.mk (blk_below (g := gb245) (o := .cells #[.int .i64 t241, .int .i64 t242, .int .i64 t243, .int .i64 t244] 23 (0, 0)) (by (with_reducible repeat (first | refine blk_drewN ?_ _ | refine blk_drew ?_ | refine blk_alloc ?_ _)); exact BK245.out) hb)
                have n1_ := Aside0.mk (blk_below (g := gb250) (o := .cells #[.int .i64 t246, .int .i64 t247, .int .i64 t248, .int .i64 t249] 23 (0, 0)) (by (with_reducible repeat (first | refine blk_drewN ?_ _ | refine blk_drew ?_ | refine blk_alloc ?_ _)); exact BK250.out) hb)
                have n2_ := Aside0.mk (blk_below (g := gb255) (o := .cells #[.int .i64 t251, .int .i64 t252, .int .i64 t253, .int .i64 t254] 23 (0, 0)) (by (with_reducible repeat (first | refine blk_drewN ?_ _ | refine blk_drew ?_ | refine blk_alloc ?_ _)); exact BK255.out) hb)
                have n3_ := Aside0.mk (below_step (by repeat (first | (with_reducible first | exact HB.out | apply below_alloc | apply pw_below_drewN | apply below_drew1 | refine below_set ?_ GE245.out | refine below_set ?_ GE250.out | refine below_set ?_ GE255.out) | exact HB.out)) hb)
                clear BK245
                clear BK250
                clear BK255
                clear HB
                have BK245 := n0_
                have BK250 := n1_
                have BK255 := n2_
                have HB := n3_
                clear n0_ n1_ n2_ n3_
                (try clear hb)
                (try clear hb2)
                (try clear hk)
                (try clear hi)
                refine hK.out _ _ ⟨(blk_cell BK255.out 0).trans rfl, (blk_cell BK255.out 1).trans rfl, (blk_cell BK255.out 2).trans rfl, (blk_cell BK255.out 3).trans rfl, (blk_cell BK245.out 0).trans rfl, (blk_cell BK245.out 1).trans rfl, (blk_cell BK245.out 2).trans rfl, (blk_cell BK245.out 3).trans rfl, (blk_cell BK250.out 0).trans rfl, (blk_cell BK250.out 1).trans rfl, (blk_cell BK250.out 2).trans rfl, (blk_cell BK250.out 3).trans rfl⟩ (fun hHeld => ?_)
                clear hK K
                refine norm_ (a' := ?_) ?_ ?_
                rotate_left
                · show Act.put _ (some 15) _ = _
                  simp only [Act.put, List.setIfInBounds_toArray, List.set_cons_zero, List.set_cons_succ, i64_w, i32_w]
                  rfl
                refine one_ (i := 7) (N := some 16) #[true, true, true, true, true, true, true, true, false, false, false, false, false, false, false, false, false, false, false, false, false, false, false, false, false, false, false, false, false, false, false, false, false, false, false, false, false, false, false, false, false, false, false, false, false, false, false, false, false, false, false, false] rfl rfl (one_of HT_.out (by kernel_rfl)) (by decide) (fun K hK => ?_)
                refine goes_ Try.func11 (by kernel_rfl) rfl #[.int .i64 0, .int .i64 0, .int .i64 15, .int .i64 15] (by rfl) rfl rfl (by (try simp only [List.map_toArray, List.map_cons, List.map_nil]); first | done | rfl | (simp only [List.length_drop, List.length_take]; rfl)) ?_
                with_reducible refine (rect_Of.calls 0 0 15 15 t260 t261 t262 t263 _ A6.out).mono ?_
                rintro e w42 ⟨rfl, hb⟩
                refine ⟨_, rfl, ?_⟩
                have n0_ := Aside0.mk (blk_below (g := gb245) (o := .cells #[.int .i64 t241, .int .i64 t242, .int .i64 t243, .int .i64 t244] 23 (0, 0)) (by (with_reducible repeat (first | refine blk_drewN ?_ _ | refine blk_drew ?_ | refine blk_alloc ?_ _)); exact BK245.out) hb)
                have n1_ := Aside0.mk (blk_below (g := gb250) (o := .cells #[.int .i64 t246, .int .i64 t247, .int .i64 t248, .int .i64 t249] 23 (0, 0)) (by (with_reducible repeat (first | refine blk_drewN ?_ _ | refine blk_drew ?_ | refine blk_alloc ?_ _)); exact BK250.out) hb)
                have n2_ := Aside0.mk (blk_below (g := gb255) (o := .cells #[.int .i64 t251, .int .i64 t252, .int .i64 t253, .int .i64 t254] 23 (0, 0)) (by (with_reducible repeat (first | refine blk_drewN ?_ _ | refine blk_drew ?_ | refine blk_alloc ?_ _)); exact BK255.out) hb)
                have n3_ := Aside0.mk (below_step (by repeat (first | (with_reducible first | exact HB.out | apply below_alloc | apply pw_below_drewN | apply below_drew1 | refine below_set ?_ GE245.out | refine below_set ?_ GE250.out | refine below_set ?_ GE255.out) | exact HB.out)) hb)
                clear BK245
                clear BK250
                clear BK255
                clear HB
                have BK245 := n0_
                have BK250 := n1_
                have BK255 := n2_
                have HB := n3_
                clear n0_ n1_ n2_ n3_
                (try clear hb)
                (try clear hb2)
                (try clear hk)
                (try clear hi)
                refine hK.out _ _ ⟨(blk_cell BK255.out 0).trans rfl, (blk_cell BK255.out 1).trans rfl, (blk_cell BK255.out 2).trans rfl, (blk_cell BK255.out 3).trans rfl, (blk_cell BK245.out 0).trans rfl, (blk_cell BK245.out 1).trans rfl, (blk_cell BK245.out 2).trans rfl, (blk_cell BK245.out 3).trans rfl, (blk_cell BK250.out 0).trans rfl, (blk_cell BK250.out 1).trans rfl, (blk_cell BK250.out 2).trans rfl, (blk_cell BK250.out 3).trans rfl⟩ (fun hHeld => ?_)
                clear hK K
                refine norm_ (a' := ?_) ?_ ?_
                rotate_left
                · show Act.put _ (some 16) _ = _
                  simp only [Act.put, List.setIfInBounds_toArray, List.set_cons_zero, List.set_cons_succ, i64_w, i32_w]
                  rfl
                refine pure_ (i := 8) (N := some 17) (v := ?_) (a' := ?_) #[true, true, true, true, true, true, true, true, true, false, false, false, false, false, false, false, false, false, false, false, false, false, false, false, false, false, false, false, false, false, false, false, false, false, false, false, false, false, false, false, false, false, false, false, false, false, false, false, false, false, false, false] rfl rfl (any_of HT_.out (by kernel_rfl)) (fun _ _ _ h => h) (Or.inl ⟨by rfl, ?_⟩) ?_ ?_
                rotate_left
                · intro w'
                  go_simp
                  with_reducible rfl
                rotate_left
                · simp only [Act.put, List.setIfInBounds_toArray, List.set_cons_zero, List.set_cons_succ, i64_w, i32_w]
                  rfl
                refine pure_ (i := 9) (N := some 18) (v := ?_) (a' := ?_) #[true, true, true, true, true, true, true, true, true, true, false, false, false, false, false, false, false, false, false, false, false, false, false, false, false, false, false, false, false, false, false, false, false, false, false, false, false, false, false, false, false, false, false, false, false, false, false, false, false, false, false, false] rfl rfl (any_of HT_.out (by kernel_rfl)) (fun _ _ _ h => h) (Or.inl ⟨by rfl, ?_⟩) ?_ ?_
                rotate_left
                · intro w'
                  go_simp
                  with_reducible rfl
                rotate_left
                · simp only [Act.put, List.setIfInBounds_toArray, List.set_cons_zero, List.set_cons_succ, i64_w, i32_w]
                  rfl
                refine pure_ (i := 10) (N := some 19) (v := ?_) (a' := ?_) #[true, true, true, true, true, true, true, true, true, true, true, false, false, false, false, false, false, false, false, false, false, false, false, false, false, false, false, false, false, false, false, false, false, false, false, false, false, false, false, false, false, false, false, false, false, false, false, false, false, false, false, false] rfl rfl (any_of HT_.out (by kernel_rfl)) (fun _ _ _ h => h) (Or.inl ⟨by rfl, ?_⟩) ?_ ?_
                rotate_left
                · intro w'
                  go_simp
                  with_reducible rfl
                rotate_left
                · simp only [Act.put, List.setIfInBounds_toArray, List.set_cons_zero, List.set_cons_succ, i64_w, i32_w]
                  rfl
                refine take_ (i := 11) (N := some 20) (v := ?_) (a' := ?_) #[true, true, true, true, true, true, true, true, true, true, true, true, false, false, false, false, false, false, false, false, false, false, false, false, false, false, false, false, false, false, false, false, false, false, false, false, false, false, false, false, false, false, false, false, false, false, false, false, false, false, false, false] rfl rfl (take_ofW HT_.out HW_.out (by kernel_rfl)) (fun _ _ _ h => h) (Or.inl ⟨by rfl, ?_⟩) hHeld ?_ ?_
                rotate_left
                · rintro w' ⟨s0, s1, s2, s3, s4, s5, s6, s7, s8, s9, s10, s11⟩
                  go_simp
                  with_reducible rfl
                rotate_left
                · simp only [Act.put, List.setIfInBounds_toArray, List.set_cons_zero, List.set_cons_succ, i64_w, i32_w]
                  rfl
                refine one_ (i := 12) (N := some 21) #[true, true, true, true, true, true, true, true, true, true, true, true, true, false, false, false, false, false, false, false, false, false, false, false, false, false, false, false, false, false, false, false, false, false, false, false, false, false, false, false, false, false, false, false, false, false, false, false, false, false, false, false] rfl rfl (one_of HT_.out (by kernel_rfl)) (by decide) (fun K hK => ?_)
                refine goes_ Try.func13 (by kernel_rfl) rfl #[.int .i64 5, .int .i64 9] (by rfl) rfl rfl (by (try simp only [List.map_toArray, List.map_cons, List.map_nil]); first | done | rfl | (simp only [List.length_drop, List.length_take]; rfl)) ?_
                with_reducible refine (point_Of.calls 5 9 t264 _ A8.out).mono ?_
                rintro e w43 ⟨rfl, hb⟩
                refine ⟨_, rfl, ?_⟩
                have n0_ := Aside0.mk (blk_below (g := gb245) (o := .cells #[.int .i64 t241, .int .i64 t242, .int .i64 t243, .int .i64 t244] 23 (0, 0)) (by (with_reducible repeat (first | refine blk_drewN ?_ _ | refine blk_drew ?_ | refine blk_alloc ?_ _)); exact BK245.out) hb)
                have n1_ := Aside0.mk (blk_below (g := gb250) (o := .cells #[.int .i64 t246, .int .i64 t247, .int .i64 t248, .int .i64 t249] 23 (0, 0)) (by (with_reducible repeat (first | refine blk_drewN ?_ _ | refine blk_drew ?_ | refine blk_alloc ?_ _)); exact BK250.out) hb)
                have n2_ := Aside0.mk (blk_below (g := gb255) (o := .cells #[.int .i64 t251, .int .i64 t252, .int .i64 t253, .int .i64 t254] 23 (0, 0)) (by (with_reducible repeat (first | refine blk_drewN ?_ _ | refine blk_drew ?_ | refine blk_alloc ?_ _)); exact BK255.out) hb)
                have n3_ := Aside0.mk (below_step (by repeat (first | (with_reducible first | exact HB.out | apply below_alloc | apply pw_below_drewN | apply below_drew1 | refine below_set ?_ GE245.out | refine below_set ?_ GE250.out | refine below_set ?_ GE255.out) | exact HB.out)) hb)
                clear BK245
                clear BK250
                clear BK255
                clear HB
                have BK245 := n0_
                have BK250 := n1_
                have BK255 := n2_
                have HB := n3_
                clear n0_ n1_ n2_ n3_
                (try clear hb)
                (try clear hb2)
                (try clear hk)
                (try clear hi)
                refine hK.out _ _ ⟨(blk_cell BK255.out 0).trans rfl, (blk_cell BK255.out 1).trans rfl, (blk_cell BK255.out 2).trans rfl, (blk_cell BK255.out 3).trans rfl, (blk_cell BK245.out 0).trans rfl, (blk_cell BK245.out 1).trans rfl, (blk_cell BK245.out 2).trans rfl, (blk_cell BK245.out 3).trans rfl, (blk_cell BK250.out 0).trans rfl, (blk_cell BK250.out 1).trans rfl, (blk_cell BK250.out 2).trans rfl, (blk_cell BK250.out 3).trans rfl⟩ (fun hHeld => ?_)
                clear hK K
                refine norm_ (a' := ?_) ?_ ?_
                rotate_left
                · show Act.put _ (some 21) _ = _
                  simp only [Act.put, List.setIfInBounds_toArray, List.set_cons_zero, List.set_cons_succ, i64_w, i32_w]
                  rfl
                refine one_ (i := 13) (N := some 22) #[true, true, true, true, true, true, true, true, true, true, true, true, true, true, false, false, false, false, false, false, false, false, false, false, false, false, false, false, false, false, false, false, false, false, false, false, false, false, false, false, false, false, false, false, false, false, false, false, false, false, false, false] rfl rfl (one_of HT_.out (by kernel_rfl)) (by decide) (fun K hK => ?_)
                refine goes_ Try.func12 (by kernel_rfl) rfl #[.agg #[.int .i64 t251, .int .i64 t252, .int .i64 t253, .int .i64 t254], vpt2 t264] (by rfl) rfl rfl (by (try simp only [List.map_toArray, List.map_cons, List.map_nil]); first | done | rfl | (simp only [List.length_drop, List.length_take]; rfl)) ?_
                with_reducible refine (rect_Has.calls t251 t252 t253 t254 t264 true _ A9.out).mono ?_
                rintro e w44 ⟨rfl, hb⟩
                refine ⟨_, rfl, ?_⟩
                have n0_ := Aside0.mk (blk_below (g := gb245) (o := .cells #[.int .i64 t241, .int .i64 t242, .int .i64 t243, .int .i64 t244] 23 (0, 0)) (by (with_reducible repeat (first | refine blk_drewN ?_ _ | refine blk_drew ?_ | refine blk_alloc ?_ _)); exact BK245.out) hb)
                have n1_ := Aside0.mk (blk_below (g := gb250) (o := .cells #[.int .i64 t246, .int .i64 t247, .int .i64 t248, .int .i64 t249] 23 (0, 0)) (by (with_reducible repeat (first | refine blk_drewN ?_ _ | refine blk_drew ?_ | refine blk_alloc ?_ _)); exact BK250.out) hb)
                have n2_ := Aside0.mk (blk_below (g := gb255) (o := .cells #[.int .i64 t251, .int .i64 t252, .int .i64 t253, .int .i64 t254] 23 (0, 0)) (by (with_reducible repeat (first | refine blk_drewN ?_ _ | refine blk_drew ?_ | refine blk_alloc ?_ _)); exact BK255.out) hb)
                have n3_ := Aside0.mk (below_step (by repeat (first | (with_reducible first | exact HB.out | apply below_alloc | apply pw_below_drewN | apply below_drew1 | refine below_set ?_ GE245.out | refine below_set ?_ GE250.out | refine below_set ?_ GE255.out) | exact HB.out)) hb)
                clear BK245
                clear BK250
                clear BK255
                clear HB
                have BK245 := n0_
                have BK250 := n1_
                have BK255 := n2_
                have HB := n3_
                clear n0_ n1_ n2_ n3_
                (try clear hb)
                (try clear hb2)
                (try clear hk)
                (try clear hi)
                refine hK.out _ _ ⟨(blk_cell BK255.out 0).trans rfl, (blk_cell BK255.out 1).trans rfl, (blk_cell BK255.out 2).trans rfl, (blk_cell BK255.out 3).trans rfl, (blk_cell BK245.out 0).trans rfl, (blk_cell BK245.out 1).trans rfl, (blk_cell BK245.out 2).trans rfl, (blk_cell BK245.out 3).trans rfl, (blk_cell BK250.out 0).trans rfl, (blk_cell BK250.out 1).trans rfl, (blk_cell BK250.out 2).trans rfl, (blk_cell BK250.out 3).trans rfl⟩ (fun hHeld => ?_)
                clear hK K
                refine norm_ (a' := ?_) ?_ ?_
                rotate_left
                · show Act.put _ (some 22) _ = _
                  simp only [Act.put, List.setIfInBounds_toArray, List.set_cons_zero, List.set_cons_succ, i64_w, i32_w]
                  rfl
                refine pure_ (i := 14) (N := some 23) (v := ?_) (a' := ?_) #[true, true, true, true, true, true, true, true, true, true, true, true, true, true, true, false, false, false, false, false, false, false, false, false, false, false, false, false, false, false, false, false, false, false, false, false, false, false, false, false, false, false, false, false, false, false, false, false, false, false, false, false] rfl rfl (any_of HT_.out (by kernel_rfl)) (fun _ _ _ h => h) (Or.inl ⟨by rfl, ?_⟩) ?_ ?_
                rotate_left
                · intro w'
                  go_simp
                  with_reducible rfl
                rotate_left
                · simp only [Act.put, List.setIfInBounds_toArray, List.set_cons_zero, List.set_cons_succ, i64_w, i32_w]
                  rfl
                refine pure_ (i := 15) (N := some 24) (v := ?_) (a' := ?_) #[true, true, true, true, true, true, true, true, true, true, true, true, true, true, true, true, false, false, false, false, false, false, false, false, false, false, false, false, false, false, false, false, false, false, false, false, false, false, false, false, false, false, false, false, false, false, false, false, false, false, false, false] rfl rfl (any_of HT_.out (by kernel_rfl)) (fun _ _ _ h => h) (Or.inl ⟨by rfl, ?_⟩) ?_ ?_
                rotate_left
                · intro w'
                  go_simp
                  with_reducible rfl
                rotate_left
                · simp only [Act.put, List.setIfInBounds_toArray, List.set_cons_zero, List.set_cons_succ, i64_w, i32_w]
                  rfl
                refine take_ (i := 16) (N := some 25) (v := ?_) (a' := ?_) #[true, true, true, true, true, true, true, true, true, true, true, true, true, true, true, true, true, false, false, false, false, false, false, false, false, false, false, false, false, false, false, false, false, false, false, false, false, false, false, false, false, false, false, false, false, false, false, false, false, false, false, false] rfl rfl (take_ofW HT_.out HW_.out (by kernel_rfl)) (fun _ _ _ h => h) (Or.inl ⟨by rfl, ?_⟩) hHeld ?_ ?_
                rotate_left
                · rintro w' ⟨s0, s1, s2, s3, s4, s5, s6, s7, s8, s9, s10, s11⟩
                  go_simp
                  with_reducible rfl
                rotate_left
                · simp only [Act.put, List.setIfInBounds_toArray, List.set_cons_zero, List.set_cons_succ, i64_w, i32_w]
                  rfl
                refine one_ (i := 17) (N := some 26) #[true, true, true, true, true, true, true, true, true, true, true, true, true, true, true, true, true, true, false, false, false, false, false, false, false, false, false, false, false, false, false, false, false, false, false, false, false, false, false, false, false, false, false, false, false, false, false, false, false, false, false, false] rfl rfl (one_of HT_.out (by kernel_rfl)) (by decide) (fun K hK => ?_)
                refine goes_ Try.func13 (by kernel_rfl) rfl #[.int .i64 5, .int .i64 10] (by rfl) rfl rfl (by (try simp only [List.map_toArray, List.map_cons, List.map_nil]); first | done | rfl | (simp only [List.length_drop, List.length_take]; rfl)) ?_
                with_reducible refine (point_Of.calls 5 10 t266 _ A11.out).mono ?_
                rintro e w45 ⟨rfl, hb⟩
                refine ⟨_, rfl, ?_⟩
                have n0_ := Aside0.mk (blk_below (g := gb245) (o := .cells #[.int .i64 t241, .int .i64 t242, .int .i64 t243, .int .i64 t244] 23 (0, 0)) (by (with_reducible repeat (first | refine blk_drewN ?_ _ | refine blk_drew ?_ | refine blk_alloc ?_ _)); exact BK245.out) hb)
                have n1_ := Aside0.mk (blk_below (g := gb250) (o := .cells #[.int .i64 t246, .int .i64 t247, .int .i64 t248, .int .i64 t249] 23 (0, 0)) (by (with_reducible repeat (first | refine blk_drewN ?_ _ | refine blk_drew ?_ | refine blk_alloc ?_ _)); exact BK250.out) hb)
                have n2_ := Aside0.mk (blk_below (g := gb255) (o := .cells #[.int .i64 t251, .int .i64 t252, .int .i64 t253, .int .i64 t254] 23 (0, 0)) (by (with_reducible repeat (first | refine blk_drewN ?_ _ | refine blk_drew ?_ | refine blk_alloc ?_ _)); exact BK255.out) hb)
                have n3_ := Aside0.mk (below_step (by repeat (first | (with_reducible first | exact HB.out | apply below_alloc | apply pw_below_drewN | apply below_drew1 | refine below_set ?_ GE245.out | refine below_set ?_ GE250.out | refine below_set ?_ GE255.out) | exact HB.out)) hb)
                clear BK245
                clear BK250
                clear BK255
                clear HB
                have BK245 := n0_
                have BK250 := n1_
                have BK255 := n2_
                have HB := n3_
                clear n0_ n1_ n2_ n3_
                (try clear hb)
                (try clear hb2)
                (try clear hk)
                (try clear hi)
                refine hK.out _ _ ⟨(blk_cell BK255.out 0).trans rfl, (blk_cell BK255.out 1).trans rfl, (blk_cell BK255.out 2).trans rfl, (blk_cell BK255.out 3).trans rfl, (blk_cell BK245.out 0).trans rfl, (blk_cell BK245.out 1).trans rfl, (blk_cell BK245.out 2).trans rfl, (blk_cell BK245.out 3).trans rfl, (blk_cell BK250.out 0).trans rfl, (blk_cell BK250.out 1).trans rfl, (blk_cell BK250.out 2).trans rfl, (blk_cell BK250.out 3).trans rfl⟩ (fun hHeld => ?_)
                clear hK K
                refine norm_ (a' := ?_) ?_ ?_
                rotate_left
                · show Act.put _ (some 26) _ = _
                  simp only [Act.put, List.setIfInBounds_toArray, List.set_cons_zero, List.set_cons_succ, i64_w, i32_w]
                  rfl
                refine one_ (i := 18) (N := some 27) #[true, true, true, true, true, true, true, true, true, true, true, true, true, true, true, true, true, true, true, false, false, false, false, false, false, false, false, false, false, false, false, false, false, false, false, false, false, false, false, false, false, false, false, false, false, false, false, false, false, false, false, false] rfl rfl (one_of HT_.out (by kernel_rfl)) (by decide) (fun K hK => ?_)
                refine goes_ Try.func12 (by kernel_rfl) rfl #[.agg #[.int .i64 t251, .int .i64 t252, .int .i64 t253, .int .i64 t254], vpt2 t266] (by rfl) rfl rfl (by (try simp only [List.map_toArray, List.map_cons, List.map_nil]); first | done | rfl | (simp only [List.length_drop, List.length_take]; rfl)) ?_
                with_reducible refine (rect_Has.calls t251 t252 t253 t254 t266 false _ A12.out).mono ?_
                rintro e w46 ⟨rfl, hb⟩
                refine ⟨_, rfl, ?_⟩
                have n0_ := Aside0.mk (blk_below (g := gb245) (o := .cells #[.int .i64 t241, .int .i64 t242, .int .i64 t243, .int .i64 t244] 23 (0, 0)) (by (with_reducible repeat (first | refine blk_drewN ?_ _ | refine blk_drew ?_ | refine blk_alloc ?_ _)); exact BK245.out) hb)
                have n1_ := Aside0.mk (blk_below (g := gb250) (o := .cells #[.int .i64 t246, .int .i64 t247, .int .i64 t248, .int .i64 t249] 23 (0, 0)) (by (with_reducible repeat (first | refine blk_drewN ?_ _ | refine blk_drew ?_ | refine blk_alloc ?_ _)); exact BK250.out) hb)
                have n2_ := Aside0.mk (blk_below (g := gb255) (o := .cells #[.int .i64 t251, .int .i64 t252, .int .i64 t253, .int .i64 t254] 23 (0, 0)) (by (with_reducible repeat (first | refine blk_drewN ?_ _ | refine blk_drew ?_ | refine blk_alloc ?_ _)); exact BK255.out) hb)
                have n3_ := Aside0.mk (below_step (by repeat (first | (with_reducible first | exact HB.out | apply below_alloc | apply pw_below_drewN | apply below_drew1 | refine below_set ?_ GE245.out | refine below_set ?_ GE250.out | refine below_set ?_ GE255.out) | exact HB.out)) hb)
                clear BK245
                clear BK250
                clear BK255
                clear HB
                have BK245 := n0_
                have BK250 := n1_
                have BK255 := n2_
                have HB := n3_
                clear n0_ n1_ n2_ n3_
                (try clear hb)
                (try clear hb2)
                (try clear hk)
                (try clear hi)
                refine hK.out _ _ ⟨(blk_cell BK255.out 0).trans rfl, (blk_cell BK255.out 1).trans rfl, (blk_cell BK255.out 2).trans rfl, (blk_cell BK255.out 3).trans rfl, (blk_cell BK245.out 0).trans rfl, (blk_cell BK245.out 1).trans rfl, (blk_cell BK245.out 2).trans rfl, (blk_cell BK245.out 3).trans rfl, (blk_cell BK250.out 0).trans rfl, (blk_cell BK250.out 1).trans rfl, (blk_cell BK250.out 2).trans rfl, (blk_cell BK250.out 3).trans rfl⟩ (fun hHeld => ?_)
                clear hK K
                refine norm_ (a' := ?_) ?_ ?_
                rotate_left
                · show Act.put _ (some 27) _ = _
                  simp only [Act.put, List.setIfInBounds_toArray, List.set_cons_zero, List.set_cons_succ, i64_w, i32_w]
                  rfl
                refine pure_ (i := 19) (N := some 28) (v := ?_) (a' := ?_) #[true, true, true, true, true, true, true, true, true, true, true, true, true, true, true, true, true, true, true, true, false, false, false, false, false, false, false, false, false, false, false, false, false, false, false, false, false, false, false, false, false, false, false, false, false, false, false, false, false, false, false, false] rfl rfl (any_of HT_.out (by kernel_rfl)) (fun _ _ _ h => h) (Or.inl ⟨by rfl, ?_⟩) ?_ ?_
                rotate_left
                · intro w'
                  go_simp
                  with_reducible rfl
                rotate_left
                · simp only [Act.put, List.setIfInBounds_toArray, List.set_cons_zero, List.set_cons_succ, i64_w, i32_w]
                  rfl
                refine pure_ (i := 20) (N := some 29) (v := ?_) (a' := ?_) #[true, true, true, true, true, true, true, true, true, true, true, true, true, true, true, true, true, true, true, true, true, false, false, false, false, false, false, false, false, false, false, false, false, false, false, false, false, false, false, false, false, false, false, false, false, false, false, false, false, false, false, false] rfl rfl (any_of HT_.out (by kernel_rfl)) (fun _ _ _ h => h) (Or.inl ⟨by rfl, ?_⟩) ?_ ?_
                rotate_left
                · intro w'
                  go_simp
                  with_reducible rfl
                rotate_left
                · simp only [Act.put, List.setIfInBounds_toArray, List.set_cons_zero, List.set_cons_succ, i64_w, i32_w]
                  rfl
                refine pure_ (i := 21) (N := some 30) (v := ?_) (a' := ?_) #[true, true, true, true, true, true, true, true, true, true, true, true, true, true, true, true, true, true, true, true, true, true, false, false, false, false, false, false, false, false, false, false, false, false, false, false, false, false, false, false, false, false, false, false, false, false, false, false, false, false, false, false] rfl rfl (any_of HT_.out (by kernel_rfl)) (fun _ _ _ h => h) (Or.inl ⟨by rfl, ?_⟩) ?_ ?_
                rotate_left
                · intro w'
                  go_simp
                  with_reducible rfl
                rotate_left
                · simp only [Act.put, List.setIfInBounds_toArray, List.set_cons_zero, List.set_cons_succ, i64_w, i32_w]
                  rfl
                refine take_ (i := 22) (N := some 31) (v := ?_) (a' := ?_) #[true, true, true, true, true, true, true, true, true, true, true, true, true, true, true, true, true, true, true, true, true, true, true, false, false, false, false, false, false, false, false, false, false, false, false, false, false, false, false, false, false, false, false, false, false, false, false, false, false, false, false, false] rfl rfl (take_ofW HT_.out HW_.out (by kernel_rfl)) (fun _ _ _ h => h) (Or.inl ⟨by rfl, ?_⟩) hHeld ?_ ?_
                rotate_left
                · rintro w' ⟨s0, s1, s2, s3, s4, s5, s6, s7, s8, s9, s10, s11⟩
                  go_simp
                  with_reducible rfl
                rotate_left
                · simp only [Act.put, List.setIfInBounds_toArray, List.set_cons_zero, List.set_cons_succ, i64_w, i32_w]
                  rfl
                refine take_ (i := 23) (N := some 32) (v := ?_) (a' := ?_) #[true, true, true, true, true, true, true, true, true, true, true, true, true, true, true, true, true, true, true, true, true, true, true, true, false, false, false, false, false, false, false, false, false, false, false, false, false, false, false, false, false, false, false, false, false, false, false, false, false, false, false, false] rfl rfl (take_ofW HT_.out HW_.out (by kernel_rfl)) (fun _ _ _ h => h) (Or.inl ⟨by rfl, ?_⟩) hHeld ?_ ?_
                rotate_left
                · rintro w' ⟨s0, s1, s2, s3, s4, s5, s6, s7, s8, s9, s10, s11⟩
                  go_simp
                  with_reducible rfl
                rotate_left
                · simp only [Act.put, List.setIfInBounds_toArray, List.set_cons_zero, List.set_cons_succ, i64_w, i32_w]
                  rfl
                refine one_ (i := 24) (N := some 33) #[true, true, true, true, true, true, true, true, true, true, true, true, true, true, true, true, true, true, true, true, true, true, true, true, true, false, false, false, false, false, false, false, false, false, false, false, false, false, false, false, false, false, false, false, false, false, false, false, false, false, false, false] rfl rfl (one_of HT_.out (by kernel_rfl)) (by decide) (fun K hK => ?_)
                refine goes_ Try.func10 (by kernel_rfl) rfl #[.agg #[.int .i64 t251, .int .i64 t252, .int .i64 t253, .int .i64 t254], .agg #[.int .i64 t241, .int .i64 t242, .int .i64 t243, .int .i64 t244]] (by rfl) rfl rfl (by (try simp only [List.map_toArray, List.map_cons, List.map_nil]); first | done | rfl | (simp only [List.length_drop, List.length_take]; rfl)) ?_
                with_reducible refine (rect_In.calls t251 t252 t253 t254 t241 t242 t243 t244 true _ A14.out).mono ?_
                rintro e w47 ⟨rfl, hb⟩
                refine ⟨_, rfl, ?_⟩
                have n0_ := Aside0.mk (blk_below (g := gb245) (o := .cells #[.int .i64 t241, .int .i64 t242, .int .i64 t243, .int .i64 t244] 23 (0, 0)) (by (with_reducible repeat (first | refine blk_drewN ?_ _ | refine blk_drew ?_ | refine blk_alloc ?_ _)); exact BK245.out) hb)
                have n1_ := Aside0.mk (blk_below (g := gb250) (o := .cells #[.int .i64 t246, .int .i64 t247, .int .i64 t248, .int .i64 t249] 23 (0, 0)) (by (with_reducible repeat (first | refine blk_drewN ?_ _ | refine blk_drew ?_ | refine blk_alloc ?_ _)); exact BK250.out) hb)
                have n2_ := Aside0.mk (blk_below (g := gb255) (o := .cells #[.int .i64 t251, .int .i64 t252, .int .i64 t253, .int .i64 t254] 23 (0, 0)) (by (with_reducible repeat (first | refine blk_drewN ?_ _ | refine blk_drew ?_ | refine blk_alloc ?_ _)); exact BK255.out) hb)
                have n3_ := Aside0.mk (below_step (by repeat (first | (with_reducible first | exact HB.out | apply below_alloc | apply pw_below_drewN | apply below_drew1 | refine below_set ?_ GE245.out | refine below_set ?_ GE250.out | refine below_set ?_ GE255.out) | exact HB.out)) hb)
                clear BK245
                clear BK250
                clear BK255
                clear HB
                have BK245 := n0_
                have BK250 := n1_
                have BK255 := n2_
                have HB := n3_
                clear n0_ n1_ n2_ n3_
                (try clear hb)
                (try clear hb2)
                (try clear hk)
                (try clear hi)
                refine hK.out _ _ ⟨(blk_cell BK255.out 0).trans rfl, (blk_cell BK255.out 1).trans rfl, (blk_cell BK255.out 2).trans rfl, (blk_cell BK255.out 3).trans rfl, (blk_cell BK245.out 0).trans rfl, (blk_cell BK245.out 1).trans rfl, (blk_cell BK245.out 2).trans rfl, (blk_cell BK245.out 3).trans rfl, (blk_cell BK250.out 0).trans rfl, (blk_cell BK250.out 1).trans rfl, (blk_cell BK250.out 2).trans rfl, (blk_cell BK250.out 3).trans rfl⟩ (fun hHeld => ?_)
                clear hK K
                refine norm_ (a' := ?_) ?_ ?_
                rotate_left
                · show Act.put _ (some 33) _ = _
                  simp only [Act.put, List.setIfInBounds_toArray, List.set_cons_zero, List.set_cons_succ, i64_w, i32_w]
                  rfl
                refine pure_ (i := 25) (N := some 34) (v := ?_) (a' := ?_) #[true, true, true, true, true, true, true, true, true, true, true, true, true, true, true, true, true, true, true, true, true, true, true, true, true, true, false, false, false, false, false, false, false, false, false, false, false, false, false, false, false, false, false, false, false, false, false, false, false, false, false, false] rfl rfl (any_of HT_.out (by kernel_rfl)) (fun _ _ _ h => h) (Or.inl ⟨by rfl, ?_⟩) ?_ ?_
                rotate_left
                · intro w'
                  go_simp
                  with_reducible rfl
                rotate_left
                · simp only [Act.put, List.setIfInBounds_toArray, List.set_cons_zero, List.set_cons_succ, i64_w, i32_w]
                  rfl
                refine pure_ (i := 26) (N := some 35) (v := ?_) (a' := ?_) #[true, true, true, true, true, true, true, true, true, true, true, true, true, true, true, true, true, true, true, true, true, true, true, true, true, true, true, false, false, false, false, false, false, false, false, false, false, false, false, false, false, false, false, false, false, false, false, false, false, false, false, false] rfl rfl (any_of HT_.out (by kernel_rfl)) (fun _ _ _ h => h) (Or.inl ⟨by rfl, ?_⟩) ?_ ?_
                rotate_left
                · intro w'
                  go_simp
                  with_reducible rfl
                rotate_left
                · simp only [Act.put, List.setIfInBounds_toArray, List.set_cons_zero, List.set_cons_succ, i64_w, i32_w]
                  rfl
                refine take_ (i := 27) (N := some 36) (v := ?_) (a' := ?_) #[true, true, true, true, true, true, true, true, true, true, true, true, true, true, true, true, true, true, true, true, true, true, true, true, true, true, true, true, false, false, false, false, false, false, false, false, false, false, false, false, false, false, false, false, false, false, false, false, false, false, false, false] rfl rfl (take_ofW HT_.out HW_.out (by kernel_rfl)) (fun _ _ _ h => h) (Or.inl ⟨by rfl, ?_⟩) hHeld ?_ ?_
                rotate_left
                · rintro w' ⟨s0, s1, s2, s3, s4, s5, s6, s7, s8, s9, s10, s11⟩
                  go_simp
                  with_reducible rfl
                rotate_left
                · simp only [Act.put, List.setIfInBounds_toArray, List.set_cons_zero, List.set_cons_succ, i64_w, i32_w]
                  rfl
                refine take_ (i := 30) (N := some 39) (v := ?_) (a' := ?_) #[true, true, true, true, true, true, true, true, true, true, true, true, true, true, true, true, true, true, true, true, true, true, true, true, true, true, true, true, false, false, true, false, false, false, false, false, false, false, false, false, false, false, false, false, false, false, false, false, false, false, false, false] rfl rfl (take_ofW HT_.out HW_.out (by kernel_rfl)) (fun _ _ _ h => h) (Or.inl ⟨by rfl, ?_⟩) hHeld ?_ ?_
                rotate_left
                · rintro w' ⟨s0, s1, s2, s3, s4, s5, s6, s7, s8, s9, s10, s11⟩
                  go_simp
                  with_reducible rfl
                rotate_left
                · simp only [Act.put, List.setIfInBounds_toArray, List.set_cons_zero, List.set_cons_succ, i64_w, i32_w]
                  rfl
                refine one_ (i := 28) (N := some 37) #[true, true, true, true, true, true, true, true, true, true, true, true, true, true, true, true, true, true, true, true, true, true, true, true, true, true, true, true, true, false, true, false, false, false, false, false, false, false, false, false, false, false, false, false, false, false, false, false, false, false, false, false] rfl rfl (one_of HT_.out (by kernel_rfl)) (by decide) (fun K hK => ?_)
                refine goes_ Try.func13 (by kernel_rfl) rfl #[.int .i64 5, .int .i64 5] (by rfl) rfl rfl (by (try simp only [List.map_toArray, List.map_cons, List.map_nil]); first | done | rfl | (simp only [List.length_drop, List.length_take]; rfl)) ?_
                with_reducible refine (point_Of.calls 5 5 t269 _ A16.out).mono ?_
                rintro e w48 ⟨rfl, hb⟩
                refine ⟨_, rfl, ?_⟩
                have n0_ := Aside0.mk (blk_below (g := gb245) (o := .cells #[.int .i64 t241, .int .i64 t242, .int .i64 t243, .int .i64 t244] 23 (0, 0)) (by (with_reducible repeat (first | refine blk_drewN ?_ _ | refine blk_drew ?_ | refine blk_alloc ?_ _)); exact BK245.out) hb)
                have n1_ := Aside0.mk (blk_below (g := gb250) (o := .cells #[.int .i64 t246, .int .i64 t247, .int .i64 t248, .int .i64 t249] 23 (0, 0)) (by (with_reducible repeat (first | refine blk_drewN ?_ _ | refine blk_drew ?_ | refine blk_alloc ?_ _)); exact BK250.out) hb)
                have n2_ := Aside0.mk (blk_below (g := gb255) (o := .cells #[.int .i64 t251, .int .i64 t252, .int .i64 t253, .int .i64 t254] 23 (0, 0)) (by (with_reducible repeat (first | refine blk_drewN ?_ _ | refine blk_drew ?_ | refine blk_alloc ?_ _)); exact BK255.out) hb)
                have n3_ := Aside0.mk (below_step (by repeat (first | (with_reducible first | exact HB.out | apply below_alloc | apply pw_below_drewN | apply below_drew1 | refine below_set ?_ GE245.out | refine below_set ?_ GE250.out | refine below_set ?_ GE255.out) | exact HB.out)) hb)
                clear BK245
                clear BK250
                clear BK255
                clear HB
                have BK245 := n0_
                have BK250 := n1_
                have BK255 := n2_
                have HB := n3_
                clear n0_ n1_ n2_ n3_
                (try clear hb)
                (try clear hb2)
                (try clear hk)
                (try clear hi)
                refine hK.out _ _ ⟨(blk_cell BK255.out 0).trans rfl, (blk_cell BK255.out 1).trans rfl, (blk_cell BK255.out 2).trans rfl, (blk_cell BK255.out 3).trans rfl, (blk_cell BK245.out 0).trans rfl, (blk_cell BK245.out 1).trans rfl, (blk_cell BK245.out 2).trans rfl, (blk_cell BK245.out 3).trans rfl, (blk_cell BK250.out 0).trans rfl, (blk_cell BK250.out 1).trans rfl, (blk_cell BK250.out 2).trans rfl, (blk_cell BK250.out 3).trans rfl⟩ (fun hHeld => ?_)
                clear hK K
                refine norm_ (a' := ?_) ?_ ?_
                rotate_left
                · show Act.put _ (some 37) _ = _
                  simp only [Act.put, List.setIfInBounds_toArray, List.set_cons_zero, List.set_cons_succ, i64_w, i32_w]
                  rfl
                refine one_ (i := 29) (N := some 38) #[true, true, true, true, true, true, true, true, true, true, true, true, true, true, true, true, true, true, true, true, true, true, true, true, true, true, true, true, true, true, true, false, false, false, false, false, false, false, false, false, false, false, false, false, false, false, false, false, false, false, false, false] rfl rfl (one_of HT_.out (by kernel_rfl)) (by decide) (fun K hK => ?_)
                refine goes_ Try.func19 (by kernel_rfl) rfl #[.agg #[.int .i64 t241, .int .i64 t242, .int .i64 t243, .int .i64 t244], vpt2 t269] (by rfl) rfl rfl (by (try simp only [List.map_toArray, List.map_cons, List.map_nil]); first | done | rfl | (simp only [List.length_drop, List.length_take]; rfl)) ?_
                with_reducible refine (rect_Move.calls t241 t242 t243 t244 t269 t270 t271 t272 t273 _ A17.out).mono ?_
                rintro e w49 ⟨rfl, hb⟩
                refine ⟨_, rfl, ?_⟩
                have n0_ := Aside0.mk (blk_below (g := gb245) (o := .cells #[.int .i64 t241, .int .i64 t242, .int .i64 t243, .int .i64 t244] 23 (0, 0)) (by (with_reducible repeat (first | refine blk_drewN ?_ _ | refine blk_drew ?_ | refine blk_alloc ?_ _)); exact BK245.out) hb)
                have n1_ := Aside0.mk (blk_below (g := gb250) (o := .cells #[.int .i64 t246, .int .i64 t247, .int .i64 t248, .int .i64 t249] 23 (0, 0)) (by (with_reducible repeat (first | refine blk_drewN ?_ _ | refine blk_drew ?_ | refine blk_alloc ?_ _)); exact BK250.out) hb)
                have n2_ := Aside0.mk (blk_below (g := gb255) (o := .cells #[.int .i64 t251, .int .i64 t252, .int .i64 t253, .int .i64 t254] 23 (0, 0)) (by (with_reducible repeat (first | refine blk_drewN ?_ _ | refine blk_drew ?_ | refine blk_alloc ?_ _)); exact BK255.out) hb)
                have n3_ := Aside0.mk (below_step (by repeat (first | (with_reducible first | exact HB.out | apply below_alloc | apply pw_below_drewN | apply below_drew1 | refine below_set ?_ GE245.out | refine below_set ?_ GE250.out | refine below_set ?_ GE255.out) | exact HB.out)) hb)
                clear BK245
                clear BK250
                clear BK255
                clear HB
                have BK245 := n0_
                have BK250 := n1_
                have BK255 := n2_
                have HB := n3_
                clear n0_ n1_ n2_ n3_
                (try clear hb)
                (try clear hb2)
                (try clear hk)
                (try clear hi)
                refine hK.out _ _ ⟨(blk_cell BK255.out 0).trans rfl, (blk_cell BK255.out 1).trans rfl, (blk_cell BK255.out 2).trans rfl, (blk_cell BK255.out 3).trans rfl, (blk_cell BK245.out 0).trans rfl, (blk_cell BK245.out 1).trans rfl, (blk_cell BK245.out 2).trans rfl, (blk_cell BK245.out 3).trans rfl, (blk_cell BK250.out 0).trans rfl, (blk_cell BK250.out 1).trans rfl, (blk_cell BK250.out 2).trans rfl, (blk_cell BK250.out 3).trans rfl⟩ (fun hHeld => ?_)
                clear hK K
                refine norm_ (a' := ?_) ?_ ?_
                rotate_left
                · show Act.put _ (some 38) _ = _
                  simp only [Act.put, List.setIfInBounds_toArray, List.set_cons_zero, List.set_cons_succ, i64_w, i32_w]
                  rfl
                refine pure_ (i := 31) (N := some 40) (v := ?_) (a' := ?_) #[true, true, true, true, true, true, true, true, true, true, true, true, true, true, true, true, true, true, true, true, true, true, true, true, true, true, true, true, true, true, true, true, false, false, false, false, false, false, false, false, false, false, false, false, false, false, false, false, false, false, false, false] rfl rfl (any_of HT_.out (by kernel_rfl)) (fun _ _ _ h => h) (Or.inl ⟨by rfl, ?_⟩) ?_ ?_
                rotate_left
                · intro w'
                  go_simp
                  with_reducible rfl
                rotate_left
                · simp only [Act.put, List.setIfInBounds_toArray, List.set_cons_zero, List.set_cons_succ, i64_w, i32_w]
                  rfl
                refine pure_ (i := 32) (N := some 41) (v := ?_) (a' := ?_) #[true, true, true, true, true, true, true, true, true, true, true, true, true, true, true, true, true, true, true, true, true, true, true, true, true, true, true, true, true, true, true, true, true, false, false, false, false, false, false, false, false, false, false, false, false, false, false, false, false, false, false, false] rfl rfl (any_of HT_.out (by kernel_rfl)) (fun _ _ _ h => h) (Or.inl ⟨by rfl, ?_⟩) ?_ ?_
                rotate_left
                · intro w'
                  go_simp
                  with_reducible rfl
                rotate_left
                · simp only [Act.put, List.setIfInBounds_toArray, List.set_cons_zero, List.set_cons_succ, i64_w, i32_w]
                  rfl
                refine pure_ (i := 33) (N := some 42) (v := ?_) (a' := ?_) #[true, true, true, true, true, true, true, true, true, true, true, true, true, true, true, true, true, true, true, true, true, true, true, true, true, true, true, true, true, true, true, true, true, true, false, false, false, false, false, false, false, false, false, false, false, false, false, false, false, false, false, false] rfl rfl (any_of HT_.out (by kernel_rfl)) (fun _ _ _ h => h) (Or.inl ⟨by rfl, ?_⟩) ?_ ?_
                rotate_left
                · intro w'
                  go_simp
                  with_reducible rfl
                rotate_left
                · simp only [Act.put, List.setIfInBounds_toArray, List.set_cons_zero, List.set_cons_succ, i64_w, i32_w]
                  rfl
                refine pure_ (i := 35) (N := some 44) (v := ?_) (a' := ?_) #[true, true, true, true, true, true, true, true, true, true, true, true, true, true, true, true, true, true, true, true, true, true, true, true, true, true, true, true, true, true, true, true, true, true, false, true, false, false, false, false, false, false, false, false, false, false, false, false, false, false, false, false] rfl rfl (any_of HT_.out (by kernel_rfl)) (fun _ _ _ h => h) (Or.inl ⟨by rfl, ?_⟩) ?_ ?_
                rotate_left
                · intro w'
                  go_simp
                  with_reducible rfl
                rotate_left
                · simp only [Act.put, List.setIfInBounds_toArray, List.set_cons_zero, List.set_cons_succ, i64_w, i32_w]
                  rfl
                refine pure_ (i := 37) (N := some 46) (v := ?_) (a' := ?_) #[true, true, true, true, true, true, true, true, true, true, true, true, true, true, true, true, true, true, true, true, true, true, true, true, true, true, true, true, true, true, true, true, true, true, false, true, false, true, false, false, false, false, false, false, false, false, false, false, false, false, false, false] rfl rfl (any_of HT_.out (by kernel_rfl)) (fun _ _ _ h => h) (Or.inl ⟨by rfl, ?_⟩) ?_ ?_
                rotate_left
                · intro w'
                  go_simp
                  with_reducible rfl
                rotate_left
                · simp only [Act.put, List.setIfInBounds_toArray, List.set_cons_zero, List.set_cons_succ, i64_w, i32_w]
                  rfl
                refine take_ (i := 34) (N := some 43) (v := ?_) (a' := ?_) #[true, true, true, true, true, true, true, true, true, true, true, true, true, true, true, true, true, true, true, true, true, true, true, true, true, true, true, true, true, true, true, true, true, true, true, true, false, true, false, false, false, false, false, false, false, false, false, false, false, false, false, false] rfl rfl (take_ofW HT_.out HW_.out (by kernel_rfl)) (fun _ _ _ h => h) (Or.inl ⟨by rfl, ?_⟩) hHeld ?_ ?_
                rotate_left
                · rintro w' ⟨s0, s1, s2, s3, s4, s5, s6, s7, s8, s9, s10, s11⟩
                  go_simp
                  with_reducible rfl
                rotate_left
                · simp only [Act.put, List.setIfInBounds_toArray, List.set_cons_zero, List.set_cons_succ, i64_w, i32_w]
                  rfl
                refine take_ (i := 39) (N := some 48) (v := ?_) (a' := ?_) #[true, true, true, true, true, true, true, true, true, true, true, true, true, true, true, true, true, true, true, true, true, true, true, true, true, true, true, true, true, true, true, true, true, true, true, true, false, true, false, true, false, false, false, false, false, false, false, false, false, false, false, false] rfl rfl (take_ofW HT_.out HW_.out (by kernel_rfl)) (fun _ _ _ h => h) (Or.inl ⟨by rfl, ?_⟩) hHeld ?_ ?_
                rotate_left
                · rintro w' ⟨s0, s1, s2, s3, s4, s5, s6, s7, s8, s9, s10, s11⟩
                  go_simp
                  with_reducible rfl
                rotate_left
                · simp only [Act.put, List.setIfInBounds_toArray, List.set_cons_zero, List.set_cons_succ, i64_w, i32_w]
                  rfl
                refine one_ (i := 36) (N := some 45) #[true, true, true, true, true, true, true, true, true, true, true, true, true, true, true, true, true, true, true, true, true, true, true, true, true, true, true, true, true, true, true, true, true, true, true, true, true, true, false, true, false, false, false, false, false, false, false, false, false, false, false, false] rfl rfl (one_of HT_.out (by kernel_rfl)) (by decide) (fun K hK => ?_)
                refine goes_ Try.func9 (by kernel_rfl) rfl #[.agg #[.int .i64 t241, .int .i64 t242, .int .i64 t243, .int .i64 t244], .agg #[.int .i64 1, .int .i64 2, .int .i64 3, .int .i64 4]] (by rfl) rfl rfl (by (try simp only [List.map_toArray, List.map_cons, List.map_nil]); first | done | rfl | (simp only [List.length_drop, List.length_take]; rfl)) ?_
                with_reducible refine (rect_Outset.calls t241 t242 t243 t244 1 2 3 4 t274 t275 t276 t277 _ A19.out).mono ?_
                rintro e w50 ⟨rfl, hb⟩
                refine ⟨_, rfl, ?_⟩
                have n0_ := Aside0.mk (blk_below (g := gb245) (o := .cells #[.int .i64 t241, .int .i64 t242, .int .i64 t243, .int .i64 t244] 23 (0, 0)) (by (with_reducible repeat (first | refine blk_drewN ?_ _ | refine blk_drew ?_ | refine blk_alloc ?_ _)); exact BK245.out) hb)
                have n1_ := Aside0.mk (blk_below (g := gb250) (o := .cells #[.int .i64 t246, .int .i64 t247, .int .i64 t248, .int .i64 t249] 23 (0, 0)) (by (with_reducible repeat (first | refine blk_drewN ?_ _ | refine blk_drew ?_ | refine blk_alloc ?_ _)); exact BK250.out) hb)
                have n2_ := Aside0.mk (blk_below (g := gb255) (o := .cells #[.int .i64 t251, .int .i64 t252, .int .i64 t253, .int .i64 t254] 23 (0, 0)) (by (with_reducible repeat (first | refine blk_drewN ?_ _ | refine blk_drew ?_ | refine blk_alloc ?_ _)); exact BK255.out) hb)
                have n3_ := Aside0.mk (below_step (by repeat (first | (with_reducible first | exact HB.out | apply below_alloc | apply pw_below_drewN | apply below_drew1 | refine below_set ?_ GE245.out | refine below_set ?_ GE250.out | refine below_set ?_ GE255.out) | exact HB.out)) hb)
                clear BK245
                clear BK250
                clear BK255
                clear HB
                have BK245 := n0_
                have BK250 := n1_
                have BK255 := n2_
                have HB := n3_
                clear n0_ n1_ n2_ n3_
                (try clear hb)
                (try clear hb2)
                (try clear hk)
                (try clear hi)
                refine hK.out _ _ ⟨(blk_cell BK255.out 0).trans rfl, (blk_cell BK255.out 1).trans rfl, (blk_cell BK255.out 2).trans rfl, (blk_cell BK255.out 3).trans rfl, (blk_cell BK245.out 0).trans rfl, (blk_cell BK245.out 1).trans rfl, (blk_cell BK245.out 2).trans rfl, (blk_cell BK245.out 3).trans rfl, (blk_cell BK250.out 0).trans rfl, (blk_cell BK250.out 1).trans rfl, (blk_cell BK250.out 2).trans rfl, (blk_cell BK250.out 3).trans rfl⟩ (fun hHeld => ?_)
                clear hK K
                refine norm_ (a' := ?_) ?_ ?_
                rotate_left
                · show Act.put _ (some 45) _ = _
                  simp only [Act.put, List.setIfInBounds_toArray, List.set_cons_zero, List.set_cons_succ, i64_w, i32_w]
                  rfl
                refine one_ (i := 38) (N := some 47) #[true, true, true, true, true, true, true, true, true, true, true, true, true, true, true, true, true, true, true, true, true, true, true, true, true, true, true, true, true, true, true, true, true, true, true, true, true, true, true, true, false, false, false, false, false, false, false, false, false, false, false, false] rfl rfl (one_of HT_.out (by kernel_rfl)) (by decide) (fun K hK => ?_)
                refine goes_ Try.func8 (by kernel_rfl) rfl #[.agg #[.int .i64 t274, .int .i64 t275, .int .i64 t276, .int .i64 t277], .agg #[.int .i64 1, .int .i64 2, .int .i64 3, .int .i64 4]] (by rfl) rfl rfl (by (try simp only [List.map_toArray, List.map_cons, List.map_nil]); first | done | rfl | (simp only [List.length_drop, List.length_take]; rfl)) ?_
                with_reducible refine (rect_Inset.calls t274 t275 t276 t277 1 2 3 4 t278 t279 t280 t281 _ A20.out).mono ?_
                rintro e w51 ⟨rfl, hb⟩
                refine ⟨_, rfl, ?_⟩
                have n0_ := Aside0.mk (blk_below (g := gb245) (o := .cells #[.int .i64 t241, .int .i64 t242, .int .i64 t243, .int .i64 t244] 23 (0, 0)) (by (with_reducible repeat (first | refine blk_drewN ?_ _ | refine blk_drew ?_ | refine blk_alloc ?_ _)); exact BK245.out) hb)
                have n1_ := Aside0.mk (blk_below (g := gb250) (o := .cells #[.int .i64 t246, .int .i64 t247, .int .i64 t248, .int .i64 t249] 23 (0, 0)) (by (with_reducible repeat (first | refine blk_drewN ?_ _ | refine blk_drew ?_ | refine blk_alloc ?_ _)); exact BK250.out) hb)
                have n2_ := Aside0.mk (blk_below (g := gb255) (o := .cells #[.int .i64 t251, .int .i64 t252, .int .i64 t253, .int .i64 t254] 23 (0, 0)) (by (with_reducible repeat (first | refine blk_drewN ?_ _ | refine blk_drew ?_ | refine blk_alloc ?_ _)); exact BK255.out) hb)
                have n3_ := Aside0.mk (below_step (by repeat (first | (with_reducible first | exact HB.out | apply below_alloc | apply pw_below_drewN | apply below_drew1 | refine below_set ?_ GE245.out | refine below_set ?_ GE250.out | refine below_set ?_ GE255.out) | exact HB.out)) hb)
                clear BK245
                clear BK250
                clear BK255
                clear HB
                have BK245 := n0_
                have BK250 := n1_
                have BK255 := n2_
                have HB := n3_
                clear n0_ n1_ n2_ n3_
                (try clear hb)
                (try clear hb2)
                (try clear hk)
                (try clear hi)
                refine hK.out _ _ ⟨(blk_cell BK255.out 0).trans rfl, (blk_cell BK255.out 1).trans rfl, (blk_cell BK255.out 2).trans rfl, (blk_cell BK255.out 3).trans rfl, (blk_cell BK245.out 0).trans rfl, (blk_cell BK245.out 1).trans rfl, (blk_cell BK245.out 2).trans rfl, (blk_cell BK245.out 3).trans rfl, (blk_cell BK250.out 0).trans rfl, (blk_cell BK250.out 1).trans rfl, (blk_cell BK250.out 2).trans rfl, (blk_cell BK250.out 3).trans rfl⟩ (fun hHeld => ?_)
                clear hK K
                refine norm_ (a' := ?_) ?_ ?_
                rotate_left
                · show Act.put _ (some 47) _ = _
                  simp only [Act.put, List.setIfInBounds_toArray, List.set_cons_zero, List.set_cons_succ, i64_w, i32_w]
                  rfl
                refine pure_ (i := 40) (N := some 49) (v := ?_) (a' := ?_) #[true, true, true, true, true, true, true, true, true, true, true, true, true, true, true, true, true, true, true, true, true, true, true, true, true, true, true, true, true, true, true, true, true, true, true, true, true, true, true, true, true, false, false, false, false, false, false, false, false, false, false, false] rfl rfl (any_of HT_.out (by kernel_rfl)) (fun _ _ _ h => h) (Or.inl ⟨by rfl, ?_⟩) ?_ ?_
                rotate_left
                · intro w'
                  go_simp
                  with_reducible rfl
                rotate_left
                · simp only [Act.put, List.setIfInBounds_toArray, List.set_cons_zero, List.set_cons_succ, i64_w, i32_w]
                  rfl
                refine pure_ (i := 41) (N := some 50) (v := ?_) (a' := ?_) #[true, true, true, true, true, true, true, true, true, true, true, true, true, true, true, true, true, true, true, true, true, true, true, true, true, true, true, true, true, true, true, true, true, true, true, true, true, true, true, true, true, true, false, false, false, false, false, false, false, false, false, false] rfl rfl (any_of HT_.out (by kernel_rfl)) (fun _ _ _ h => h) (Or.inl ⟨by rfl, ?_⟩) ?_ ?_
                rotate_left
                · intro w'
                  go_simp
                  with_reducible rfl
                rotate_left
                · simp only [Act.put, List.setIfInBounds_toArray, List.set_cons_zero, List.set_cons_succ, i64_w, i32_w]
                  rfl
                refine pure_ (i := 42) (N := some 51) (v := ?_) (a' := ?_) #[true, true, true, true, true, true, true, true, true, true, true, true, true, true, true, true, true, true, true, true, true, true, true, true, true, true, true, true, true, true, true, true, true, true, true, true, true, true, true, true, true, true, true, false, false, false, false, false, false, false, false, false] rfl rfl (any_of HT_.out (by kernel_rfl)) (fun _ _ _ h => h) (Or.inl ⟨by rfl, ?_⟩) ?_ ?_
                rotate_left
                · intro w'
                  go_simp
                  with_reducible rfl
                rotate_left
                · simp only [Act.put, List.setIfInBounds_toArray, List.set_cons_zero, List.set_cons_succ, i64_w, i32_w]
                  rfl
                refine take_ (i := 43) (N := some 52) (v := ?_) (a' := ?_) #[true, true, true, true, true, true, true, true, true, true, true, true, true, true, true, true, true, true, true, true, true, true, true, true, true, true, true, true, true, true, true, true, true, true, true, true, true, true, true, true, true, true, true, true, false, false, false, false, false, false, false, false] rfl rfl (take_ofW HT_.out HW_.out (by kernel_rfl)) (fun _ _ _ h => h) (Or.inl ⟨by rfl, ?_⟩) hHeld ?_ ?_
                rotate_left
                · rintro w' ⟨s0, s1, s2, s3, s4, s5, s6, s7, s8, s9, s10, s11⟩
                  go_simp
                  with_reducible rfl
                rotate_left
                · simp only [Act.put, List.setIfInBounds_toArray, List.set_cons_zero, List.set_cons_succ, i64_w, i32_w]
                  rfl
                refine take_ (i := 45) (N := some 54) (v := ?_) (a' := ?_) #[true, true, true, true, true, true, true, true, true, true, true, true, true, true, true, true, true, true, true, true, true, true, true, true, true, true, true, true, true, true, true, true, true, true, true, true, true, true, true, true, true, true, true, true, false, true, false, false, false, false, false, false] rfl rfl (take_ofW HT_.out HW_.out (by kernel_rfl)) (fun _ _ _ h => h) (Or.inl ⟨by rfl, ?_⟩) hHeld ?_ ?_
                rotate_left
                · rintro w' ⟨s0, s1, s2, s3, s4, s5, s6, s7, s8, s9, s10, s11⟩
                  go_simp
                  with_reducible rfl
                rotate_left
                · simp only [Act.put, List.setIfInBounds_toArray, List.set_cons_zero, List.set_cons_succ, i64_w, i32_w]
                  rfl
                refine one_ (i := 44) (N := some 53) #[true, true, true, true, true, true, true, true, true, true, true, true, true, true, true, true, true, true, true, true, true, true, true, true, true, true, true, true, true, true, true, true, true, true, true, true, true, true, true, true, true, true, true, true, true, true, false, false, false, false, false, false] rfl rfl (one_of HT_.out (by kernel_rfl)) (by decide) (fun K hK => ?_)
                refine goes_ Try.func15 (by kernel_rfl) rfl #[.agg #[.int .i64 t241, .int .i64 t242, .int .i64 t243, .int .i64 t244]] (by rfl) rfl rfl (by (try simp only [List.map_toArray, List.map_cons, List.map_nil]); first | done | rfl | (simp only [List.length_drop, List.length_take]; rfl)) ?_
                with_reducible refine (rect_Across.calls t241 t242 t243 t244 t282 t283 _ A22.out).mono ?_
                rintro e w52 ⟨rfl, hb⟩
                refine ⟨_, rfl, ?_⟩
                have n0_ := Aside0.mk (blk_below (g := gb245) (o := .cells #[.int .i64 t241, .int .i64 t242, .int .i64 t243, .int .i64 t244] 23 (0, 0)) (by (with_reducible repeat (first | refine blk_drewN ?_ _ | refine blk_drew ?_ | refine blk_alloc ?_ _)); exact BK245.out) hb)
                have n1_ := Aside0.mk (blk_below (g := gb250) (o := .cells #[.int .i64 t246, .int .i64 t247, .int .i64 t248, .int .i64 t249] 23 (0, 0)) (by (with_reducible repeat (first | refine blk_drewN ?_ _ | refine blk_drew ?_ | refine blk_alloc ?_ _)); exact BK250.out) hb)
                have n2_ := Aside0.mk (blk_below (g := gb255) (o := .cells #[.int .i64 t251, .int .i64 t252, .int .i64 t253, .int .i64 t254] 23 (0, 0)) (by (with_reducible repeat (first | refine blk_drewN ?_ _ | refine blk_drew ?_ | refine blk_alloc ?_ _)); exact BK255.out) hb)
                have n3_ := Aside0.mk (below_step (by repeat (first | (with_reducible first | exact HB.out | apply below_alloc | apply pw_below_drewN | apply below_drew1 | refine below_set ?_ GE245.out | refine below_set ?_ GE250.out | refine below_set ?_ GE255.out) | exact HB.out)) hb)
                clear BK245
                clear BK250
                clear BK255
                clear HB
                have BK245 := n0_
                have BK250 := n1_
                have BK255 := n2_
                have HB := n3_
                clear n0_ n1_ n2_ n3_
                (try clear hb)
                (try clear hb2)
                (try clear hk)
                (try clear hi)
                refine hK.out _ _ ⟨(blk_cell BK255.out 0).trans rfl, (blk_cell BK255.out 1).trans rfl, (blk_cell BK255.out 2).trans rfl, (blk_cell BK255.out 3).trans rfl, (blk_cell BK245.out 0).trans rfl, (blk_cell BK245.out 1).trans rfl, (blk_cell BK245.out 2).trans rfl, (blk_cell BK245.out 3).trans rfl, (blk_cell BK250.out 0).trans rfl, (blk_cell BK250.out 1).trans rfl, (blk_cell BK250.out 2).trans rfl, (blk_cell BK250.out 3).trans rfl⟩ (fun hHeld => ?_)
                clear hK K
                refine norm_ (a' := ?_) ?_ ?_
                rotate_left
                · show Act.put _ (some 53) _ = _
                  simp only [Act.put, List.setIfInBounds_toArray, List.set_cons_zero, List.set_cons_succ, i64_w, i32_w]
                  rfl
                refine one_ (i := 46) (N := some 55) #[true, true, true, true, true, true, true, true, true, true, true, true, true, true, true, true, true, true, true, true, true, true, true, true, true, true, true, true, true, true, true, true, true, true, true, true, true, true, true, true, true, true, true, true, true, true, true, false, false, false, false, false] rfl rfl (one_of HT_.out (by kernel_rfl)) (by decide) (fun K hK => ?_)
                refine goes_ Try.func16 (by kernel_rfl) rfl #[.agg #[.int .i64 t246, .int .i64 t247, .int .i64 t248, .int .i64 t249]] (by rfl) rfl rfl (by (try simp only [List.map_toArray, List.map_cons, List.map_nil]); first | done | rfl | (simp only [List.length_drop, List.length_take]; rfl)) ?_
                with_reducible refine (rect_Down.calls t246 t247 t248 t249 t284 t285 _ A23.out).mono ?_
                rintro e w53 ⟨rfl, hb⟩
                refine ⟨_, rfl, ?_⟩
                have n0_ := Aside0.mk (blk_below (g := gb245) (o := .cells #[.int .i64 t241, .int .i64 t242, .int .i64 t243, .int .i64 t244] 23 (0, 0)) (by (with_reducible repeat (first | refine blk_drewN ?_ _ | refine blk_drew ?_ | refine blk_alloc ?_ _)); exact BK245.out) hb)
                have n1_ := Aside0.mk (blk_below (g := gb250) (o := .cells #[.int .i64 t246, .int .i64 t247, .int .i64 t248, .int .i64 t249] 23 (0, 0)) (by (with_reducible repeat (first | refine blk_drewN ?_ _ | refine blk_drew ?_ | refine blk_alloc ?_ _)); exact BK250.out) hb)
                have n2_ := Aside0.mk (blk_below (g := gb255) (o := .cells #[.int .i64 t251, .int .i64 t252, .int .i64 t253, .int .i64 t254] 23 (0, 0)) (by (with_reducible repeat (first | refine blk_drewN ?_ _ | refine blk_drew ?_ | refine blk_alloc ?_ _)); exact BK255.out) hb)
                have n3_ := Aside0.mk (below_step (by repeat (first | (with_reducible first | exact HB.out | apply below_alloc | apply pw_below_drewN | apply below_drew1 | refine below_set ?_ GE245.out | refine below_set ?_ GE250.out | refine below_set ?_ GE255.out) | exact HB.out)) hb)
                clear BK245
                clear BK250
                clear BK255
                clear HB
                have BK245 := n0_
                have BK250 := n1_
                have BK255 := n2_
                have HB := n3_
                clear n0_ n1_ n2_ n3_
                (try clear hb)
                (try clear hb2)
                (try clear hk)
                (try clear hi)
                refine hK.out _ _ ⟨(blk_cell BK255.out 0).trans rfl, (blk_cell BK255.out 1).trans rfl, (blk_cell BK255.out 2).trans rfl, (blk_cell BK255.out 3).trans rfl, (blk_cell BK245.out 0).trans rfl, (blk_cell BK245.out 1).trans rfl, (blk_cell BK245.out 2).trans rfl, (blk_cell BK245.out 3).trans rfl, (blk_cell BK250.out 0).trans rfl, (blk_cell BK250.out 1).trans rfl, (blk_cell BK250.out 2).trans rfl, (blk_cell BK250.out 3).trans rfl⟩ (fun hHeld => ?_)
                clear hK K
                refine norm_ (a' := ?_) ?_ ?_
                rotate_left
                · show Act.put _ (some 55) _ = _
                  simp only [Act.put, List.setIfInBounds_toArray, List.set_cons_zero, List.set_cons_succ, i64_w, i32_w]
                  rfl
                refine one_ (i := 47) (N := some 56) #[true, true, true, true, true, true, true, true, true, true, true, true, true, true, true, true, true, true, true, true, true, true, true, true, true, true, true, true, true, true, true, true, true, true, true, true, true, true, true, true, true, true, true, true, true, true, true, true, false, false, false, false] rfl rfl (one_of HT_.out (by kernel_rfl)) (by decide) (fun K hK => ?_)
                refine goes_ Try.func14 (by kernel_rfl) rfl #[.agg #[.int .i64 t282, .int .i64 t283], .agg #[.int .i64 t284, .int .i64 t285]] (by rfl) rfl rfl (by (try simp only [List.map_toArray, List.map_cons, List.map_nil]); first | done | rfl | (simp only [List.length_drop, List.length_take]; rfl)) ?_
                with_reducible refine (rect_By.calls t282 t283 t284 t285 t286 t287 t288 t289 _ A24.out).mono ?_
                rintro e w54 ⟨rfl, hb⟩
                refine ⟨_, rfl, ?_⟩
                have n0_ := Aside0.mk (blk_below (g := gb245) (o := .cells #[.int .i64 t241, .int .i64 t242, .int .i64 t243, .int .i64 t244] 23 (0, 0)) (by (with_reducible repeat (first | refine blk_drewN ?_ _ | refine blk_drew ?_ | refine blk_alloc ?_ _)); exact BK245.out) hb)
                have n1_ := Aside0.mk (blk_below (g := gb250) (o := .cells #[.int .i64 t246, .int .i64 t247, .int .i64 t248, .int .i64 t249] 23 (0, 0)) (by (with_reducible repeat (first | refine blk_drewN ?_ _ | refine blk_drew ?_ | refine blk_alloc ?_ _)); exact BK250.out) hb)
                have n2_ := Aside0.mk (blk_below (g := gb255) (o := .cells #[.int .i64 t251, .int .i64 t252, .int .i64 t253, .int .i64 t254] 23 (0, 0)) (by (with_reducible repeat (first | refine blk_drewN ?_ _ | refine blk_drew ?_ | refine blk_alloc ?_ _)); exact BK255.out) hb)
                have n3_ := Aside0.mk (below_step (by repeat (first | (with_reducible first | exact HB.out | apply below_alloc | apply pw_below_drewN | apply below_drew1 | refine below_set ?_ GE245.out | refine below_set ?_ GE250.out | refine below_set ?_ GE255.out) | exact HB.out)) hb)
                clear BK245
                clear BK250
                clear BK255
                clear HB
                have BK245 := n0_
                have BK250 := n1_
                have BK255 := n2_
                have HB := n3_
                clear n0_ n1_ n2_ n3_
                (try clear hb)
                (try clear hb2)
                (try clear hk)
                (try clear hi)
                refine hK.out _ _ ⟨(blk_cell BK255.out 0).trans rfl, (blk_cell BK255.out 1).trans rfl, (blk_cell BK255.out 2).trans rfl, (blk_cell BK255.out 3).trans rfl, (blk_cell BK245.out 0).trans rfl, (blk_cell BK245.out 1).trans rfl, (blk_cell BK245.out 2).trans rfl, (blk_cell BK245.out 3).trans rfl, (blk_cell BK250.out 0).trans rfl, (blk_cell BK250.out 1).trans rfl, (blk_cell BK250.out 2).trans rfl, (blk_cell BK250.out 3).trans rfl⟩ (fun hHeld => ?_)
                clear hK K
                refine norm_ (a' := ?_) ?_ ?_
                rotate_left
                · show Act.put _ (some 56) _ = _
                  simp only [Act.put, List.setIfInBounds_toArray, List.set_cons_zero, List.set_cons_succ, i64_w, i32_w]
                  rfl
                refine one_ (i := 48) (N := some 57) #[true, true, true, true, true, true, true, true, true, true, true, true, true, true, true, true, true, true, true, true, true, true, true, true, true, true, true, true, true, true, true, true, true, true, true, true, true, true, true, true, true, true, true, true, true, true, true, true, true, false, false, false] rfl rfl (one_of HT_.out (by kernel_rfl)) (by decide) (fun K hK => ?_)
                refine goes_ Try.func11 (by kernel_rfl) rfl #[.int .i64 0, .int .i64 5, .int .i64 10, .int .i64 10] (by rfl) rfl rfl (by (try simp only [List.map_toArray, List.map_cons, List.map_nil]); first | done | rfl | (simp only [List.length_drop, List.length_take]; rfl)) ?_
                with_reducible refine (rect_Of.calls 0 5 10 10 t290 t291 t292 t293 _ A25.out).mono ?_
                rintro e w55 ⟨rfl, hb⟩
                refine ⟨_, rfl, ?_⟩
                have n0_ := Aside0.mk (blk_below (g := gb245) (o := .cells #[.int .i64 t241, .int .i64 t242, .int .i64 t243, .int .i64 t244] 23 (0, 0)) (by (with_reducible repeat (first | refine blk_drewN ?_ _ | refine blk_drew ?_ | refine blk_alloc ?_ _)); exact BK245.out) hb)
                have n1_ := Aside0.mk (blk_below (g := gb250) (o := .cells #[.int .i64 t246, .int .i64 t247, .int .i64 t248, .int .i64 t249] 23 (0, 0)) (by (with_reducible repeat (first | refine blk_drewN ?_ _ | refine blk_drew ?_ | refine blk_alloc ?_ _)); exact BK250.out) hb)
                have n2_ := Aside0.mk (blk_below (g := gb255) (o := .cells #[.int .i64 t251, .int .i64 t252, .int .i64 t253, .int .i64 t254] 23 (0, 0)) (by (with_reducible repeat (first | refine blk_drewN ?_ _ | refine blk_drew ?_ | refine blk_alloc ?_ _)); exact BK255.out) hb)
                have n3_ := Aside0.mk (below_step (by repeat (first | (with_reducible first | exact HB.out | apply below_alloc | apply pw_below_drewN | apply below_drew1 | refine below_set ?_ GE245.out | refine below_set ?_ GE250.out | refine below_set ?_ GE255.out) | exact HB.out)) hb)
                clear BK245
                clear BK250
                clear BK255
                clear HB
                have BK245 := n0_
                have BK250 := n1_
                have BK255 := n2_
                have HB := n3_
                clear n0_ n1_ n2_ n3_
                (try clear hb)
                (try clear hb2)
                (try clear hk)
                (try clear hi)
                refine hK.out _ _ ⟨(blk_cell BK255.out 0).trans rfl, (blk_cell BK255.out 1).trans rfl, (blk_cell BK255.out 2).trans rfl, (blk_cell BK255.out 3).trans rfl, (blk_cell BK245.out 0).trans rfl, (blk_cell BK245.out 1).trans rfl, (blk_cell BK245.out 2).trans rfl, (blk_cell BK245.out 3).trans rfl, (blk_cell BK250.out 0).trans rfl, (blk_cell BK250.out 1).trans rfl, (blk_cell BK250.out 2).trans rfl, (blk_cell BK250.out 3).trans rfl⟩ (fun hHeld => ?_)
                clear hK K
                refine norm_ (a' := ?_) ?_ ?_
                rotate_left
                · show Act.put _ (some 57) _ = _
                  simp only [Act.put, List.setIfInBounds_toArray, List.set_cons_zero, List.set_cons_succ, i64_w, i32_w]
                  rfl
                refine pure_ (i := 49) (N := some 58) (v := ?_) (a' := ?_) #[true, true, true, true, true, true, true, true, true, true, true, true, true, true, true, true, true, true, true, true, true, true, true, true, true, true, true, true, true, true, true, true, true, true, true, true, true, true, true, true, true, true, true, true, true, true, true, true, true, true, false, false] rfl rfl (any_of HT_.out (by kernel_rfl)) (fun _ _ _ h => h) (Or.inl ⟨by rfl, ?_⟩) ?_ ?_
                rotate_left
                · intro w'
                  go_simp
                  with_reducible rfl
                rotate_left
                · simp only [Act.put, List.setIfInBounds_toArray, List.set_cons_zero, List.set_cons_succ, i64_w, i32_w]
                  rfl
                refine pure_ (i := 50) (N := some 59) (v := ?_) (a' := ?_) #[true, true, true, true, true, true, true, true, true, true, true, true, true, true, true, true, true, true, true, true, true, true, true, true, true, true, true, true, true, true, true, true, true, true, true, true, true, true, true, true, true, true, true, true, true, true, true, true, true, true, true, false] rfl rfl (any_of HT_.out (by kernel_rfl)) (fun _ _ _ h => h) (Or.inl ⟨by rfl, ?_⟩) ?_ ?_
                rotate_left
                · intro w'
                  go_simp
                  with_reducible rfl
                rotate_left
                · simp only [Act.put, List.setIfInBounds_toArray, List.set_cons_zero, List.set_cons_succ, i64_w, i32_w]
                  rfl
                refine pure_ (i := 51) (N := some 0) (v := ?_) (a' := ?_) #[true, true, true, true, true, true, true, true, true, true, true, true, true, true, true, true, true, true, true, true, true, true, true, true, true, true, true, true, true, true, true, true, true, true, true, true, true, true, true, true, true, true, true, true, true, true, true, true, true, true, true, true] rfl rfl (any_of HT_.out (by kernel_rfl)) (fun _ _ _ h => h) (Or.inl ⟨by rfl, ?_⟩) ?_ ?_
                rotate_left
                · intro w'
                  go_simp
                  with_reducible rfl
                rotate_left
                · simp only [Act.put, List.setIfInBounds_toArray, List.set_cons_zero, List.set_cons_succ, i64_w, i32_w]
                  rfl
                refine done_ (done_of HT_.out (by kernel_rfl)) ?_
                try go_wp2
                go_ret
                exact ⟨by first | rfl | (simp [errW_none, errW_some] <;> rfl) | (simp [*, errW_none, errW_some] <;> rfl), by repeat (first | (with_reducible first | exact HB.out | apply below_alloc | apply pw_below_drewN | apply below_drew1 | refine below_set ?_ GE245.out | refine below_set ?_ GE250.out | refine below_set ?_ GE255.out) | exact HB.out)⟩
              · rw [if_neg c21] at H
                exact absurd H (by simp)
            · rw [if_neg c18] at H
              exact absurd H (by simp)
          · replace c15 := Bool.eq_false_iff.mpr c15
            subst c15
            have H1 : (none) = some r := by rw [if_neg (show ¬ (false = true) by decide)] at H; exact H
            clear H
            have H := H1
            clear H1
            exact absurd H (by simp)
      · replace c10 := Bool.eq_false_iff.mpr c10
        subst c10
        have H1 : (none) = some r := by rw [if_neg (show ¬ (false = true) by decide)] at H; exact H
        clear H
        have H := H1
        clear H1
        exact absurd H (by simp)
    · rw [if_neg c7] at H
      exact absurd H (by simp)
  · rw [if_neg c4] at H
    exact absurd H (by simp)

end Go.Proofs.Ytnmcefpnpfaklae.V
