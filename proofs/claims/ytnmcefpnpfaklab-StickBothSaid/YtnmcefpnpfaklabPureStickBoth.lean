/- The law StickBoth holds of the printed functions. -/
import Derived.Test.YtnmcefpnpfaklabPlainStick
import Derived.Test.YtnmcefpnpfaklabVx0
import Derived.Test.YtnmcefpnpfaklabVx2
import Derived.Test.YtnmcefpnpfaklabVx8
import Derived.Test.YtnmcefpnpfaklabVx10
import Derived.Test.YtnmcefpnpfaklabVx11
import Derived.Test.YtnmcefpnpfaklabVx12
import Derived.Test.YtnmcefpnpfaklabVx14
import Derived.Test.YtnmcefpnpfaklabVx16
import Derived.Test.YtnmcefpnpfaklabVx19
import Derived.Test.YtnmcefpnpfaklabVx20
import Derived.Test.YtnmcefpnpfaklabVx21
import Derived.Test.YtnmcefpnpfaklabVx22
import Derived.Test.YtnmcefpnpfaklabVx23
namespace Go.Proofs.Ytnmcefpnpfaklab.Pure
open Go.RowKit Go.Proofs.Ytnmcefpnpfaklab.V Go.Proofs.Ytnmcefpnpfaklab.Flt Go.Proofs.Ytnmcefpnpfaklab.Plain Go.Proofs.YtnmcefpnpfaklabW.PrintWords Go.Proofs.YtnmcefpnpfaklabW.PrintLast Go.Proofs.YtnmcefpnpfaklabW.PrintMore
theorem rs0 (q : Nat) (hq : 1 ≤ q) (v h k0 n0 k1 n1 k2 n2 k3 n3 : Int) (o1 : Bool) (m1 : Int) (o2 : Bool) (m2 : Int) (o3 : Bool) (m3 : Int) : valanceref10_Sides.l0 (q + 1 + 1) v h 0 k0 n0 k1 n1 k2 n2 k3 n3 false 0 o1 m1 o2 m2 o3 m3 = valanceref10_Sides.l0 q v h 1 k0 n0 k1 n1 k2 n2 k3 n3 (vfixed k0 h) (vsid k0 n0 h) o1 m1 o2 m2 o3 m3 := by
  rw [valanceref10_Sides.l0, if_pos (by omega), if_neg (by decide), valanceref10_Sides.j1, if_pos rfl, ref_Fixed_eq, Option.bind_some, w64 (x := 0 + 1) (by omega) (by omega), show (0 : Int) + 1 = 1 by omega]
  unfold vsid
  cases hf : vfixed k0 h
  · rw [if_neg (by decide), if_neg (by decide)]
  · rw [if_pos rfl, ref_LOf_eq q hq, Option.bind_some, if_pos rfl]
theorem rs1 (q : Nat) (hq : 1 ≤ q) (v h k0 n0 k1 n1 k2 n2 k3 n3 : Int) (o0 : Bool) (m0 : Int) (o2 : Bool) (m2 : Int) (o3 : Bool) (m3 : Int) : valanceref10_Sides.l0 (q + 1 + 1) v h 1 k0 n0 k1 n1 k2 n2 k3 n3 o0 m0 false 0 o2 m2 o3 m3 = valanceref10_Sides.l0 q v h 2 k0 n0 k1 n1 k2 n2 k3 n3 o0 m0 (vfixed k1 v) (vsid k1 n1 v) o2 m2 o3 m3 := by
  rw [valanceref10_Sides.l0, if_pos (by omega), if_pos (by decide), valanceref10_Sides.j1, if_neg (by omega), if_pos rfl, ref_Fixed_eq, Option.bind_some, w64 (x := 1 + 1) (by omega) (by omega), show (1 : Int) + 1 = 2 by omega]
  unfold vsid
  cases hf : vfixed k1 v
  · rw [if_neg (by decide), if_neg (by decide)]
  · rw [if_pos rfl, ref_LOf_eq q hq, Option.bind_some, if_pos rfl]
theorem rs2 (q : Nat) (hq : 1 ≤ q) (v h k0 n0 k1 n1 k2 n2 k3 n3 : Int) (o0 : Bool) (m0 : Int) (o1 : Bool) (m1 : Int) (o3 : Bool) (m3 : Int) : valanceref10_Sides.l0 (q + 1 + 1) v h 2 k0 n0 k1 n1 k2 n2 k3 n3 o0 m0 o1 m1 false 0 o3 m3 = valanceref10_Sides.l0 q v h 3 k0 n0 k1 n1 k2 n2 k3 n3 o0 m0 o1 m1 (vfixed k2 h) (vsid k2 n2 h) o3 m3 := by
  rw [valanceref10_Sides.l0, if_pos (by omega), if_neg (by decide), valanceref10_Sides.j1, if_neg (by omega), if_neg (by omega), if_pos rfl, ref_Fixed_eq, Option.bind_some, w64 (x := 2 + 1) (by omega) (by omega), show (2 : Int) + 1 = 3 by omega]
  unfold vsid
  cases hf : vfixed k2 h
  · rw [if_neg (by decide), if_neg (by decide)]
  · rw [if_pos rfl, ref_LOf_eq q hq, Option.bind_some, if_pos rfl]
theorem rs3 (q : Nat) (hq : 1 ≤ q) (v h k0 n0 k1 n1 k2 n2 k3 n3 : Int) (o0 : Bool) (m0 : Int) (o1 : Bool) (m1 : Int) (o2 : Bool) (m2 : Int) : valanceref10_Sides.l0 (q + 1 + 1) v h 3 k0 n0 k1 n1 k2 n2 k3 n3 o0 m0 o1 m1 o2 m2 false 0 = valanceref10_Sides.l0 q v h 4 k0 n0 k1 n1 k2 n2 k3 n3 o0 m0 o1 m1 o2 m2 (vfixed k3 v) (vsid k3 n3 v) := by
  rw [valanceref10_Sides.l0, if_pos (by omega), if_pos (by decide), valanceref10_Sides.j1, if_neg (by omega), if_neg (by omega), if_neg (by omega), if_pos rfl, ref_Fixed_eq, Option.bind_some, w64 (x := 3 + 1) (by omega) (by omega), show (3 : Int) + 1 = 4 by omega]
  unfold vsid
  cases hf : vfixed k3 v
  · rw [if_neg (by decide), if_neg (by decide)]
  · rw [if_pos rfl, ref_LOf_eq q hq, Option.bind_some, if_pos rfl]
theorem rsides (v h k0 n0 k1 n1 k2 n2 k3 n3 : Int) : valanceref10_Sides.f 12 k0 n0 k1 n1 k2 n2 k3 n3 v h = some (vfixed k0 h, vsid k0 n0 h, vfixed k1 v, vsid k1 n1 v, vfixed k2 h, vsid k2 n2 h, vfixed k3 v, vsid k3 n3 v) := by
  unfold valanceref10_Sides.f
  rw [show (12 : Nat) = 10 + 1 + 1 from rfl, rs0 10 (by omega), show (10 : Nat) = 8 + 1 + 1 from rfl, rs1 8 (by omega), show (8 : Nat) = 6 + 1 + 1 from rfl, rs2 6 (by omega), show (6 : Nat) = 4 + 1 + 1 from rfl, rs3 4 (by omega), show (4 : Nat) = 3 + 1 from rfl, valanceref10_Sides.l0, if_neg (by omega)]
theorem both_eq (k : Nat) (hk : 2 ≤ k) (x0 x1 x2 x3 y0 y1 y2 y3 z0 z1 z2 z3 : Int) (o0 : Bool) (m0 : Int) (o1 : Bool) (m1 : Int) (o2 : Bool) (m2 : Int) (o3 : Bool) (m3 : Int) : ∃ p, stick_Both.f x0 x1 x2 x3 y0 y1 y2 y3 z0 z1 z2 z3 o0 m0 o1 m1 o2 m2 o3 m3 = some p ∧ valanceref10_Both.f k x0 x1 x2 x3 y0 y1 y2 y3 z0 z1 z2 z3 o0 m0 o1 m1 o2 m2 o3 m3 = some p := by
  unfold stick_Both.f valanceref10_Both.f
  simp only [valanceref04_Across.f, valanceref04_Down.f, valanceref03_Of.f, valanceref02_Of.f, ref_Cut_eq, ref_Add_eq, Option.bind_some, shift_eq 2 (by omega), ref_shift_eq k hk]
  exact ⟨_, rfl, rfl⟩
theorem both_l0 (x0 x1 x2 x3 y0 y1 y2 y3 z0 z1 z2 z3 : Int) (o0 : Bool) (m0 : Int) (o1 : Bool) (m1 : Int) (o2 : Bool) (m2 : Int) (o3 : Bool) (m3 : Int) : valancelaw10_StickBoth.l0 12 true 0 x0 x1 x2 x3 y0 y1 y2 y3 z0 z1 z2 z3 o0 m0 o1 m1 o2 m2 o3 m3 o0 m0 o1 m1 o2 m2 o3 m3 = some true := by
  obtain ⟨p, e1, e2⟩ := both_eq 7 (by omega) x0 x1 x2 x3 y0 y1 y2 y3 z0 z1 z2 z3 o0 m0 o1 m1 o2 m2 o3 m3
  rw [show (12 : Nat) = 11 + 1 from rfl, valancelaw10_StickBoth.l0, if_pos (by omega), if_pos rfl, valancelaw10_of.f, Option.bind_some, if_neg (by simp), w64 (x := 0 + 1) (by omega) (by omega), show (0 : Int) + 1 = 1 by omega,
    show (11 : Nat) = 10 + 1 from rfl, valancelaw10_StickBoth.l0, if_pos (by omega), if_neg (by omega), if_pos rfl, valancelaw10_of.f, Option.bind_some, if_neg (by simp), w64 (x := 1 + 1) (by omega) (by omega), show (1 : Int) + 1 = 2 by omega,
    show (10 : Nat) = 9 + 1 from rfl, valancelaw10_StickBoth.l0, if_pos (by omega), if_neg (by omega), if_neg (by omega), if_pos rfl, valancelaw10_of.f, Option.bind_some, if_neg (by simp), w64 (x := 2 + 1) (by omega) (by omega), show (2 : Int) + 1 = 3 by omega,
    show (9 : Nat) = 8 + 1 from rfl, valancelaw10_StickBoth.l0, if_pos (by omega), if_neg (by omega), if_neg (by omega), if_neg (by omega), if_pos rfl, valancelaw10_of.f, Option.bind_some, if_neg (by simp), w64 (x := 3 + 1) (by omega) (by omega), show (3 : Int) + 1 = 4 by omega,
    show (8 : Nat) = 7 + 1 from rfl, valancelaw10_StickBoth.l0, if_neg (by omega), if_pos rfl, e1, Option.bind_some, e2, Option.bind_some]
  unfold veq2; simp
theorem StickBoth : valancelaw10_StickBoth.Pure := by
  intro x0 x1 x2 x3 y0 y1 y2 y3 z0 z1 z2 z3 k0 n0 k1 n1 k2 n2 k3 n3 v h _ _ _ _ _ _ _ _ _ _ _ _ _ _ _ _ _ _ _ _ _ _
  refine ⟨12, ?_⟩
  unfold valancelaw10_StickBoth.f
  rw [show valancelaw10_works.f 12 = some true by decide +kernel, Option.bind_some, if_pos rfl, rsides]
  simp only [stick_Sides.f, Option.bind_some]
  exact both_l0 _ _ _ _ _ _ _ _ _ _ _ _ _ _ _ _ _ _ _ _
end Go.Proofs.Ytnmcefpnpfaklab.Pure
