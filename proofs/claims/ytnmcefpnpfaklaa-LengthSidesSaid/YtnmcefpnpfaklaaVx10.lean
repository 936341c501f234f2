/- What the functions of this seat answer, as plain Lean functions, and that the calls come to just that (written by a program of this repo, over the kit's printer; Lean checks it). -/
import Derived.Test.YtnmcefpnpfaklaaVx0
import Derived.Test.YtnmcefpnpfaklaaVx2
import Derived.Test.YtnmcefpnpfaklaaVx3
import Derived.Test.YtnmcefpnpfaklaaVx5
import Derived.Test.YtnmcefpnpfaklaaVx7
import Derived.Test.YtnmcefpnpfaklaaVx8
import Derived.Test.YtnmcefpnpfaklaaVx9
namespace Go.Proofs.Ytnmcefpnpfaklaa.V
open Go.RowKit Go.Proofs.Ytnmcefpnpfaklaa.Flt Go.Proofs.YtnmcefpnpfaklaaW.PrintWords Go.Proofs.YtnmcefpnpfaklaaW.PrintLast Go.Proofs.YtnmcefpnpfaklaaW.PrintMore
attribute [local go_sem high] run_eql_vpt2 run_neq_vpt2 eqGuard_vpt2 vpt2_zero run_add_vpt2
attribute [local go_sem] max2_int min2_int max_two min_two max_three min_three max_four min_four   -- for this text's walks alone
set_option linter.unusedVariables false
set_option linter.unusedSimpArgs false


theorem works05_eq : valancelaw05_works.f = some true := by
  unfold valancelaw05_works.f
  simp only [length_Of_eq, length_Fixed_eq, length_Limit_eq, length_Sides_eq, length_Valid_eq, Option.bind_some]
  decide

/-! ### valanceref01_Cut: function 33 -/
def valanceref01_Cut.f (a0 : Int) : Option (Int) := if a0 > 1099511627776 then (some 1099511627776) else (if a0 < (-1099511627776) then (some (-1099511627776)) else (some a0))
set_option maxHeartbeats 8000000 in
set_option maxRecDepth 100000 in
theorem valanceref01_Cut.calls (a0 : Int) (r : Int) (w : World) (h : valanceref01_Cut.f a0 = some r) :
    Calls Try.prog 33 #[.int .i64 a0] w fun e w' => e = .returned (.int .i64 r) ∧ Drawn0 w w' := by
  have H : (if a0 > 1099511627776 then (some 1099511627776) else (if a0 < (-1099511627776) then (some (-1099511627776)) else (some a0))) = some r := h
  clear h
  by_cases c2 : a0 > 1099511627776
  · rw [if_pos c2] at H
    have c2b0 : decide (1099511627776 < a0) = true := decide_eq_true c2
    clear c2
    obtain rfl := Option.some.inj H
    go_enter Try.func33, Try.ntmps33
    go_wp2
    go_ret
    exact ⟨by first | rfl | (simp; done) | (simp [*]; done), by repeat (first | exact Drawn0.refl _ | apply Drawn0.step)⟩
  · rw [if_neg c2] at H
    have c2b0 : decide (1099511627776 < a0) = false := decide_eq_false c2
    clear c2
    by_cases c3 : a0 < (-1099511627776)
    · rw [if_pos c3] at H
      have c3b0 : decide (a0 < (-1099511627776)) = true := decide_eq_true c3
      clear c3
      obtain rfl := Option.some.inj H
      go_enter Try.func33, Try.ntmps33
      go_wp2
      go_ret
      exact ⟨by first | rfl | (simp; done) | (simp [*]; done), by repeat (first | exact Drawn0.refl _ | apply Drawn0.step)⟩
    · rw [if_neg c3] at H
      have c3b0 : decide (a0 < (-1099511627776)) = false := decide_eq_false c3
      clear c3
      obtain rfl := Option.some.inj H
      go_enter Try.func33, Try.ntmps33
      go_wp2
      go_ret
      exact ⟨by first | rfl | (simp; done) | (simp [*]; done), by repeat (first | exact Drawn0.refl _ | apply Drawn0.step)⟩


theorem ref_Cut_eq (a : Int) : valanceref01_Cut.f a = some (vcut a) := by
  unfold valanceref01_Cut.f vcut; (repeat' split) <;> rfl


/-! ### valanceref01_Down: function 43 -/
def valanceref01_Down.f (a0 : Int) (a1 : Int) : Option (Int) := if a1 = 0 then (none) else (if (Int.tmod a0 a1) < 0 then (some (wrap64 ((wrap64 (Int.tdiv a0 a1)) - 1))) else (some (wrap64 (Int.tdiv a0 a1))))
set_option maxHeartbeats 8000000 in
set_option maxRecDepth 100000 in
theorem valanceref01_Down.calls (a0 : Int) (a1 : Int) (r : Int) (w : World) (h : valanceref01_Down.f a0 a1 = some r) :
    Calls Try.prog 43 #[.int .i64 a0, .int .i64 a1] w fun e w' => e = .returned (.int .i64 r) ∧ Drawn0 w w' := by
  have H : (if a1 = 0 then (none) else (if (Int.tmod a0 a1) < 0 then (some (wrap64 ((wrap64 (Int.tdiv a0 a1)) - 1))) else (some (wrap64 (Int.tdiv a0 a1))))) = some r := h
  clear h
  by_cases c3 : a1 = 0
  · rw [if_pos c3] at H
    exact absurd H (by simp)
  · rw [if_neg c3] at H
    have c3b0 : (a1 == 0) = false := beq_eq_false_iff_ne.mpr c3
    have c3b1 : (a1 != 0) = true := bne_iff_ne.mpr c3
    by_cases c4 : (Int.tmod a0 a1) < 0
    · rw [if_pos c4] at H
      have c4b0 : decide ((Int.tmod a0 a1) < 0) = true := decide_eq_true c4
      clear c4
      obtain rfl := Option.some.inj H
      go_enter Try.func43, Try.ntmps43
      go_wp2
      go_ret
      exact ⟨by first | rfl | (simp; done) | (simp [*]; done), by repeat (first | exact Drawn0.refl _ | apply Drawn0.step)⟩
    · rw [if_neg c4] at H
      have c4b0 : decide ((Int.tmod a0 a1) < 0) = false := decide_eq_false c4
      clear c4
      obtain rfl := Option.some.inj H
      go_enter Try.func43, Try.ntmps43
      go_wp2
      go_ret
      exact ⟨by first | rfl | (simp; done) | (simp [*]; done), by repeat (first | exact Drawn0.refl _ | apply Drawn0.step)⟩


theorem ref_Down_eq (a b : Int) (ha : -4611686018427387904 ≤ a) (ha2 : a ≤ 4611686018427387904) (hb : 0 < b) (hb2 : b ≤ 4611686018427387904) : valanceref01_Down.f a b = some (a / b) := by
  unfold valanceref01_Down.f
  obtain ⟨t1, t2⟩ := tdiv_floor (a := a) hb
  obtain ⟨d1, d2⟩ := ediv_bd (a := a) hb
  have hm := Int.tmod_def a b
  rw [Int.mul_comm] at hm
  rw [if_neg (by omega)]
  by_cases hc : 0 ≤ a ∨ b ∣ a
  · obtain ⟨e, g⟩ := t1 hc
    rw [e] at hm
    rw [e, if_neg (by omega), w64 (by omega) (by omega)]
  · obtain ⟨e, g⟩ := t2 hc
    rw [e] at hm
    rw [e, if_pos (by omega), w64 (x := a / b + 1) (by omega) (by omega), w64 (by omega) (by omega)]
    simp only [Option.some.injEq]; omega


end Go.Proofs.Ytnmcefpnpfaklaa.V
