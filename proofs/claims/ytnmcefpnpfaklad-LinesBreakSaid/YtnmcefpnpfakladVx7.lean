/- What the functions of this seat answer, as plain Lean functions, and that the calls come to just that (written by a program of this repo, over the kit's printer; Lean checks it). -/
import Derived.Test.YtnmcefpnpfakladVx0
import Derived.Test.YtnmcefpnpfakladVx2
import Derived.Test.YtnmcefpnpfakladVx6
namespace Go.Proofs.Ytnmcefpnpfaklad.V
open Go.RowKit Go.Proofs.YtnmcefpnpfakladW.PrintWords Go.Proofs.YtnmcefpnpfakladW.PrintLast Go.Proofs.YtnmcefpnpfakladW.PrintMore
attribute [local go_sem] max2_int min2_int max_two min_two max_three min_three max_four min_four   -- for this text's walks alone
set_option linter.unusedVariables false
set_option linter.unusedSimpArgs false


theorem and_low (x : Int) (h0 : 0 ≤ x) (h1 : x < 18446744073709551616) : Go.bits .and .u64 x 4294967295 = x % 4294967296 :=
  bits_mask .u64 64 (by decide) (fun n a b => u64_ a (by omega)) 32 (by decide) x h0 h1
theorem fix_times_eq (k : Nat) (hk : 1 ≤ k) (a b : Int) (a0 : 0 ≤ a) (a1 : a ≤ 1099511627776) (b0 : 0 ≤ b) (b1 : b ≤ 1099511627776) :
    fix_times.f k a b = some (if a * b > 1099511627776 then 1099511627776 else a * b) := by
  obtain ⟨k, rfl⟩ : ∃ m, k = m + 1 := ⟨k - 1, by omega⟩
  unfold fix_times.f
  simp only [fix_times.j0, if_true, decide_eq_true_eq]
  rw [and_low a (by omega) (by omega), and_low b (by omega) (by omega)]
  have ea : a = a / 4294967296 * 4294967296 + a % 4294967296 := by omega
  have eb : b = b / 4294967296 * 4294967296 + b % 4294967296 := by omega
  obtain ⟨ah, hah⟩ : ∃ x, x = a / 4294967296 := ⟨_, rfl⟩
  obtain ⟨al, hal⟩ : ∃ x, x = a % 4294967296 := ⟨_, rfl⟩
  obtain ⟨bh, hbh⟩ : ∃ x, x = b / 4294967296 := ⟨_, rfl⟩
  obtain ⟨bl, hbl⟩ : ∃ x, x = b % 4294967296 := ⟨_, rfl⟩
  rw [← hah, ← hal] at ea
  rw [← hbh, ← hbl] at eb
  rw [← hah, ← hal, ← hbh, ← hbl]
  have r1 : 0 ≤ ah ∧ ah ≤ 256 := by omega
  have r2 : 0 ≤ al ∧ al ≤ 4294967295 := by omega
  have r3 : 0 ≤ bh ∧ bh ≤ 256 := by omega
  have r4 : 0 ≤ bl ∧ bl ≤ 4294967295 := by omega
  have em : a * b = ah * bh * 18446744073709551616 + (al * bh + ah * bl) * 4294967296 + al * bl := by
    rw [ea, eb]
    simp only [Int.add_mul, Int.mul_add]
    have t1 : ah * 4294967296 * (bh * 4294967296) = ah * bh * 18446744073709551616 := by
      rw [show (18446744073709551616 : Int) = 4294967296 * 4294967296 by decide]; ac_rfl
    have t2 : al * (bh * 4294967296) = al * bh * 4294967296 := by ac_rfl
    have t3 : ah * 4294967296 * bl = ah * bl * 4294967296 := by ac_rfl
    omega
  clear ea eb hah hal hbh hbl
  rw [em]
  have p1 := vmul_bd (x := ah) (p := bh) (A := 256) (B := 256) (by omega) r1.2 r3.1 r3.2 (by omega)
  have p1' := Int.mul_nonneg r1.1 r3.1
  have p2 := vmul_bd (x := al) (p := bh) (A := 4294967295) (B := 256) (by omega) r2.2 r3.1 r3.2 (by omega)
  have p2' := Int.mul_nonneg r2.1 r3.1
  have p3 := vmul_bd (x := ah) (p := bl) (A := 256) (B := 4294967295) (by omega) r1.2 r4.1 r4.2 (by omega)
  have p3' := Int.mul_nonneg r1.1 r4.1
  have p4 := vmul_bd (x := al) (p := bl) (A := 4294967295) (B := 4294967295) (by omega) r2.2 r4.1 r4.2 (by omega)
  have p4' := Int.mul_nonneg r2.1 r4.1
  clear em r1 r2 r3 r4
  generalize ah * bh = P at *
  generalize al * bh = Q at *
  generalize ah * bl = R at *
  generalize al * bl = S at *
  rw [u64_ (x := P) (by omega) (by omega), u64_ (x := Q) (by omega) (by omega), u64_ (x := R) (by omega) (by omega), u64_ (x := Q + R) (by omega) (by omega)]
  by_cases h1 : P > 0
  · rw [if_pos h1, if_pos (by omega)]
  · rw [if_neg h1]
    by_cases h2 : (Q + R) / 4294967296 > 0
    · rw [if_pos h2, if_pos (by omega)]
    · rw [if_neg h2]
      rw [u64_ (x := S) (by omega) (by omega), u64_ (x := (Q + R) * 4294967296) (by omega) (by omega)]
      have hP : P = 0 := by omega
      subst hP
      by_cases h3 : (Q + R) * 4294967296 + S ≤ 18446744073709551615
      · rw [u64_ (x := (Q + R) * 4294967296 + S) (by omega) (by omega), if_neg (by omega)]
        by_cases h4 : (Q + R) * 4294967296 + S > 1099511627776
        · rw [if_pos h4, if_pos (by omega)]
        · rw [if_neg h4, if_neg (by omega), w64 (by omega) (by omega)]
          simp only [Option.some.injEq]; omega
      · have hw : IntKind.u64.wrap ((Q + R) * 4294967296 + S) = (Q + R) * 4294967296 + S - 18446744073709551616 := by
          simp [IntKind.wrap, IntKind.bits, IntKind.signed]; omega
        rw [hw, if_pos (by omega), if_pos (by omega)]


/-! ### fix_size: function 61 -/
def fix_size.f (a0 : Int) : Option (Int) := if a0 < 0 then (some (IntKind.u64.wrap (wrap64 (-a0)))) else (some (IntKind.u64.wrap (a0)))
set_option maxHeartbeats 8000000 in
set_option maxRecDepth 100000 in
theorem fix_size.calls (a0 : Int) (r : Int) (w : World) (h : fix_size.f a0 = some r) :
    Calls Try.prog 61 #[.int .i64 a0] w fun e w' => e = .returned (.int .u64 r) ∧ Drawn0 w w' := by
  have H : (if a0 < 0 then (some (IntKind.u64.wrap (wrap64 (-a0)))) else (some (IntKind.u64.wrap (a0)))) = some r := h
  clear h
  by_cases c2 : a0 < 0
  · rw [if_pos c2] at H
    have c2b0 : decide (a0 < 0) = true := decide_eq_true c2
    clear c2
    obtain rfl := Option.some.inj H
    go_enter Try.func61, Try.ntmps61
    go_wp2
    go_ret
    exact ⟨by first | rfl | (simp; done) | (simp [*]; done), by repeat (first | exact Drawn0.refl _ | apply Drawn0.step)⟩
  · rw [if_neg c2] at H
    have c2b0 : decide (a0 < 0) = false := decide_eq_false c2
    clear c2
    obtain rfl := Option.some.inj H
    go_enter Try.func61, Try.ntmps61
    go_wp2
    go_ret
    exact ⟨by first | rfl | (simp; done) | (simp [*]; done), by repeat (first | exact Drawn0.refl _ | apply Drawn0.step)⟩


theorem fix_size_eq (a : Int) (h1 : -1099511627776 ≤ a) (h2 : a ≤ 1099511627776) : fix_size.f a = some (if a < 0 then -a else a) := by
  unfold fix_size.f
  split
  · rw [w64 (by omega) (by omega), u64_ (by omega) (by omega)]
  · rw [u64_ (by omega) (by omega)]


end Go.Proofs.Ytnmcefpnpfaklad.V
