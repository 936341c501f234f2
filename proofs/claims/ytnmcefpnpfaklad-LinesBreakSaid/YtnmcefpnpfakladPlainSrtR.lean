/- Rotations, walked. -/
import Derived.Test.YtnmcefpnpfakladProg
import Derived.Shelf.SlSortCmp.Insertion1
import Derived.Test.YtnmcefpnpfakladWWords
import Derived.Test.YtnmcefpnpfakladWLast
import Derived.Test.YtnmcefpnpfakladPlainSrt
import Derived.Sort.WalkA
import Derived.Sort.WalkB2
import Derived.Sort.WalkB12
import Derived.Deep.LoopGhost
import Derived.Sort.LotA
import Derived.Test.YtnmcefpnpfakladPlainSrtW
import Derived.Below
import Derived.RegionTactic
import Derived.Deep.RegionHeld3
import Derived.BigQuiet
import Derived.Deep.QuietTactic
import Derived.Deep.Cut
namespace Go.Proofs.Ytnmcefpnpfaklad.Srt
open Go.Shelf Go.RowKit Go.Lib Go.Sort Go.Proofs Go.Proofs.YtnmcefpnpfakladW.PrintWords Go.Proofs.YtnmcefpnpfakladW.PrintLast
variable {α : Type} [Inhabited α]
set_option maxHeartbeats 8000000 in
set_option maxRecDepth 1000000 in
theorem rot65 (enc : α → Value) (cv : Value) (blk off cap a m b : Nat) (d0 d : Array α) (w0 w : World) (R : Row1 enc w0 blk off d0) (hs : d0.size = d.size) (S : SW enc w0 blk off d w) (ham : a < m) (hmb : m < b) (hb : b ≤ d.size) (hsz : d.size < 4611686018427387904) :
    Calls Try.prog 65 #[.slice (some ⟨blk, off, none⟩) d.size cap, .int .i64 a, .int .i64 m, .int .i64 b, cv] w fun e w' => e = .returned (.tuple #[]) ∧ ∃ d', IsRot d a m b d' ∧ PermIn a b d d' ∧ SW enc w0 blk off d' w' := by
  have S0 : Aside (SW enc w0 blk off d w) := S
  clear S
  have r0 : IntKind.i64.wrap ((m : Int) - (a : Int)) = (m : Int) - (a : Int) := by rw [IntKind.wrap_i64]; omega
  have r1 : IntKind.i64.wrap ((b : Int) - (m : Int)) = (b : Int) - (m : Int) := by rw [IntKind.wrap_i64]; omega
  go_enter Try.func65, Try.ntmps65
  go_wp2
  go_loopg [10, 11] (m - a + (b - m)) (fun kx s10 s11 wr => ∃ (i j : Nat) (dk : Array α), s10 = .int .i64 i ∧ s11 = .int .i64 j ∧ 1 ≤ i ∧ 1 ≤ j ∧ i + a ≤ m ∧ m + j ≤ b ∧ i + j ≤ kx ∧ dk.size = d.size ∧ Aside (SW enc w0 blk off dk wr) ∧ Hid (∀ d', IsRot dk (m - i) m (m + j) d' → IsRot d a m b d') ∧ Hid (PermIn a b d dk))
  case atStart => exact ⟨m - a, b - m, d, by congr 1; omega, by congr 1; omega, by omega, by omega, by omega, by omega, Nat.le_refl _, rfl, S0, (show Hid _ from fun d' h => by rw [show m - (m - a) = a by omega, show m + (b - m) = b by omega] at h; exact h), (show Hid _ from permIn_refl d a b)⟩
  case round =>
    clear S0 r0 r1
    obtain ⟨i, j, dk, rfl, rfl, hi, hj, him, hjb, hkx, hsk, S1, HE, HP⟩ := hrel
    have r2 : IntKind.i64.wrap ((m : Int) - (i : Int)) = (m : Int) - (i : Int) := by rw [IntKind.wrap_i64]; omega
    rcases Nat.lt_trichotomy i j with hlt | heq | hgt
    · have n1 : ((i : Int) != (j : Int)) = true := bne_iff_ne.2 (by omega)
      have n2 : decide ((i : Int) > (j : Int)) = false := decide_eq_false (by omega)
      have r3 : IntKind.i64.wrap ((m : Int) + (j : Int)) = (m : Int) + (j : Int) := by rw [IntKind.wrap_i64]; omega
      have r4 : IntKind.i64.wrap ((m : Int) + (j : Int) - (i : Int)) = (m : Int) + (j : Int) - (i : Int) := by rw [IntKind.wrap_i64]; omega
      have r5 : IntKind.i64.wrap ((j : Int) - (i : Int)) = (j : Int) - (i : Int) := by rw [IntKind.wrap_i64]; omega
      have hc := swapR66 enc cv blk off cap (m - i) (m + j - i) i d0 dk w0 wr R (by omega) S1.out (by omega) (by omega) (by omega)
      rw [hsk, show ((m - i : Nat) : Int) = (m : Int) - (i : Int) by omega, show ((m + j - i : Nat) : Int) = (m : Int) + (j : Int) - (i : Int) by omega] at hc
      have HC := Aside0.mk hc
      clear hc S1
      go_wp2_with (go_at_call 66; refine (HC.out).mono ?_; rintro e w2 ⟨rfl, hS2⟩; have S2 : Aside (SW enc w0 blk off (swapRng dk (m - i) (m + j - i) i) w2) := hS2; clear hS2 HC)
      go_roundg (i + (j - i))
      case measure => omega
      case rel => exact ⟨i, j - i, swapRng dk (m - i) (m + j - i) i, rfl, by congr 1; omega, hi, by omega, him, by omega, Nat.le_refl _, by rw [swapRng_size]; exact hsk, S2, (show Hid _ from fun d' h => HE.out d' (IsRot.right dk d' m i j (by omega) hlt (by omega) (by omega) h)), (show Hid _ from permIn_trans _ _ _ _ _ HP.out (swapRng_perm dk _ _ _ a b (by omega) (by omega) (by omega) (by omega) (by omega)))⟩
    · subst heq
      have n1 : ((i : Int) != (i : Int)) = false := bne_eq_false_iff_eq.2 rfl
      have hc := swapR66 enc cv blk off cap (m - i) m i d0 dk w0 wr R (by omega) S1.out (by omega) (by omega) (by omega)
      rw [hsk, show ((m - i : Nat) : Int) = (m : Int) - (i : Int) by omega] at hc
      have HC := Aside0.mk hc
      clear hc S1
      go_wp2_with (go_at_call 66; refine (HC.out).mono ?_; rintro e w2 ⟨rfl, hS2⟩; have S2 : Aside (SW enc w0 blk off (swapRng dk (m - i) m i) w2) := hS2; clear hS2 HC)
      go_end0
      exact ⟨rfl, _, HE.out _ (IsRot.same dk m i (by omega) (by omega)), permIn_trans _ _ _ _ _ HP.out (swapRng_perm dk _ _ _ a b (by omega) (by omega) (by omega) (by omega) (by omega)), S2.out⟩
    · have n1 : ((i : Int) != (j : Int)) = true := bne_iff_ne.2 (by omega)
      have n2 : decide ((i : Int) > (j : Int)) = true := decide_eq_true (by omega)
      have r6 : IntKind.i64.wrap ((i : Int) - (j : Int)) = (i : Int) - (j : Int) := by rw [IntKind.wrap_i64]; omega
      have hc := swapR66 enc cv blk off cap (m - i) m j d0 dk w0 wr R (by omega) S1.out (by omega) (by omega) (by omega)
      rw [hsk, show ((m - i : Nat) : Int) = (m : Int) - (i : Int) by omega] at hc
      have HC := Aside0.mk hc
      clear hc S1
      go_wp2_with (go_at_call 66; refine (HC.out).mono ?_; rintro e w2 ⟨rfl, hS2⟩; have S2 : Aside (SW enc w0 blk off (swapRng dk (m - i) m j) w2) := hS2; clear hS2 HC)
      go_roundg (i - j + j)
      case measure => omega
      case rel => exact ⟨i - j, j, swapRng dk (m - i) m j, by congr 1; omega, rfl, by omega, hj, by omega, hjb, Nat.le_refl _, by rw [swapRng_size]; exact hsk, S2, (show Hid _ from fun d' h => HE.out d' (IsRot.left dk d' m i j (by omega) hgt (by omega) (by omega) h)), (show Hid _ from permIn_trans _ _ _ _ _ HP.out (swapRng_perm dk _ _ _ a b (by omega) (by omega) (by omega) (by omega) (by omega)))⟩
end Go.Proofs.Ytnmcefpnpfaklad.Srt
