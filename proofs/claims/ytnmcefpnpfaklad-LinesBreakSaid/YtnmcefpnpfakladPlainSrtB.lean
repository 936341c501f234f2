/- Merging where the last part is one element, walked. -/
import Derived.Test.YtnmcefpnpfakladProg
import Derived.Shelf.SlSortCmp.Insertion1
import Derived.Test.YtnmcefpnpfakladWWords
import Derived.Test.YtnmcefpnpfakladWLast
import Derived.Test.YtnmcefpnpfakladPlainSrt
import Derived.Sort.WalkA
import Derived.Sort.WalkB2
import Derived.Sort.WalkB12
import Derived.Deep.LoopGhost
import Derived.Sort.LotA
import Derived.Test.YtnmcefpnpfakladPlainSrtW
import Derived.Below
import Derived.RegionTactic
import Derived.Deep.RegionHeld3
import Derived.BigQuiet
import Derived.Deep.QuietTactic
import Derived.Deep.Cut
namespace Go.Proofs.Ytnmcefpnpfaklad.Srt
open Go.Shelf Go.RowKit Go.Lib Go.Sort Go.Proofs Go.Proofs.YtnmcefpnpfakladW.PrintWords Go.Proofs.YtnmcefpnpfakladW.PrintLast
variable {α : Type} [Inhabited α]
set_option maxHeartbeats 8000000 in
set_option maxRecDepth 1000000 in
theorem sym64b (enc : α → Value) (cf : α → α → Int) (tb : α → Nat) (hO : SWO (ltOf cf)) (g : Nat) (cb : Array Value) (blk off cap a m b : Nat) (d0 d : Array α) (w0 w : World)
    (eg : ∀ args w, (callFunc g args).run Try.prog w = .ok (.enter g args) w) (hcmp : CmpLays1 Try.prog g cb enc cf blk off d0.size w0) (R : Row1 enc w0 blk off d0) (hs : d0.size = d.size) (S : SW enc w0 blk off d w) (hsz : d.size < 4611686018427387904)
    (_ : a < m) (hmb : m < b) (hb : b ≤ d.size) (h1 : SortedIn (ltOf cf) a m d) (h2 : SortedIn (ltOf cf) m b d) (hst : StI (ltOf cf) tb d) (htwo : a + 2 ≤ m) (hone : b - m = 1) :
    Calls Try.prog 64 #[.slice (some ⟨blk, off, none⟩) d.size cap, .int .i64 a, .int .i64 m, .int .i64 b, .func (.func g) #[] cb] w fun e w' => e = .returned (.tuple #[]) ∧ ∃ d', PermIn a b d d' ∧ SortedIn (ltOf cf) a b d' ∧ StI (ltOf cf) tb d' ∧ SW enc w0 blk off d' w' := by
  have mixed : Try.prog.follows .mixedOrders = true := by kernel_rfl
  have t3 := Try.underlying3
  have a24 : ∀ w, (isAgg 3).run Try.prog w = .ok false w := fun _ => by kernel_rfl
  have z24 : ∀ w, (Go.sizeOf 3).run Try.prog w = .ok 1 w := fun _ => by kernel_rfl
  have v24 : ∀ w, (zeroValue 3).run Try.prog w = .ok (Value.int IntKind.i64 0) w := fun _ => by kernel_rfl
  have u22 := run_underlying (P := Try.prog) Try.underlying23
  have hcl0 := R.hO.cells
  simp only [Value.cells] at hcl0
  have hst0 := R.hO.store Try.prog
  have HC : Aside _ := hcmp
  have S0 : Aside (SW enc w0 blk off d w) := S
  have H1 := Aside0.mk h1
  have H2 := Aside0.mk h2
  have HST := Aside0.mk hst
  clear S hcmp h1 h2 hst
  have hm1 : b ≤ m + 1 := by omega
  have n0 : ((m : Int) - (a : Int) == 1) = false := beq_eq_false_iff_ne.2 (by omega)
  have r0 : IntKind.i64.wrap ((m : Int) - (a : Int)) = (m : Int) - (a : Int) := by rw [IntKind.wrap_i64]; omega
  have hma : (b : Int) - (m : Int) = 1 := by omega
  have r1 : IntKind.i64.wrap ((b : Int) - (m : Int)) = 1 := by rw [IntKind.wrap_i64]; omega
  have r01 : IntKind.i64.wrap 1 = 1 := rfl
  clear hone
  go_enter Try.func64, Try.ntmps64
  go_wp2
  clear hma r0 r01 n0 r1
  go_loopg [14, 15] (m - a) (fun kx s14 s15 wr => ∃ i j : Nat, s14 = .int .i64 i ∧ s15 = .int .i64 j ∧ a ≤ i ∧ i ≤ j ∧ j ≤ m ∧ j - i ≤ kx ∧ Aside (SW enc w0 blk off d wr) ∧ Hid (∀ k, a ≤ k → k < i → ltOf cf d[m]! d[k]! = false) ∧ Hid (∀ k, j ≤ k → k < m → ltOf cf d[m]! d[k]! = true))
  case atStart => exact ⟨a, m, rfl, rfl, by omega, by omega, by omega, by omega, S0, (show Hid _ from fun k e1 e2 => by omega), (show Hid _ from fun k e1 e2 => by omega)⟩
  case round =>
    clear S0
    obtain ⟨i, j, rfl, rfl, hai, hij, hjb, hkx, S1, HL, HR⟩ := hrel
    by_cases hlt : i < j
    · have hltd : decide ((i : Int) < (j : Int)) = true := decide_eq_true (by omega)
      obtain ⟨h, hh1, hh2, hz⟩ : ∃ h : Nat, i ≤ h ∧ h < j ∧ ((i : Int) + (j : Int)) / 2 = (h : Int) := ⟨(i + j) / 2, by omega, by omega, by omega⟩
      have r1 : IntKind.i64.wrap ((i : Int) + (j : Int)) = (i : Int) + (j : Int) := by rw [IntKind.wrap_i64]; omega
      have r2 : IntKind.u64.wrap ((i : Int) + (j : Int)) = (i : Int) + (j : Int) := by simp [IntKind.wrap, IntKind.bits, IntKind.signed]; omega
      have r3 : IntKind.i64.wrap (((i : Int) + (j : Int)) / 2) = (h : Int) := by rw [IntKind.wrap_i64]; omega
      go_wp2
      clear r1 r2 r3 hz
      cases hlv : ltOf cf d[m]! d[h]! with
      | true =>
        obtain ⟨pa1, hpa1⟩ : ∃ q, q = m := ⟨_, rfl⟩
        obtain ⟨pb1, hpb1⟩ : ∃ q, q = h := ⟨_, rfl⟩
        have ea1 : ((m : Int)).toNat = pa1 := by omega
        have la1 : (0 : Int) ≤ (m : Int) := by omega
        have ua1 : (m : Int) < (d.size : Int) := by omega
        have ra1 : IntKind.i64.wrap ((m : Int)) = (m : Int) := by rw [IntKind.wrap_i64]; omega
        have eb1 : ((h : Int)).toNat = pb1 := by omega
        have lb1 : (0 : Int) ≤ (h : Int) := by omega
        have ub1 : (h : Int) < (d.size : Int) := by omega
        have rb1 : IntKind.i64.wrap ((h : Int)) = (h : Int) := by rw [IntKind.wrap_i64]; omega
        obtain ⟨x1, hx1⟩ : ∃ x, x = (d)[m]! := ⟨_, rfl⟩
        obtain ⟨y1, hy1⟩ : ∃ x, x = (d)[h]! := ⟨_, rfl⟩
        have c1a := S1.out.cl R (by omega) (m) (by omega)
        have c1b := S1.out.cl R (by omega) (h) (by omega)
        rw [← hx1, ← hpa1] at c1a
        rw [← hy1, ← hpb1] at c1b
        have hc1 := S1.out.cmp HC.out (by omega) x1 y1
        have hd1 : decide (cf x1 y1 < 0) = true := by rw [hx1, hy1]; exact hlv
        clear hx1 hy1 hpa1 hpb1
        go_wp2_with fail
        go_quiet_grown (first | (go_at_fn g; refine Calls.grown_of (hc1 _ _)))
        have S2 : Aside (SW enc w0 blk off (d) (grow (wr.drewN nq) osq)) := S1.out.grown nq osq
        clear c1a c1b hc1 S1
        generalize grow (wr.drewN nq) osq = w2 at S2 ⊢
        clear nq osq
        clear ea1 eb1
        go_wp2
        go_roundg (h - i)
        case measure => omega
        case rel => exact ⟨i, h, rfl, rfl, hai, by omega, by omega, Nat.le_refl _, S2, HL, (show Hid _ from fun k e1 e2 => by
          rcases Nat.lt_or_ge h k with e3 | e3
          · exact swo_lt_le hO hlv (H1.out h k (by omega) e3 e2)
          · obtain rfl : k = h := by omega
            exact hlv)⟩
      | false =>
        obtain ⟨pa2, hpa2⟩ : ∃ q, q = m := ⟨_, rfl⟩
        obtain ⟨pb2, hpb2⟩ : ∃ q, q = h := ⟨_, rfl⟩
        have ea2 : ((m : Int)).toNat = pa2 := by omega
        have la2 : (0 : Int) ≤ (m : Int) := by omega
        have ua2 : (m : Int) < (d.size : Int) := by omega
        have ra2 : IntKind.i64.wrap ((m : Int)) = (m : Int) := by rw [IntKind.wrap_i64]; omega
        have eb2 : ((h : Int)).toNat = pb2 := by omega
        have lb2 : (0 : Int) ≤ (h : Int) := by omega
        have ub2 : (h : Int) < (d.size : Int) := by omega
        have rb2 : IntKind.i64.wrap ((h : Int)) = (h : Int) := by rw [IntKind.wrap_i64]; omega
        obtain ⟨x2, hx2⟩ : ∃ x, x = (d)[m]! := ⟨_, rfl⟩
        obtain ⟨y2, hy2⟩ : ∃ x, x = (d)[h]! := ⟨_, rfl⟩
        have c2a := S1.out.cl R (by omega) (m) (by omega)
        have c2b := S1.out.cl R (by omega) (h) (by omega)
        rw [← hx2, ← hpa2] at c2a
        rw [← hy2, ← hpb2] at c2b
        have hc2 := S1.out.cmp HC.out (by omega) x2 y2
        have hd2 : decide (cf x2 y2 < 0) = false := by rw [hx2, hy2]; exact hlv
        clear hx2 hy2 hpa2 hpb2
        go_wp2_with fail
        go_quiet_grown (first | (go_at_fn g; refine Calls.grown_of (hc2 _ _)))
        have S2 : Aside (SW enc w0 blk off (d) (grow (wr.drewN nq) osq)) := S1.out.grown nq osq
        clear c2a c2b hc2 S1
        generalize grow (wr.drewN nq) osq = w2 at S2 ⊢
        clear nq osq
        clear ea2 eb2
        go_wp2
        go_roundg (j - (h + 1))
        case measure => omega
        case rel => exact ⟨h + 1, j, by first | rfl | go_num | (congr 1; omega), rfl, by omega, by omega, hjb, Nat.le_refl _, S2, (show Hid _ from fun k e1 e2 => by
          rcases Nat.lt_or_ge k h with e3 | e3
          · exact hO.ntrans _ _ _ hlv (H1.out k h e1 e3 (by omega))
          · obtain rfl : k = h := by omega
            exact hlv), HR⟩
    · obtain rfl : i = j := by omega
      have hltd : decide ((i : Int) < (i : Int)) = false := decide_eq_false (by omega)
      go_wp2
      go_loopg [17] (m - i) (fun kx s17 wr => ∃ (k : Nat) (dk : Array α), s17 = .int .i64 k ∧ i ≤ k ∧ k ≤ m ∧ k - i ≤ kx ∧ dk.size = d.size ∧ Aside (SW enc w0 blk off dk wr) ∧ Hid (IsRot d k m (m + 1) dk) ∧ Hid (PermIn a b d dk))
      case atStart => exact ⟨m, d, rfl, by omega, Nat.le_refl _, Nat.le_refl _, rfl, S1, (show Hid _ from IsRot.none_left d m (m + 1)), (show Hid _ from permIn_refl d a b)⟩
      case round =>
        clear S1
        obtain ⟨k, dk, rfl, hak, hki, hk2, hsk, S1, HI, HP⟩ := hrel
        by_cases hlt2 : i < k
        · obtain ⟨q, hq⟩ : ∃ q, q + 1 = k := ⟨k - 1, by omega⟩
          have zq : (k : Int) = (q : Int) + 1 := by omega
          have hd2 : decide ((q : Int) + 1 > (i : Int)) = true := decide_eq_true (by omega)
          have hd3 : (i : Int) < (q : Int) + 1 := by omega
          go_wp2
          obtain ⟨pa3, hpa3⟩ : ∃ q, q = k := ⟨_, rfl⟩
          obtain ⟨pb3, hpb3⟩ : ∃ q, q = k - 1 := ⟨_, rfl⟩
          have ea3 : ((q : Int) + 1).toNat = pa3 := by omega
          have la3 : (0 : Int) ≤ (q : Int) + 1 := by omega
          have ua3 : (q : Int) + 1 < (d.size : Int) := by omega
          have ra3 : IntKind.i64.wrap ((q : Int) + 1) = (q : Int) + 1 := by rw [IntKind.wrap_i64]; omega
          have eb3 : ((q : Int)).toNat = pb3 := by omega
          have lb3 : (0 : Int) ≤ (q : Int) := by omega
          have ub3 : (q : Int) < (d.size : Int) := by omega
          have rb3 : IntKind.i64.wrap ((q : Int)) = (q : Int) := by rw [IntKind.wrap_i64]; omega
          obtain ⟨x3, hx3⟩ : ∃ x, x = (dk)[k]! := ⟨_, rfl⟩
          obtain ⟨y3, hy3⟩ : ∃ x, x = (dk)[k - 1]! := ⟨_, rfl⟩
          have S2 : Aside (SW enc w0 blk off (swp (dk) (k) (k - 1)) ((wr.setCell ⟨blk, off + pa3, none⟩ (enc y3)).setCell ⟨blk, off + pb3, none⟩ (enc x3)).drew) := by rw [hpa3, hpb3, hx3, hy3]; exact S1.out.swapped R (k) (k - 1) (by omega) (by omega)
          have c3a := S1.out.c1 R (by omega) (k) (by omega)
          have c3b := S1.out.c1 R (by omega) (k - 1) (by omega)
          have f3a := S1.out.f1 R (by omega) (k) (by omega)
          have f3b := S1.out.f1 R (by omega) (k - 1) (by omega)
          obtain ⟨z3, c3c⟩ := S1.out.c2 R (by omega) (k) (k - 1) (by omega) (by omega) (enc y3)
          rw [← hpb3, ← hpa3] at c3c
          rw [← hx3, ← hpa3] at c3a
          rw [← hy3, ← hpb3] at c3b
          rw [← hpa3] at f3a
          rw [← hpb3] at f3b
          clear S1 hx3 hy3 hpa3 hpb3
          go_wp2_with fail
          go_big_region_o
          clear c3a c3b c3c f3a f3b
          generalize ((wr.setCell ⟨blk, off + pa3, none⟩ (enc y3)).setCell ⟨blk, off + pb3, none⟩ (enc x3)).drew = w2 at S2 ⊢
          clear ea3 eb3
          go_wp2
          go_roundg (k - 1 - i)
          case measure => omega
          case rel => exact ⟨k - 1, swp dk k (k - 1), by first | rfl | go_num | (congr 1; omega), by omega, by omega, Nat.le_refl _, by rw [size_swp]; exact hsk, S2, (show Hid _ from by
            have h := IsRot.down (d := d) (dk := dk) (k := q) (m := m) (by omega) (by omega) (by rw [hq]; exact HI.out)
            rw [hq] at h
            rw [show k - 1 = q by omega]
            exact h), (show Hid _ from permIn_trans _ _ _ _ _ HP.out (swp_permIn _ _ _ _ _ (by omega) (by omega) (by omega) (by omega) (by omega)))⟩
        · obtain rfl : k = i := by omega
          have hd2 : decide ((k : Int) > (k : Int)) = false := decide_eq_false (by omega)
          go_wp2
          refine bodyPost_ret (results_none rfl _ _ _) rfl ?_
          have hm := merge_back hO (show m + 1 ≤ d.size by omega) hsk hai hki H1.out HST.out HL.out HR.out HI.out
          rw [show m + 1 = b by omega] at hm
          exact ⟨rfl, dk, HP.out, hm.1, hm.2, S1.out⟩
end Go.Proofs.Ytnmcefpnpfaklad.Srt
