/- Stable sorting by a closure, walked. -/
import Derived.Test.YtnmcefpnpfakladProg
import Derived.Shelf.SlSortCmp.Insertion1
import Derived.Test.YtnmcefpnpfakladWWords
import Derived.Test.YtnmcefpnpfakladWLast
import Derived.Test.YtnmcefpnpfakladPlainSrt
import Derived.Sort.WalkA
import Derived.Sort.WalkB2
import Derived.Sort.WalkB12
import Derived.Deep.LoopGhost
import Derived.Sort.LotA
import Derived.Test.YtnmcefpnpfakladPlainSrtF
import Derived.Test.YtnmcefpnpfakladPlainSrtB
import Derived.Test.YtnmcefpnpfakladPlainSrtG
import Derived.Below
import Derived.RegionTactic
import Derived.Deep.RegionHeld3
import Derived.BigQuiet
import Derived.Deep.QuietTactic
import Derived.Deep.Cut
namespace Go.Proofs.Ytnmcefpnpfaklad.Srt
open Go.Shelf Go.RowKit Go.Lib Go.Sort Go.Proofs Go.Proofs.YtnmcefpnpfakladW.PrintWords Go.Proofs.YtnmcefpnpfakladW.PrintLast
variable {α : Type} [Inhabited α]
theorem sym64 (enc : α → Value) (cf : α → α → Int) (tb : α → Nat) (hO : SWO (ltOf cf)) (g : Nat) (cb : Array Value) (blk off cap : Nat) (d0 : Array α) (w0 : World)
    (eg : ∀ args w, (callFunc g args).run Try.prog w = .ok (.enter g args) w) (hcmp : CmpLays1 Try.prog g cb enc cf blk off d0.size w0) (R : Row1 enc w0 blk off d0) (hsz : d0.size < 4611686018427387904) :
    ∀ (N a m b : Nat) (d : Array α) (w : World), b - a < N → d0.size = d.size → SW enc w0 blk off d w → a < m → m < b → b ≤ d.size → SortedIn (ltOf cf) a m d → SortedIn (ltOf cf) m b d → StI (ltOf cf) tb d →
      Calls Try.prog 64 #[.slice (some ⟨blk, off, none⟩) d.size cap, .int .i64 a, .int .i64 m, .int .i64 b, .func (.func g) #[] cb] w fun e w' => e = .returned (.tuple #[]) ∧ ∃ d', PermIn a b d d' ∧ SortedIn (ltOf cf) a b d' ∧ StI (ltOf cf) tb d' ∧ SW enc w0 blk off d' w' := by
  intro N
  induction N with
  | zero => intro a m b d w hN; omega
  | succ N ih =>
    intro a m b d w hN hs S ham hmb hb h1 h2 hst
    by_cases c1 : m - a = 1
    · exact sym64f enc cf tb hO g cb blk off cap a m b d0 d w0 w eg hcmp R hs S (by omega) ham hmb hb h1 h2 hst c1
    · by_cases c2 : b - m = 1
      · exact sym64b enc cf tb hO g cb blk off cap a m b d0 d w0 w eg hcmp R hs S (by omega) ham hmb hb h1 h2 hst (by omega) c2
      · exact sym64g enc cf tb hO g cb blk off cap a m b d0 d w0 w eg hcmp R hs S (by omega) ham hmb hb h1 h2 hst (by omega) (by omega) N (by omega) ih
set_option maxHeartbeats 8000000 in
set_option maxRecDepth 1000000 in
theorem stab58 (enc : α → Value) (cf : α → α → Int) (tb : α → Nat) (hO : SWO (ltOf cf)) (g : Nat) (cb : Array Value) (blk off cap : Nat) (d0 d : Array α) (w0 w : World)
    (eg : ∀ args w, (callFunc g args).run Try.prog w = .ok (.enter g args) w) (hcmp : CmpLays1 Try.prog g cb enc cf blk off d0.size w0) (R : Row1 enc w0 blk off d0) (hs : d0.size = d.size) (S : SW enc w0 blk off d w) (hsz : d.size ≤ 4398046511104) (hst : StI (ltOf cf) tb d)
    (hsym : ∀ (a m b : Nat) (d : Array α) (w : World), d0.size = d.size → SW enc w0 blk off d w → a < m → m < b → b ≤ d.size → SortedIn (ltOf cf) a m d → SortedIn (ltOf cf) m b d → StI (ltOf cf) tb d →
      Calls Try.prog 64 #[.slice (some ⟨blk, off, none⟩) d.size cap, .int .i64 a, .int .i64 m, .int .i64 b, .func (.func g) #[] cb] w fun e w' => e = .returned (.tuple #[]) ∧ ∃ d', PermIn a b d d' ∧ SortedIn (ltOf cf) a b d' ∧ StI (ltOf cf) tb d' ∧ SW enc w0 blk off d' w') :
    Calls Try.prog 58 #[.slice (some ⟨blk, off, none⟩) d.size cap, .int .i64 d.size, .func (.func g) #[] cb] w fun e w' => e = .returned (.tuple #[]) ∧ ∃ d', PermIn 0 d.size d d' ∧ SortedIn (ltOf cf) 0 d.size d' ∧ StI (ltOf cf) tb d' ∧ SW enc w0 blk off d' w' := by
  have HSYM := Aside0.mk hsym
  have HINS := Aside0.mk (fun (a b : Nat) (dk : Array α) (wr : World) (h1 : d0.size = dk.size) (h2 : SW enc w0 blk off dk wr) (h3 : a ≤ b) (h4 : b ≤ dk.size) (h5 : dk.size < 4611686018427387904) => Any.insertionSortCmpFunc_s (P := Try.prog) (ρ := renI) layI enc cf g cb blk off cap a b d0 dk w0 wr eg hcmp R h1 h2 h3 h4 h5)
  have S0 : Aside (SW enc w0 blk off d w) := S
  have HST := Aside0.mk hst
  obtain ⟨n, hn⟩ : ∃ n, n = d.size := ⟨_, rfl⟩
  clear hcmp R S eg hsym hst
  rw [← hn] at hsz ⊢
  have HN := Aside0.mk hn
  clear hn
  go_enter Try.func58, Try.ntmps58
  go_wp2
  go_loopg [7, 8] n (fun kx s7 s8 wr => ∃ (a b : Nat) (dk : Array α), s7 = .int .i64 a ∧ s8 = .int .i64 b ∧ b ≤ a + 20 ∧ a + 20 ≤ b ∧ a ≤ n ∧ n - a ≤ kx ∧ Aside (SW enc w0 blk off dk wr) ∧ Aside0 (20 ∣ a) ∧ Hid (PermIn 0 n d dk) ∧ Hid (StI (ltOf cf) tb dk) ∧ Hid (∀ x, 20 ∣ x → x < a → SortedIn (ltOf cf) x (x + 20) dk))
  case atStart => exact ⟨0, 20, d, rfl, rfl, by omega, by omega, by omega, by omega, S0, ⟨Nat.dvd_zero _⟩, (show Hid _ from permIn_refl d 0 n), (show Hid _ from HST.out), (show Hid _ from fun x _ h => absurd h (Nat.not_lt_zero x))⟩
  case round =>
    clear S0 HST
    obtain ⟨a, b, dk, rfl, rfl, hab, hba, han, hkx, S1, HA, HP, HT, HR⟩ := hrel
    have hsk := HP.out.1.trans HN.out.symm
    by_cases hlt : b ≤ n
    · have hltd : decide ((b : Int) ≤ (n : Int)) = true := decide_eq_true (by omega)
      have hc := HINS.out a b dk wr (by rw [hs, ← HN.out, hsk]) S1.out (by omega) (by omega) (by omega)
      rw [hsk] at hc
      have HC1 := Aside0.mk hc
      have hi := Aside0.mk (insertionSort_holds hO dk a b (by omega) (by omega))
      have hi2 := Aside0.mk (insertion_st a b dk (by omega) HT.out)
      obtain ⟨b', hb1, hb2, hbz⟩ : ∃ b' : Nat, b' ≤ b + 20 ∧ b + 20 ≤ b' ∧ (b : Int) + 20 = (b' : Int) := ⟨b + 20, by omega, by omega, by omega⟩
      have r1 : IntKind.i64.wrap ((b : Int) + 20) = (b : Int) + 20 := by rw [IntKind.wrap_i64]; omega
      clear hc S1
      have hsk' := Aside0.mk hsk
      clear hsk
      go_wp2_with (go_at_call 63; refine (HC1.out).mono ?_; rintro e w2 ⟨rfl, hS2⟩; have S2 : Aside (SW enc w0 blk off (Sort.insertionSort (ltOf cf) dk a b) w2) := hS2; clear hS2 HC1)
      have hb20 : b = a + 20 := by omega
      go_roundg (n - b)
      case measure => omega
      case rel => exact ⟨b, b', _, rfl, rfl, hb1, hb2, hlt, Nat.le_refl _, S2, ⟨by rw [hb20]; exact (Nat.dvd_add_right HA.out).2 (Nat.dvd_refl _)⟩, (show Hid _ from permIn_trans _ _ _ _ _ HP.out (permIn_mono _ _ _ _ _ _ (Nat.zero_le _) hlt (by rw [hsk'.out]; exact Nat.le_refl _) hi.out.1)), (show Hid _ from hi2.out), (show Hid _ from fun x e1 e2 => by
        rcases Nat.lt_or_ge x a with h3 | h3
        · exact sorted_out hi.out.1 (.inl (mult_le e1 HA.out h3)) (HR.out x e1 h3)
        · obtain rfl := mult_eq e1 HA.out h3 (by omega)
          rw [← hb20]
          exact hi.out.2)⟩
    · have hltd : decide ((b : Int) ≤ (n : Int)) = false := decide_eq_false (by omega)
      have hc := HINS.out a n dk wr (by rw [hs, ← HN.out, hsk]) S1.out (by omega) (by omega) (by omega)
      rw [hsk] at hc
      have HC1 := Aside0.mk hc
      have hi := Aside0.mk (insertionSort_holds hO dk a n (by omega) (by omega))
      have hi2 := Aside0.mk (insertion_st a n dk (by omega) HT.out)
      have hP2 := Aside0.mk (permIn_trans _ _ _ _ _ HP.out (permIn_mono _ _ _ _ _ _ (Nat.zero_le _) (Nat.le_refl n) (by omega) hi.out.1))
      have hR2 := Aside0.mk (runs_first rfl HA.out HR.out han (by omega) hi.out.1 hi.out.2)
      clear hc S1 HP HT HR HA hi hsk
      go_wp2_with (go_at_call 63; refine (HC1.out).mono ?_; rintro e w2 ⟨rfl, hS2⟩; have S2 : Aside (SW enc w0 blk off (Sort.insertionSort (ltOf cf) dk a n) w2) := hS2; clear hS2 HC1)
      generalize Sort.insertionSort (ltOf cf) dk a n = d1 at *
      clear hltd hab hba hlt
      go_loopg [6] n (fun kx s6 wr => ∃ (bs : Nat) (dk : Array α), s6 = .int .i64 bs ∧ 0 < bs ∧ bs ≤ 2 * n + 20 ∧ n - bs ≤ kx ∧ Aside (SW enc w0 blk off dk wr) ∧ Hid (PermIn 0 n d dk) ∧ Hid (StI (ltOf cf) tb dk) ∧ Hid (Runs (ltOf cf) bs n dk))
      case atStart => exact ⟨20, d1, rfl, by omega, by omega, by omega, S2, hP2.out, hi2.out, hR2.out⟩
      case round =>
        clear S2 hP2 hi2 hR2
        obtain ⟨bs, dk, rfl, hb0, hb1, hkx, S1, HP, HT, HR⟩ := hrel
        by_cases hlt : bs < n
        · have hltd : decide ((bs : Int) < (n : Int)) = true := decide_eq_true (by omega)
          obtain ⟨b2, q1, q2, hz2⟩ : ∃ b2 : Nat, b2 ≤ 2 * bs ∧ 2 * bs ≤ b2 ∧ (2 : Int) * (bs : Int) = (b2 : Int) := ⟨2 * bs, by omega, by omega, by omega⟩
          have hz3 : (bs : Int) * 2 = (b2 : Int) := by omega
          have r2 : IntKind.i64.wrap ((2 : Int) * (bs : Int)) = (2 : Int) * (bs : Int) := by rw [IntKind.wrap_i64]; omega
          have r3 : IntKind.i64.wrap ((bs : Int) * 2) = (bs : Int) * 2 := by rw [IntKind.wrap_i64]; omega
          go_wp2
          go_loopg [7, 8] n (fun kx s7 s8 wr => ∃ (a b : Nat) (dk : Array α), s7 = .int .i64 a ∧ s8 = .int .i64 b ∧ b ≤ a + b2 ∧ a + b2 ≤ b ∧ a ≤ n ∧ n - a ≤ kx ∧ Aside (SW enc w0 blk off dk wr) ∧ Hid (PermIn 0 n d dk) ∧ Hid (StI (ltOf cf) tb dk) ∧ Hid (Mid (ltOf cf) bs n a dk))
          case atStart => exact ⟨0, b2, dk, rfl, rfl, by omega, by omega, by omega, by omega, S1, HP, HT, (show Hid _ from Mid.start HR.out)⟩
          case round =>
            clear S1 HP HT HR
            obtain ⟨a, b, dk, rfl, rfl, hab, hba, han, hkx, S1, HP, HT, HM⟩ := hrel
            have hsk := HP.out.1.trans HN.out.symm
            obtain ⟨m, m1, m2, hmz⟩ : ∃ m : Nat, m ≤ a + bs ∧ a + bs ≤ m ∧ (a : Int) + (bs : Int) = (m : Int) := ⟨a + bs, by omega, by omega, by omega⟩
            have r4 : IntKind.i64.wrap ((a : Int) + (bs : Int)) = (a : Int) + (bs : Int) := by rw [IntKind.wrap_i64]; omega
            by_cases hlt2 : b ≤ n
            · have hltd2 : decide ((b : Int) ≤ (n : Int)) = true := decide_eq_true (by omega)
              have hc := HSYM.out a m b dk wr (by rw [hs, ← HN.out, hsk]) S1.out (by omega) (by omega) (by omega) (HM.out.left hb0 (by omega) (by omega)) (HM.out.right (by omega) (by omega) (by omega)) HT.out
              rw [hsk] at hc
              have HC1 := Aside0.mk hc
              have HSK := Aside0.mk hsk
              obtain ⟨b', e1, e2, hbz⟩ : ∃ b' : Nat, b' ≤ b + b2 ∧ b + b2 ≤ b' ∧ (b : Int) + (b2 : Int) = (b' : Int) := ⟨b + b2, by omega, by omega, by omega⟩
              have r5 : IntKind.i64.wrap ((b : Int) + (b2 : Int)) = (b : Int) + (b2 : Int) := by rw [IntKind.wrap_i64]; omega
              clear hc S1 hsk
              go_wp2_with (go_at_call 64; refine (HC1.out).mono ?_; rintro e w2 ⟨rfl, hS2⟩; have S2 := Aside0.mk hS2; clear hS2 HC1)
              obtain ⟨d2, p2, so2, st2, SS⟩ := S2.out
              go_roundg (n - b)
              case measure => omega
              case rel => exact ⟨b, b', d2, rfl, rfl, e1, e2, hlt2, Nat.le_refl _, (show Aside _ from SS), (show Hid _ from permIn_trans _ _ _ _ _ HP.out (permIn_mono _ _ _ _ _ _ (Nat.zero_le _) hlt2 (by rw [HSK.out]; exact Nat.le_refl _) p2)), (show Hid _ from st2), (show Hid _ from HM.out.step (by omega) p2 so2)⟩
            · have hltd2 : decide ((b : Int) ≤ (n : Int)) = false := decide_eq_false (by omega)
              by_cases hlt3 : m < n
              · have hltd3 : decide ((m : Int) < (n : Int)) = true := decide_eq_true (by omega)
                have hc := HSYM.out a m n dk wr (by rw [hs, ← HN.out, hsk]) S1.out (by omega) hlt3 (by omega) (HM.out.left hb0 (by omega) (by omega)) (HM.out.right (by omega) (by omega) (by omega)) HT.out
                rw [hsk] at hc
                have HC1 := Aside0.mk hc
                have HSK := Aside0.mk hsk
                clear hc S1 hsk
                go_wp2_with (go_at_call 64; refine (HC1.out).mono ?_; rintro e w2 ⟨rfl, hS2⟩; have S2 := Aside0.mk hS2; clear hS2 HC1)
                obtain ⟨d2, p2, so2, st2, SS⟩ := S2.out
                go_roundg (n - b2)
                case measure => omega
                case rel => exact ⟨b2, d2, rfl, by omega, by omega, Nat.le_refl _, (show Aside _ from SS), (show Hid _ from permIn_trans _ _ _ _ _ HP.out (permIn_mono _ _ _ _ _ _ (Nat.zero_le _) (Nat.le_refl n) (by rw [HSK.out]; exact Nat.le_refl _) p2)), (show Hid _ from st2), (show Hid _ from HM.out.fin (by omega) han (by omega) p2 so2)⟩
              · have hltd3 : decide ((m : Int) < (n : Int)) = false := decide_eq_false (by omega)
                go_wp2
                go_roundg (n - b2)
                case measure => omega
                case rel => exact ⟨b2, dk, rfl, by omega, by omega, Nat.le_refl _, S1, HP, HT, (show Hid _ from HM.out.fin2 hb0 (by omega) han (by omega))⟩
        · have hltd : decide ((bs : Int) < (n : Int)) = false := decide_eq_false (by omega)
          go_wp2
          go_end0
          exact ⟨rfl, dk, HP.out, runs_all HR.out (by omega), HT.out, S1.out⟩
set_option maxHeartbeats 4000000 in
set_option maxRecDepth 1000000 in
theorem sort40 (enc : α → Value) (cf : α → α → Int) (tb : α → Nat) (hO : SWO (ltOf cf)) (g : Nat) (cb : Array Value) (blk off cap : Nat) (d0 d : Array α) (w0 w : World)
    (eg : ∀ args w, (callFunc g args).run Try.prog w = .ok (.enter g args) w) (hcmp : CmpLays1 Try.prog g cb enc cf blk off d0.size w0) (R : Row1 enc w0 blk off d0) (hs : d0.size = d.size) (S : SW enc w0 blk off d w) (hsz : d.size ≤ 4398046511104) (hst : StI (ltOf cf) tb d) :
    Calls Try.prog 40 #[.slice (some ⟨blk, off, none⟩) d.size cap, .func (.func g) #[] cb] w fun e w' => e = .returned (.tuple #[]) ∧ ∃ d', PermIn 0 d.size d d' ∧ SortedIn (ltOf cf) 0 d.size d' ∧ StI (ltOf cf) tb d' ∧ SW enc w0 blk off d' w' := by
  have hc := Aside0.mk (stab58 enc cf tb hO g cb blk off cap d0 d w0 w eg hcmp R hs S hsz hst (fun a m b d w hs S h1 h2 h3 h4 h5 h6 => sym64 enc cf tb hO g cb blk off cap d0 w0 eg hcmp R (by omega) (b - a + 1) a m b d w (by omega) hs S h1 h2 h3 h4 h5 h6))
  clear hcmp R S eg hst
  go_enter Try.func40, Try.ntmps40
  go_wp2_with (go_at_call 58; refine (hc.out).mono ?_; rintro e w2 ⟨rfl, hS2⟩; have S2 := Aside0.mk hS2; clear hS2)
  go_end0
  exact ⟨rfl, S2.out⟩
end Go.Proofs.Ytnmcefpnpfaklad.Srt
