/- Merging by rotations, walked. -/
import Derived.Test.YtnmcefpnpfakladProg
import Derived.Shelf.SlSortCmp.Insertion1
import Derived.Test.YtnmcefpnpfakladWWords
import Derived.Test.YtnmcefpnpfakladWLast
import Derived.Test.YtnmcefpnpfakladPlainSrt
import Derived.Sort.WalkA
import Derived.Sort.WalkB2
import Derived.Sort.WalkB12
import Derived.Deep.LoopGhost
import Derived.Sort.LotA
import Derived.Test.YtnmcefpnpfakladPlainSrtR
import Derived.Below
import Derived.RegionTactic
import Derived.Deep.RegionHeld3
import Derived.BigQuiet
import Derived.Deep.QuietTactic
import Derived.Deep.Cut
namespace Go.Proofs.Ytnmcefpnpfaklad.Srt
open Go.Shelf Go.RowKit Go.Lib Go.Sort Go.Proofs Go.Proofs.YtnmcefpnpfakladW.PrintWords Go.Proofs.YtnmcefpnpfakladW.PrintLast
variable {α : Type} [Inhabited α]
set_option maxHeartbeats 8000000 in
set_option maxRecDepth 1000000 in
theorem sym64g (enc : α → Value) (cf : α → α → Int) (tb : α → Nat) (hO : SWO (ltOf cf)) (g : Nat) (cb : Array Value) (blk off cap a m b : Nat) (d0 d : Array α) (w0 w : World)
    (eg : ∀ args w, (callFunc g args).run Try.prog w = .ok (.enter g args) w) (hcmp : CmpLays1 Try.prog g cb enc cf blk off d0.size w0) (R : Row1 enc w0 blk off d0) (hs : d0.size = d.size) (S : SW enc w0 blk off d w) (hsz : d.size < 4611686018427387904)
    (_ : a < m) (_ : m < b) (hb : b ≤ d.size) (h1 : SortedIn (ltOf cf) a m d) (h2 : SortedIn (ltOf cf) m b d) (hst : StI (ltOf cf) tb d)
    (htwo : a + 2 ≤ m) (htwo2 : m + 2 ≤ b) (N : Nat) (hN : b - a ≤ N) (hIH : (∀ (a m b : Nat) (d : Array α) (w : World), b - a < N → d0.size = d.size → SW enc w0 blk off d w → a < m → m < b → b ≤ d.size → SortedIn (ltOf cf) a m d → SortedIn (ltOf cf) m b d → StI (ltOf cf) tb d →
      Calls Try.prog 64 #[.slice (some ⟨blk, off, none⟩) d.size cap, .int .i64 a, .int .i64 m, .int .i64 b, .func (.func g) #[] cb] w fun e w' => e = .returned (.tuple #[]) ∧ ∃ d', PermIn a b d d' ∧ SortedIn (ltOf cf) a b d' ∧ StI (ltOf cf) tb d' ∧ SW enc w0 blk off d' w')) :
    Calls Try.prog 64 #[.slice (some ⟨blk, off, none⟩) d.size cap, .int .i64 a, .int .i64 m, .int .i64 b, .func (.func g) #[] cb] w fun e w' => e = .returned (.tuple #[]) ∧ ∃ d', PermIn a b d d' ∧ SortedIn (ltOf cf) a b d' ∧ StI (ltOf cf) tb d' ∧ SW enc w0 blk off d' w' := by
  have mixed : Try.prog.follows .mixedOrders = true := by kernel_rfl
  have t3 := Try.underlying3
  have a24 : ∀ w, (isAgg 3).run Try.prog w = .ok false w := fun _ => by kernel_rfl
  have z24 : ∀ w, (Go.sizeOf 3).run Try.prog w = .ok 1 w := fun _ => by kernel_rfl
  have v24 : ∀ w, (zeroValue 3).run Try.prog w = .ok (Value.int IntKind.i64 0) w := fun _ => by kernel_rfl
  have u22 := run_underlying (P := Try.prog) Try.underlying23
  have hcl0 := R.hO.cells
  simp only [Value.cells] at hcl0
  have hst0 := R.hO.store Try.prog
  have HC : Aside _ := hcmp
  have S0 : Aside (SW enc w0 blk off d w) := S
  have H1 := Aside0.mk h1
  have H2 := Aside0.mk h2
  have HST := Aside0.mk hst
  clear S hcmp h1 h2 hst
  have HIH := Aside0.mk hIH
  clear hIH
  have n0 : ((m : Int) - (a : Int) == 1) = false := beq_eq_false_iff_ne.2 (by omega)
  have n1 : ((b : Int) - (m : Int) == 1) = false := beq_eq_false_iff_ne.2 (by omega)
  have r0 : IntKind.i64.wrap ((m : Int) - (a : Int)) = (m : Int) - (a : Int) := by rw [IntKind.wrap_i64]; omega
  have r1 : IntKind.i64.wrap ((b : Int) - (m : Int)) = (b : Int) - (m : Int) := by rw [IntKind.wrap_i64]; omega
  obtain ⟨md, hd1, hd2, hz⟩ : ∃ md : Nat, 2 * md ≤ a + b ∧ a + b < 2 * md + 2 ∧ ((a : Int) + (b : Int)) / 2 = (md : Int) := ⟨(a + b) / 2, by omega, by omega, by omega⟩
  have r2 : IntKind.i64.wrap ((a : Int) + (b : Int)) = (a : Int) + (b : Int) := by rw [IntKind.wrap_i64]; omega
  have r3 : IntKind.u64.wrap ((a : Int) + (b : Int)) = (a : Int) + (b : Int) := by simp [IntKind.wrap, IntKind.bits, IntKind.signed]; omega
  have r4 : IntKind.i64.wrap (((a : Int) + (b : Int)) / 2) = (md : Int) := by rw [IntKind.wrap_i64]; omega
  have r5 : IntKind.i64.wrap ((md : Int) + (m : Int)) = (md : Int) + (m : Int) := by rw [IntKind.wrap_i64]; omega
  go_enter Try.func64, Try.ntmps64
  go_upto_if 140 with fail
  clear n0 n1 r0 r1 r2 r3 r4 r5 hz
  go_cut [20, 21] from 25 (fun s20 s21 wc => ∃ s0 r0 : Nat, s20 = .int .i64 s0 ∧ s21 = .int .i64 r0 ∧ a ≤ s0 ∧ s0 ≤ r0 ∧ r0 ≤ m ∧ r0 ≤ md ∧ md + m ≤ s0 + b ∧ Aside0 (r0 = m ∨ r0 = md) ∧ Aside0 (s0 = a ∨ md + m = s0 + b) ∧ Aside0 (wc = w))
  case first =>
    as_aux_lemma =>
      by_cases hc : md < m
      · have hd : decide ((m : Int) > (md : Int)) = true := decide_eq_true (by omega)
        obtain ⟨s0, q1, q2, hs0⟩ : ∃ s0 : Nat, md + m ≤ s0 + b ∧ s0 + b ≤ md + m ∧ (md : Int) + (m : Int) - (b : Int) = (s0 : Int) := ⟨md + m - b, by omega, by omega, by omega⟩
        have r5 : IntKind.i64.wrap ((md : Int) + (m : Int) - (b : Int)) = (md : Int) + (m : Int) - (b : Int) := by rw [IntKind.wrap_i64]; omega
        as_aux_lemma =>
          go_wp2_with fail
          go_meet
          case rel => exact ⟨s0, md, rfl, rfl, by omega, by omega, by omega, Nat.le_refl _, by omega, ⟨.inr rfl⟩, ⟨.inr (by omega)⟩, ⟨rfl⟩⟩
      · have hd : decide ((m : Int) > (md : Int)) = false := decide_eq_false (by omega)
        as_aux_lemma =>
          go_wp2_with fail
          go_meet
          case rel => exact ⟨a, m, rfl, rfl, Nat.le_refl _, by omega, Nat.le_refl _, by omega, by omega, ⟨.inl rfl⟩, ⟨.inl rfl⟩, ⟨rfl⟩⟩
  case rest =>
    as_aux_lemma =>
      obtain ⟨s0, r0, rfl, rfl, f1, f2, f3, f4, f5, F6, F7, FW⟩ := hcut
      obtain rfl := FW.out
      clear FW
      obtain ⟨p, hp1, hp2, hpz⟩ : ∃ p : Nat, p + 1 ≤ md + m ∧ md + m ≤ p + 1 ∧ (md : Int) + (m : Int) - 1 = (p : Int) := ⟨md + m - 1, by omega, by omega, by omega⟩
      have rp : IntKind.i64.wrap ((md : Int) + (m : Int) - 1) = (md : Int) + (m : Int) - 1 := by rw [IntKind.wrap_i64]; omega
      as_aux_lemma =>
        go_wp2
        clear hpz rp
        go_loopg [20, 21] (r0 - s0) (fun kx s20 s21 wr => ∃ s r : Nat, s20 = .int .i64 s ∧ s21 = .int .i64 r ∧ s0 ≤ s ∧ s ≤ r ∧ r ≤ r0 ∧ r - s ≤ kx ∧ Aside (SW enc w0 blk off d wr) ∧ Hid (s0 < s → ltOf cf d[p - (s - 1)]! d[s - 1]! = false) ∧ Hid (r < r0 → ltOf cf d[p - r]! d[r]! = true))
        case atStart => exact ⟨s0, r0, rfl, rfl, Nat.le_refl _, f2, Nat.le_refl _, Nat.le_refl _, S0, (show Hid _ from fun e1 => absurd e1 (Nat.lt_irrefl _)), (show Hid _ from fun e1 => absurd e1 (Nat.lt_irrefl _))⟩
        case round =>
          as_aux_lemma =>
            clear S0
            obtain ⟨s, r, rfl, rfl, hs1, hsr, hr1, hkx, S1, HL, HR⟩ := hrel
            by_cases hlt : s < r
            · have hltd : decide ((s : Int) < (r : Int)) = true := decide_eq_true (by omega)
              obtain ⟨h, hh1, hh2, hz⟩ : ∃ h : Nat, s ≤ h ∧ h < r ∧ ((s : Int) + (r : Int)) / 2 = (h : Int) := ⟨(s + r) / 2, by omega, by omega, by omega⟩
              have r1 : IntKind.i64.wrap ((s : Int) + (r : Int)) = (s : Int) + (r : Int) := by rw [IntKind.wrap_i64]; omega
              have r2 : IntKind.u64.wrap ((s : Int) + (r : Int)) = (s : Int) + (r : Int) := by simp [IntKind.wrap, IntKind.bits, IntKind.signed]; omega
              have r3 : IntKind.i64.wrap (((s : Int) + (r : Int)) / 2) = (h : Int) := by rw [IntKind.wrap_i64]; omega
              as_aux_lemma =>
                go_wp2
                clear r1 r2 r3 hz
                obtain ⟨qq, hq1, hq2, hqz⟩ : ∃ q : Nat, q + h ≤ p ∧ p ≤ q + h ∧ (p : Int) - (h : Int) = (q : Int) := ⟨p - h, by omega, by omega, by omega⟩
                have hqe := Aside0.mk (show p - h = qq by omega)
                cases hlv : ltOf cf d[qq]! d[h]! with
                | true =>
                  obtain ⟨pa1, hpa1⟩ : ∃ q, q = qq := ⟨_, rfl⟩
                  obtain ⟨pb1, hpb1⟩ : ∃ q, q = h := ⟨_, rfl⟩
                  have ea1 : ((qq : Int)).toNat = pa1 := by omega
                  have la1 : (0 : Int) ≤ (qq : Int) := by omega
                  have ua1 : (qq : Int) < (d.size : Int) := by omega
                  have ra1 : IntKind.i64.wrap ((qq : Int)) = (qq : Int) := by rw [IntKind.wrap_i64]; omega
                  have eb1 : ((h : Int)).toNat = pb1 := by omega
                  have lb1 : (0 : Int) ≤ (h : Int) := by omega
                  have ub1 : (h : Int) < (d.size : Int) := by omega
                  have rb1 : IntKind.i64.wrap ((h : Int)) = (h : Int) := by rw [IntKind.wrap_i64]; omega
                  obtain ⟨x1, hx1⟩ : ∃ x, x = (d)[qq]! := ⟨_, rfl⟩
                  obtain ⟨y1, hy1⟩ : ∃ x, x = (d)[h]! := ⟨_, rfl⟩
                  have c1a := S1.out.cl R (by omega) (qq) (by omega)
                  have c1b := S1.out.cl R (by omega) (h) (by omega)
                  rw [← hx1, ← hpa1] at c1a
                  rw [← hy1, ← hpb1] at c1b
                  have hc1 := S1.out.cmp HC.out (by omega) x1 y1
                  have hd1 : decide (cf x1 y1 < 0) = true := by rw [hx1, hy1]; exact hlv
                  clear hx1 hy1 hpa1 hpb1
                  as_aux_lemma =>
                    go_wp2_with fail
                    go_quiet_grown (first | (go_at_fn g; refine Calls.grown_of (hc1 _ _)))
                    have S2 : Aside (SW enc w0 blk off (d) (grow (wr.drewN nq) osq)) := S1.out.grown nq osq
                    clear c1a c1b hc1 S1
                    generalize grow (wr.drewN nq) osq = w2 at S2 ⊢
                    clear nq osq
                    clear ea1 eb1
                    as_aux_lemma =>
                      go_wp2
                      go_roundg (h - s)
                      case measure => omega
                      case rel => exact ⟨s, h, rfl, rfl, hs1, by omega, by omega, Nat.le_refl _, S2, HL, (show Hid _ from fun _ => by rw [hqe.out]; exact hlv)⟩
                | false =>
                  obtain ⟨pa2, hpa2⟩ : ∃ q, q = qq := ⟨_, rfl⟩
                  obtain ⟨pb2, hpb2⟩ : ∃ q, q = h := ⟨_, rfl⟩
                  have ea2 : ((qq : Int)).toNat = pa2 := by omega
                  have la2 : (0 : Int) ≤ (qq : Int) := by omega
                  have ua2 : (qq : Int) < (d.size : Int) := by omega
                  have ra2 : IntKind.i64.wrap ((qq : Int)) = (qq : Int) := by rw [IntKind.wrap_i64]; omega
                  have eb2 : ((h : Int)).toNat = pb2 := by omega
                  have lb2 : (0 : Int) ≤ (h : Int) := by omega
                  have ub2 : (h : Int) < (d.size : Int) := by omega
                  have rb2 : IntKind.i64.wrap ((h : Int)) = (h : Int) := by rw [IntKind.wrap_i64]; omega
                  obtain ⟨x2, hx2⟩ : ∃ x, x = (d)[qq]! := ⟨_, rfl⟩
                  obtain ⟨y2, hy2⟩ : ∃ x, x = (d)[h]! := ⟨_, rfl⟩
                  have c2a := S1.out.cl R (by omega) (qq) (by omega)
                  have c2b := S1.out.cl R (by omega) (h) (by omega)
                  rw [← hx2, ← hpa2] at c2a
                  rw [← hy2, ← hpb2] at c2b
                  have hc2 := S1.out.cmp HC.out (by omega) x2 y2
                  have hd2 : decide (cf x2 y2 < 0) = false := by rw [hx2, hy2]; exact hlv
                  clear hx2 hy2 hpa2 hpb2
                  as_aux_lemma =>
                    go_wp2_with fail
                    go_quiet_grown (first | (go_at_fn g; refine Calls.grown_of (hc2 _ _)))
                    have S2 : Aside (SW enc w0 blk off (d) (grow (wr.drewN nq) osq)) := S1.out.grown nq osq
                    clear c2a c2b hc2 S1
                    generalize grow (wr.drewN nq) osq = w2 at S2 ⊢
                    clear nq osq
                    clear ea2 eb2
                    as_aux_lemma =>
                      go_wp2
                      go_roundg (r - (h + 1))
                      case measure => omega
                      case rel => exact ⟨h + 1, r, by first | rfl | go_num | (congr 1; omega), rfl, by omega, by omega, hr1, Nat.le_refl _, S2, (show Hid _ from fun _ => by rw [Nat.add_sub_cancel, hqe.out]; exact hlv), HR⟩
            · obtain rfl : s = r := by omega
              have hltd : decide ((s : Int) < (s : Int)) = false := decide_eq_false (by omega)
              obtain ⟨e, he1, he2, hez⟩ : ∃ e : Nat, e + s ≤ md + m ∧ md + m ≤ e + s ∧ (md : Int) + (m : Int) - (s : Int) = (e : Int) := ⟨md + m - s, by omega, by omega, by omega⟩
              have rz : IntKind.i64.wrap ((md : Int) + (m : Int) - (s : Int)) = (md : Int) + (m : Int) - (s : Int) := by rw [IntKind.wrap_i64]; omega
              have HQ : Hid (s < m → m < e → ltOf cf d[e - 1]! d[s]! = true) := (show Hid _ from fun e1 e2 => by
                rcases F6.out with h6 | h6
                · have := HR.out (by omega); rwa [show p - s = e - 1 by omega] at this
                · have := HR.out (by omega); rwa [show p - s = e - 1 by omega] at this)
              have HN : Hid (a < s → e < b → ltOf cf d[e]! d[s - 1]! = false) := (show Hid _ from fun e1 e2 => by
                rcases F7.out with h7 | h7
                · have := HL.out (by omega); rwa [show p - (s - 1) = e by omega] at this
                · have := HL.out (by omega); rwa [show p - (s - 1) = e by omega] at this)
              clear HL HR
              as_aux_lemma =>
                go_upto_region 39 with fail
                clear hez rz hltd
                go_cut [185] from 25 (fun s185 wx => s185 = .bool (decide (s < m) && decide (m < e)) ∧ Aside0 (wx = wr))
                case first =>
                  as_aux_lemma =>
                    by_cases c1 : s < m
                    · have hc1 : decide ((s : Int) < (m : Int)) = true := decide_eq_true (by omega)
                      by_cases c2 : m < e
                      · have hc2 : decide ((m : Int) < (e : Int)) = true := decide_eq_true (by omega)
                        as_aux_lemma =>
                          go_wp2_with fail
                          go_meet
                          case rel => exact ⟨by rw [decide_eq_true c1, decide_eq_true c2]; rfl, ⟨rfl⟩⟩
                      · have hc2 : decide ((m : Int) < (e : Int)) = false := decide_eq_false (by omega)
                        as_aux_lemma =>
                          go_wp2_with fail
                          go_meet
                          case rel => exact ⟨by rw [decide_eq_true c1, decide_eq_false c2]; rfl, ⟨rfl⟩⟩
                    · have hc1 : decide ((s : Int) < (m : Int)) = false := decide_eq_false (by omega)
                      as_aux_lemma =>
                        go_wp2_with fail
                        go_meet
                        case rel => exact ⟨by rw [decide_eq_false c1]; rfl, ⟨rfl⟩⟩
                case rest =>
                  as_aux_lemma =>
                    obtain ⟨rfl, FW⟩ := hcut
                    obtain rfl := FW.out
                    clear FW
                    as_aux_lemma =>
                      go_upto_if 185 with fail
                      go_cut [] from 25 (fun wx => Aside0 (∃ d1, IsRot d s m e d1 ∧ PermIn s e d d1 ∧ SW enc w0 blk off d1 wx))
                      case first =>
                        as_aux_lemma =>
                          by_cases c : s < m ∧ m < e
                          · have hb1 : (decide (s < m) && decide (m < e)) = true := by simp [c.1, c.2]
                            have hc := Aside0.mk (rot65 enc (.func (.func g) #[] cb) blk off cap s m e d0 d w0 _ R hs S1.out c.1 c.2 (by omega) hsz)
                            clear c
                            rw [hb1]
                            as_aux_lemma =>
                              go_wp2_with (go_at_call 65; refine hc.out.mono ?_; rintro e' w3 ⟨rfl, hr⟩; have HR3 := Aside0.mk hr; clear hr)
                              go_meet
                              case rel => exact HR3
                          · have hb1 : (decide (s < m) && decide (m < e)) = false := by
                              rw [Bool.and_eq_false_iff]
                              by_cases c1 : s < m
                              · exact .inr (decide_eq_false (fun c2 => c ⟨c1, c2⟩))
                              · exact .inl (decide_eq_false c1)
                            have hD := Aside0.mk (show IsRot d s m e d from by
                              by_cases c1 : s < m
                              · have : e = m := by omega
                                rw [this]; exact IsRot.none_right d s m
                              · have : s = m := by omega
                                rw [this]; exact IsRot.none_left d m e)
                            clear c
                            rw [hb1]
                            as_aux_lemma =>
                              go_wp2_with fail
                              go_meet
                              case rel => exact ⟨d, hD.out, permIn_refl d s e, S1.out⟩
                      case rest =>
                        as_aux_lemma =>
                          obtain ⟨d1, i1, p1, SS⟩ := hcut.out
                          have hsz1 : d1.size = d.size := p1.1
                          have HM := Aside0.mk (merge_mid hO hsz1 hb (show a ≤ s by omega) (show s ≤ m by omega) (show m ≤ e by omega) (show e ≤ b by omega) (show s + e = md + m by omega) H1.out H2.out HST.out HQ.out HN.out i1)
                          have P1 := Aside0.mk (permIn_mono _ _ _ _ _ _ (show a ≤ s by omega) (show e ≤ b by omega) hb p1)
                          have S2 := Aside0.mk SS
                          clear hcut i1 p1 SS S1 HQ HN H1 H2 HST
                          as_aux_lemma =>
                            go_upto_region 41 with fail
                            go_cut [199] from 25 (fun s199 wx => s199 = .bool (decide (a < s) && decide (s < md)) ∧ Aside0 (SW enc w0 blk off d1 wx))
                            case first =>
                              as_aux_lemma =>
                                by_cases c1 : a < s
                                · have hc1 : decide ((a : Int) < (s : Int)) = true := decide_eq_true (by omega)
                                  by_cases c2 : s < md
                                  · have hc2 : decide ((s : Int) < (md : Int)) = true := decide_eq_true (by omega)
                                    as_aux_lemma =>
                                      go_wp2_with fail
                                      go_meet
                                      case rel => exact ⟨by rw [decide_eq_true c1, decide_eq_true c2]; rfl, S2⟩
                                  · have hc2 : decide ((s : Int) < (md : Int)) = false := decide_eq_false (by omega)
                                    as_aux_lemma =>
                                      go_wp2_with fail
                                      go_meet
                                      case rel => exact ⟨by rw [decide_eq_true c1, decide_eq_false c2]; rfl, S2⟩
                                · have hc1 : decide ((a : Int) < (s : Int)) = false := decide_eq_false (by omega)
                                  as_aux_lemma =>
                                    go_wp2_with fail
                                    go_meet
                                    case rel => exact ⟨by rw [decide_eq_false c1]; rfl, S2⟩
                            case rest =>
                              as_aux_lemma =>
                                obtain ⟨rfl, S3⟩ := hcut
                                clear S2
                                as_aux_lemma =>
                                  go_upto_if 199 with fail
                                  go_cut [] from 25 (fun wx => Aside0 (∃ d2, PermIn a md d1 d2 ∧ SortedIn (ltOf cf) a md d2 ∧ StI (ltOf cf) tb d2 ∧ SW enc w0 blk off d2 wx))
                                  case first =>
                                    as_aux_lemma =>
                                      by_cases c : a < s ∧ s < md
                                      · have hb1 : (decide (a < s) && decide (s < md)) = true := by simp [c.1, c.2]
                                        have hc := HIH.out a s md d1 _ (by omega) (hs.trans hsz1.symm) S3.out c.1 c.2 (by omega) HM.out.1 HM.out.2.1 HM.out.2.2.2.2.1
                                        rw [hsz1] at hc
                                        have HC2 := Aside0.mk hc
                                        clear c hc
                                        rw [hb1]
                                        as_aux_lemma =>
                                          go_wp2_with (go_at_call 64; refine HC2.out.mono ?_; rintro e' w3 ⟨rfl, hr⟩; have HR3 := Aside0.mk hr; clear hr)
                                          go_meet
                                          case rel => exact HR3
                                      · have hb1 : (decide (a < s) && decide (s < md)) = false := by
                                          rw [Bool.and_eq_false_iff]
                                          by_cases c1 : a < s
                                          · exact .inr (decide_eq_false (fun c2 => c ⟨c1, c2⟩))
                                          · exact .inl (decide_eq_false c1)
                                        have hD := Aside0.mk (show SortedIn (ltOf cf) a md d1 from by
                                          by_cases c1 : a < s
                                          · have : md = s := by omega
                                            rw [this]; exact HM.out.1
                                          · have : a = s := by omega
                                            rw [this]; exact HM.out.2.1)
                                        clear c
                                        rw [hb1]
                                        as_aux_lemma =>
                                          go_wp2_with fail
                                          go_meet
                                          case rel => exact ⟨d1, permIn_refl d1 a md, hD.out, HM.out.2.2.2.2.1, S3.out⟩
                                  case rest =>
                                    as_aux_lemma =>
                                      obtain ⟨d2, p2, so2, st2, SS⟩ := hcut.out
                                      have hsz2 : d2.size = d.size := p2.1.trans hsz1
                                      have P2 := Aside0.mk p2
                                      have HS2 := Aside0.mk so2
                                      have HT2 := Aside0.mk st2
                                      have S4 := Aside0.mk SS
                                      have hC2 := Aside0.mk (perm_cross (show a ≤ md by omega) (show md ≤ b by omega) (by omega) p2 HM.out.2.2.2.2.2)
                                      have hP2 := Aside0.mk (permIn_trans _ _ _ _ _ P1.out (permIn_mono _ _ _ _ _ _ (Nat.le_refl a) (show md ≤ b by omega) (by omega) p2))
                                      have hME := Aside0.mk (sorted_out p2 (.inr (Nat.le_refl md)) HM.out.2.2.1)
                                      have hEB := Aside0.mk (sorted_out p2 (.inr (show md ≤ e by omega)) HM.out.2.2.2.1)
                                      clear hcut p2 so2 st2 SS S3
                                      have fin : (e ≤ md ∨ b ≤ e) → SortedIn (ltOf cf) a b d2 := fun hh => sorted_join HS2.out (by
                                        by_cases c1 : md < e
                                        · have : e = b := by omega
                                          rw [← this]; exact hME.out
                                        · have : md = e := by omega
                                          rw [this]; exact hEB.out) hC2.out
                                      have HFIN := Aside0.mk fin
                                      clear fin
                                      by_cases c1 : md < e
                                      · have hc1 : decide ((md : Int) < (e : Int)) = true := decide_eq_true (by omega)
                                        by_cases c2 : e < b
                                        · have hc2 : decide ((e : Int) < (b : Int)) = true := decide_eq_true (by omega)
                                          have hc := HIH.out md e b d2 _ (by omega) (hs.trans hsz2.symm) S4.out c1 c2 (by omega) hME.out hEB.out HT2.out
                                          rw [hsz2] at hc
                                          have HC2 := Aside0.mk hc
                                          clear hc
                                          as_aux_lemma =>
                                            go_wp2_with (go_at_call 64; refine HC2.out.mono ?_; rintro e' w3 ⟨rfl, hr⟩; have HR3 := Aside0.mk hr; clear hr)
                                            go_end0
                                            obtain ⟨d3, p3, so3, st3, SS⟩ := HR3.out
                                            exact ⟨rfl, d3, permIn_trans _ _ _ _ _ hP2.out (permIn_mono _ _ _ _ _ _ (show a ≤ md by omega) (Nat.le_refl b) (by omega) p3), sorted_join (sorted_out p3 (.inl (Nat.le_refl md)) HS2.out) so3 (perm_cross2 (show a ≤ md by omega) (show md ≤ b by omega) (by omega) p3 hC2.out), st3, SS⟩
                                        · have hc2 : decide ((e : Int) < (b : Int)) = false := decide_eq_false (by omega)
                                          as_aux_lemma =>
                                            go_wp2_with fail
                                            go_end0
                                            exact ⟨rfl, d2, hP2.out, HFIN.out (.inr (by omega)), HT2.out, S4.out⟩
                                      · have hc1 : decide ((md : Int) < (e : Int)) = false := decide_eq_false (by omega)
                                        as_aux_lemma =>
                                          go_wp2_with fail
                                          go_end0
                                          exact ⟨rfl, d2, hP2.out, HFIN.out (.inl (by omega)), HT2.out, S4.out⟩
end Go.Proofs.Ytnmcefpnpfaklad.Srt
