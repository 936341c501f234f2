/- What the functions of this seat answer, as plain Lean functions, and that the calls come to just that (written by a program of this repo, over the kit's printer; Lean checks it). -/
import Derived.Test.YtnmcefpnpfakladVx0
import Derived.Test.YtnmcefpnpfakladVx4
import Derived.Test.YtnmcefpnpfakladVx15
import Derived.Test.YtnmcefpnpfakladVx17
import Derived.Test.YtnmcefpnpfakladVx33
import Derived.Test.YtnmcefpnpfakladVx35
import Derived.Test.YtnmcefpnpfakladVx36
import Derived.Test.YtnmcefpnpfakladVx37
import Derived.Test.YtnmcefpnpfakladVx38
import Derived.Test.YtnmcefpnpfakladVx39
namespace Go.Proofs.Ytnmcefpnpfaklad.V
open Go.RowKit Go.Proofs.YtnmcefpnpfakladW.PrintWords Go.Proofs.YtnmcefpnpfakladW.PrintLast Go.Proofs.YtnmcefpnpfakladW.PrintMore
attribute [local go_sem] max2_int min2_int max_two min_two max_three min_three max_four min_four   -- for this text's walks alone
set_option linter.unusedVariables false
set_option linter.unusedSimpArgs false

/-! ### valancelaw07_LinesBreak: function 9 -/
def valancelaw07_LinesBreak.f (k : Nat) (l0 : List Int) (a1 : Int) (a2 : Int) (a3 : Bool) : Option (Bool) := (valancelaw07_works.f k).bind fun t365 => (if t365 = true then (if (l0.length : Int) > 200 then (some t365) else ((lines_Break.f l0 a1 a2 a3).bind fun t366 => ((valanceref07_Break.f k l0 a1 a2 a3).bind fun t369 => ((valancelaw07_same.f k t366 t369).bind fun t372 => (if t372 = true then ((lines_Long.f k l0 a2).bind fun t373 => ((valanceref07_Long.f k l0 a2).bind fun t374 => (if t373 = t374 then ((lines_Order.f l0).bind fun t375 => ((valanceref07_Order.f k l0).bind fun t378 => ((valanceref06_Row.f k t375 t378).bind fun t381 => (some t381)))) else (none)))) else (none)))))) else (none))
theorem valancelaw07_LinesBreak.mono : ∀ a0 a1 a2 a3 k, LeO (valancelaw07_LinesBreak.f k a0 a1 a2 a3) (valancelaw07_LinesBreak.f (k + 1) a0 a1 a2 a3) := by
  intro a0 a1 a2 a3 k
  unfold valancelaw07_LinesBreak.f
  repeat' first
      | (with_reducible exact lines_Long.mono _ _ _)
      | (with_reducible exact valancelaw07_same.mono _ _ _)
      | (with_reducible exact valancelaw07_works.mono _)
      | (with_reducible exact valanceref06_Row.mono _ _ _)
      | (with_reducible exact valanceref07_Break.mono _ _ _ _ _)
      | (with_reducible exact valanceref07_Long.mono _ _ _)
      | (with_reducible exact valanceref07_Order.mono _ _)
      | (with_reducible exact LeO.refl _)
      | (with_reducible exact LeO.none _)
      | (with_reducible refine LeO.ite ?_ ?_)
      | (with_reducible refine LeO.bind ?_ (fun _ => ?_))
      | exact lines_Long.mono _ _ _
      | exact valancelaw07_same.mono _ _ _
      | exact valancelaw07_works.mono _
      | exact valanceref06_Row.mono _ _ _
      | exact valanceref07_Break.mono _ _ _ _ _
      | exact valanceref07_Long.mono _ _ _
      | exact valanceref07_Order.mono _ _
      | exact LeO.none _
      | refine LeO.ite ?_ ?_
      | refine LeO.bind ?_ (fun _ => ?_)
set_option maxHeartbeats 8000000 in
set_option maxRecDepth 100000 in
theorem valancelaw07_LinesBreak.calls (k : Nat) (A0 : Option Addr) (c0 : Nat) (l0 : List Int) (a1 : Int) (a2 : Int) (a3 : Bool) (r : Bool) (w : World) (hr0 : Kd.C (Kd.int .i64) w A0 l0.length l0) (hc0 : l0.length ≤ c0) (h : valancelaw07_LinesBreak.f k l0 a1 a2 a3 = some r) :
    Calls Try.prog 9 #[.slice A0 l0.length c0, .int .i64 a1, .int .i64 a2, .bool a3] w fun e w' => e = .returned (.bool r) ∧ Below w.heap.size w w' := by
  have HR0 := Aside0.mk hr0
  have HC0 := Aside0.mk hc0
  clear hr0 hc0
  have HB := Aside0.mk (Below.refl w.heap.size w)
  have H : ((valancelaw07_works.f k).bind fun t365 => (if t365 = true then (if (l0.length : Int) > 200 then (some t365) else ((lines_Break.f l0 a1 a2 a3).bind fun t366 => ((valanceref07_Break.f k l0 a1 a2 a3).bind fun t369 => ((valancelaw07_same.f k t366 t369).bind fun t372 => (if t372 = true then ((lines_Long.f k l0 a2).bind fun t373 => ((valanceref07_Long.f k l0 a2).bind fun t374 => (if t373 = t374 then ((lines_Order.f l0).bind fun t375 => ((valanceref07_Order.f k l0).bind fun t378 => ((valanceref06_Row.f k t375 t378).bind fun t381 => (some t381)))) else (none)))) else (none)))))) else (none))) = some r := h
  clear h
  replace H := Option.bind_eq_some_iff.mp H
  obtain ⟨t365, A50, H⟩ := H
  replace H : (if t365 = true then (if (l0.length : Int) > 200 then (some t365) else ((lines_Break.f l0 a1 a2 a3).bind fun t366 => ((valanceref07_Break.f k l0 a1 a2 a3).bind fun t369 => ((valancelaw07_same.f k t366 t369).bind fun t372 => (if t372 = true then ((lines_Long.f k l0 a2).bind fun t373 => ((valanceref07_Long.f k l0 a2).bind fun t374 => (if t373 = t374 then ((lines_Order.f l0).bind fun t375 => ((valanceref07_Order.f k l0).bind fun t378 => ((valanceref06_Row.f k t375 t378).bind fun t381 => (some t381)))) else (none)))) else (none)))))) else (none)) = some r := H
  have A5 := Aside0.mk A50
  clear A50
  by_cases c6 : t365 = true
  · subst c6
    have H1 : (if (l0.length : Int) > 200 then (some true) else ((lines_Break.f l0 a1 a2 a3).bind fun t366 => ((valanceref07_Break.f k l0 a1 a2 a3).bind fun t369 => ((valancelaw07_same.f k t366 t369).bind fun t372 => (if t372 = true then ((lines_Long.f k l0 a2).bind fun t373 => ((valanceref07_Long.f k l0 a2).bind fun t374 => (if t373 = t374 then ((lines_Order.f l0).bind fun t375 => ((valanceref07_Order.f k l0).bind fun t378 => ((valanceref06_Row.f k t375 t378).bind fun t381 => (some t381)))) else (none)))) else (none)))))) = some r := by rw [if_pos rfl] at H; exact H
    clear H
    have H := H1
    clear H1
    by_cases c7 : (l0.length : Int) > 200
    · rw [if_pos c7] at H
      have c7b0 : decide (200 < (l0.length : Int)) = true := decide_eq_true c7
      have c7b1 : decide (200 < l0.length) = true := decide_eq_true (by omega)
      clear c7
      obtain rfl := Option.some.inj H
      go_enter Try.func9, Try.ntmps9
      go_wp2_with (first | ((with_reducible refine gate_callee (f := 24) rfl ?_); refine goesL_ (some 10) rfl rfl Try.func24 (by kernel_rfl) rfl #[] rfl (by (try simp only [List.map_toArray, List.map_cons, List.map_nil]); first | done | rfl | (simp only [List.length_drop, List.length_take]; rfl)) ?_; (with_reducible refine (valancelaw07_works.calls k  true _ A5.out).mono ?_); rintro e w8 ⟨rfl, hb⟩; refine ⟨_, rfl, ?_⟩; have n0_ := Aside0.mk (below_step (by repeat (first | (with_reducible first | exact HB.out | apply below_alloc | apply pw_below_drewN | apply below_drew1) | exact HB.out)) hb); clear HB; have HB := n0_; clear n0_; (try clear hb); (try clear hb2); (try clear hk); (try clear hi)))
      go_ret
      exact ⟨by first | rfl | (simp [errW_none, errW_some] <;> rfl) | (simp [*, errW_none, errW_some] <;> rfl), by repeat (first | (with_reducible first | exact HB.out | apply below_alloc | apply pw_below_drewN | apply below_drew1) | exact HB.out)⟩
    · rw [if_neg c7] at H
      have c7b0 : decide (200 < (l0.length : Int)) = false := decide_eq_false c7
      have c7b1 : decide (200 < l0.length) = false := decide_eq_false (by omega)
      clear c7
      replace H := Option.bind_eq_some_iff.mp H
      obtain ⟨t366, A90, H⟩ := H
      replace H : ((valanceref07_Break.f k l0 a1 a2 a3).bind fun t369 => ((valancelaw07_same.f k t366 t369).bind fun t372 => (if t372 = true then ((lines_Long.f k l0 a2).bind fun t373 => ((valanceref07_Long.f k l0 a2).bind fun t374 => (if t373 = t374 then ((lines_Order.f l0).bind fun t375 => ((valanceref07_Order.f k l0).bind fun t378 => ((valanceref06_Row.f k t375 t378).bind fun t381 => (some t381)))) else (none)))) else (none)))) = some r := H
      have A9 := Aside0.mk A90
      clear A90
      replace H := Option.bind_eq_some_iff.mp H
      obtain ⟨t369, A100, H⟩ := H
      replace H : ((valancelaw07_same.f k t366 t369).bind fun t372 => (if t372 = true then ((lines_Long.f k l0 a2).bind fun t373 => ((valanceref07_Long.f k l0 a2).bind fun t374 => (if t373 = t374 then ((lines_Order.f l0).bind fun t375 => ((valanceref07_Order.f k l0).bind fun t378 => ((valanceref06_Row.f k t375 t378).bind fun t381 => (some t381)))) else (none)))) else (none))) = some r := H
      have A10 := Aside0.mk A100
      clear A100
      replace H := Option.bind_eq_some_iff.mp H
      obtain ⟨t372, A110, H⟩ := H
      replace H : (if t372 = true then ((lines_Long.f k l0 a2).bind fun t373 => ((valanceref07_Long.f k l0 a2).bind fun t374 => (if t373 = t374 then ((lines_Order.f l0).bind fun t375 => ((valanceref07_Order.f k l0).bind fun t378 => ((valanceref06_Row.f k t375 t378).bind fun t381 => (some t381)))) else (none)))) else (none)) = some r := H
      have A11 := Aside0.mk A110
      clear A110
      by_cases c12 : t372 = true
      · subst c12
        have H1 : ((lines_Long.f k l0 a2).bind fun t373 => ((valanceref07_Long.f k l0 a2).bind fun t374 => (if t373 = t374 then ((lines_Order.f l0).bind fun t375 => ((valanceref07_Order.f k l0).bind fun t378 => ((valanceref06_Row.f k t375 t378).bind fun t381 => (some t381)))) else (none)))) = some r := by rw [if_pos rfl] at H; exact H
        clear H
        have H := H1
        clear H1
        replace H := Option.bind_eq_some_iff.mp H
        obtain ⟨t373, A130, H⟩ := H
        replace H : ((valanceref07_Long.f k l0 a2).bind fun t374 => (if t373 = t374 then ((lines_Order.f l0).bind fun t375 => ((valanceref07_Order.f k l0).bind fun t378 => ((valanceref06_Row.f k t375 t378).bind fun t381 => (some t381)))) else (none))) = some r := H
        have A13 := Aside0.mk A130
        clear A130
        replace H := Option.bind_eq_some_iff.mp H
        obtain ⟨t374, A140, H⟩ := H
        replace H : (if t373 = t374 then ((lines_Order.f l0).bind fun t375 => ((valanceref07_Order.f k l0).bind fun t378 => ((valanceref06_Row.f k t375 t378).bind fun t381 => (some t381)))) else (none)) = some r := H
        have A14 := Aside0.mk A140
        clear A140
        by_cases c15 : t373 = t374
        · rw [if_pos c15] at H
          have c15b0 : (t373 == t374) = true := beq_iff_eq.mpr c15
          have c15b1 : (t373 != t374) = false := bne_eq_false_iff_eq.mpr c15
          clear c15
          replace H := Option.bind_eq_some_iff.mp H
          obtain ⟨t375, A160, H⟩ := H
          replace H : ((valanceref07_Order.f k l0).bind fun t378 => ((valanceref06_Row.f k t375 t378).bind fun t381 => (some t381))) = some r := H
          have A16 := Aside0.mk A160
          clear A160
          replace H := Option.bind_eq_some_iff.mp H
          obtain ⟨t378, A170, H⟩ := H
          replace H : ((valanceref06_Row.f k t375 t378).bind fun t381 => (some t381)) = some r := H
          have A17 := Aside0.mk A170
          clear A170
          replace H := Option.bind_eq_some_iff.mp H
          obtain ⟨t381, A180, H⟩ := H
          replace H : (some t381) = some r := H
          have A18 := Aside0.mk A180
          clear A180
          obtain rfl := Option.some.inj H
          go_enter Try.func9, Try.ntmps9
          go_wp2_with (first | ((with_reducible refine gate_callee (f := 24) rfl ?_); refine goesL_ (some 10) rfl rfl Try.func24 (by kernel_rfl) rfl #[] rfl (by (try simp only [List.map_toArray, List.map_cons, List.map_nil]); first | done | rfl | (simp only [List.length_drop, List.length_take]; rfl)) ?_; (with_reducible refine (valancelaw07_works.calls k  true _ A5.out).mono ?_); rintro e w19 ⟨rfl, hb⟩; refine ⟨_, rfl, ?_⟩; have n0_ := Aside0.mk (below_step (by repeat (first | (with_reducible first | exact HB.out | apply below_alloc | apply pw_below_drewN | apply below_drew1) | exact HB.out)) hb); clear HB; have HB := n0_; clear n0_; (try clear hb); (try clear hb2); (try clear hk); (try clear hi)) | (go_at_call 26; (with_reducible refine (lines_Break.calls _ _ l0 a1 a2 a3 t366 _ ?side1 ?side2 A9.out).mono ?_); (case side1 => repeat (first | exact (Kd.C_below HR0.out HB.out) | (with_reducible refine Kd.C_alloc ?_ _) | (with_reducible refine Kd.C_drewN ?_ _) | (with_reducible refine Kd.C_drew ?_))); (case side2 => exact HC0.out); rintro e w20 ⟨v367, rfl, ho0, hb⟩; have n0_ := Aside0.mk (Kd.R_lower ho0 (below_size (by repeat (first | (with_reducible first | exact HB.out | apply below_alloc | apply pw_below_drewN | apply below_drew1) | exact HB.out)))); have n1_ := Aside0.mk (below_step (by repeat (first | (with_reducible first | exact HB.out | apply below_alloc | apply pw_below_drewN | apply below_drew1) | exact HB.out)) hb); clear HB; have HO368 := n0_; have HB := n1_; clear n0_ n1_; (try clear hb); (try clear hb2); (try clear hk); (try clear hi); (try clear ho0)) | (go_at_call 27; (with_reducible refine (valanceref07_Break.calls k _ _ l0 a1 a2 a3 t369 _ ?side1 ?side2 A10.out).mono ?_); (case side1 => repeat (first | exact (Kd.C_below HR0.out HB.out) | (with_reducible refine Kd.C_alloc ?_ _) | (with_reducible refine Kd.C_drewN ?_ _) | (with_reducible refine Kd.C_drew ?_))); (case side2 => exact HC0.out); rintro e w21 ⟨v370, rfl, ho0, hb⟩; have n0_ := Aside0.mk (Kd.R_elder' (by (with_reducible repeat (first | apply Kd.R_alloc | apply Kd.R_drewN | apply Kd.R_drew)); exact HO368.out) (Kd.R_base ho0) hb); have n1_ := Aside0.mk (Kd.R_lower (Kd.R_new' ho0 (Kd.R_lt (by (with_reducible repeat (first | apply Kd.R_alloc | apply Kd.R_drewN | apply Kd.R_drew)); exact HO368.out))) (below_size (by repeat (first | (with_reducible first | exact HB.out | apply below_alloc | apply pw_below_drewN | apply below_drew1) | exact HB.out)))); have n2_ := Aside0.mk (below_step (by repeat (first | (with_reducible first | exact HB.out | apply below_alloc | apply pw_below_drewN | apply below_drew1) | exact HB.out)) hb); clear HO368; clear HB; have HO368 := n0_; have HO371 := n1_; have HB := n2_; clear n0_ n1_ n2_; (try clear hb); (try clear hb2); (try clear hk); (try clear hi); (try clear ho0); obtain ⟨Ao22, co22, eo22⟩ := Kd.R_slice HO368.out; subst eo22; obtain ⟨Ao23, co23, eo23⟩ := Kd.R_slice HO371.out; subst eo23) | (go_at_call 25; (with_reducible refine (valancelaw07_same.calls k _ _ t366 _ _ t369 true _ ?side1 ?side2 ?side3 ?side4 A11.out).mono ?_); (case side1 => repeat (first | exact (Kd.R_reads' HO368.out).2.2 | (with_reducible refine Kd.C_alloc ?_ _) | (with_reducible refine Kd.C_drewN ?_ _) | (with_reducible refine Kd.C_drew ?_))); (case side2 => exact (Kd.R_reads' HO368.out).2.1); (case side3 => repeat (first | exact (Kd.R_reads' HO371.out).2.2 | (with_reducible refine Kd.C_alloc ?_ _) | (with_reducible refine Kd.C_drewN ?_ _) | (with_reducible refine Kd.C_drew ?_))); (case side4 => exact (Kd.R_reads' HO371.out).2.1); rintro e w' ⟨rfl, ⟨nd, rfl⟩⟩) | (go_at_call 23; (with_reducible refine (lines_Long.calls k _ _ l0 a2 t373 _ ?side1 ?side2 A13.out).mono ?_); (case side1 => repeat (first | exact (Kd.C_below HR0.out (by repeat (first | (with_reducible first | exact HB.out | apply below_alloc | apply pw_below_drewN | apply below_drew1) | exact HB.out))) | (with_reducible refine Kd.C_alloc ?_ _) | (with_reducible refine Kd.C_drewN ?_ _) | (with_reducible refine Kd.C_drew ?_))); (case side2 => exact HC0.out); rintro e w24 ⟨rfl, hb⟩; have n0_ := Aside0.mk (Kd.R_below (by (with_reducible repeat (first | apply Kd.R_alloc | apply Kd.R_drewN | apply Kd.R_drew)); exact HO368.out) hb); have n1_ := Aside0.mk (Kd.R_below (by (with_reducible repeat (first | apply Kd.R_alloc | apply Kd.R_drewN | apply Kd.R_drew)); exact HO371.out) hb); have n2_ := Aside0.mk (below_step (by repeat (first | (with_reducible first | exact HB.out | apply below_alloc | apply pw_below_drewN | apply below_drew1) | exact HB.out)) hb); clear HO368; clear HO371; clear HB; have HO368 := n0_; have HO371 := n1_; have HB := n2_; clear n0_ n1_ n2_; (try clear hb); (try clear hb2); (try clear hk); (try clear hi)) | (go_at_call 28; (with_reducible refine (valanceref07_Long.calls k _ _ l0 a2 t374 _ ?side1 ?side2 A14.out).mono ?_); (case side1 => repeat (first | exact (Kd.C_below HR0.out HB.out) | (with_reducible refine Kd.C_alloc ?_ _) | (with_reducible refine Kd.C_drewN ?_ _) | (with_reducible refine Kd.C_drew ?_))); (case side2 => exact HC0.out); rintro e w' ⟨rfl, ⟨nd, rfl⟩⟩) | (go_at_call 29; (with_reducible refine (lines_Order.calls _ _ l0 t375 _ ?side1 ?side2 A16.out).mono ?_); (case side1 => repeat (first | exact (Kd.C_below HR0.out (by repeat (first | (with_reducible first | exact HB.out | apply below_alloc | apply pw_below_drewN | apply below_drew1) | exact HB.out))) | (with_reducible refine Kd.C_alloc ?_ _) | (with_reducible refine Kd.C_drewN ?_ _) | (with_reducible refine Kd.C_drew ?_))); (case side2 => exact HC0.out); rintro e w25 ⟨v376, rfl, ho0, hb⟩; have n0_ := Aside0.mk (Kd.R_below (by (with_reducible repeat (first | apply Kd.R_alloc | apply Kd.R_drewN | apply Kd.R_drew)); exact HO368.out) hb); have n1_ := Aside0.mk (Kd.R_below (by (with_reducible repeat (first | apply Kd.R_alloc | apply Kd.R_drewN | apply Kd.R_drew)); exact HO371.out) hb); have n2_ := Aside0.mk (Kd.R_lower ho0 (below_size (by repeat (first | (with_reducible first | exact HB.out | apply below_alloc | apply pw_below_drewN | apply below_drew1) | exact HB.out)))); have n3_ := Aside0.mk (below_step (by repeat (first | (with_reducible first | exact HB.out | apply below_alloc | apply pw_below_drewN | apply below_drew1) | exact HB.out)) hb); clear HO368; clear HO371; clear HB; have HO368 := n0_; have HO371 := n1_; have HO377 := n2_; have HB := n3_; clear n0_ n1_ n2_ n3_; (try clear hb); (try clear hb2); (try clear hk); (try clear hi); (try clear ho0)) | (go_at_call 30; (with_reducible refine (valanceref07_Order.calls k _ _ l0 t378 _ ?side1 ?side2 A17.out).mono ?_); (case side1 => repeat (first | exact (Kd.C_below HR0.out HB.out) | (with_reducible refine Kd.C_alloc ?_ _) | (with_reducible refine Kd.C_drewN ?_ _) | (with_reducible refine Kd.C_drew ?_))); (case side2 => exact HC0.out); rintro e w26 ⟨v379, rfl, ho0, hb⟩; have n0_ := Aside0.mk (Kd.R_below (by (with_reducible repeat (first | apply Kd.R_alloc | apply Kd.R_drewN | apply Kd.R_drew)); exact HO368.out) hb); have n1_ := Aside0.mk (Kd.R_below (by (with_reducible repeat (first | apply Kd.R_alloc | apply Kd.R_drewN | apply Kd.R_drew)); exact HO371.out) hb); have n2_ := Aside0.mk (Kd.R_elder' (by (with_reducible repeat (first | apply Kd.R_alloc | apply Kd.R_drewN | apply Kd.R_drew)); exact HO377.out) (Kd.R_base ho0) hb); have n3_ := Aside0.mk (Kd.R_lower (Kd.R_new' ho0 (Kd.R_lt (by (with_reducible repeat (first | apply Kd.R_alloc | apply Kd.R_drewN | apply Kd.R_drew)); exact HO377.out))) (below_size (by repeat (first | (with_reducible first | exact HB.out | apply below_alloc | apply pw_below_drewN | apply below_drew1) | exact HB.out)))); have n4_ := Aside0.mk (below_step (by repeat (first | (with_reducible first | exact HB.out | apply below_alloc | apply pw_below_drewN | apply below_drew1) | exact HB.out)) hb); clear HO368; clear HO371; clear HO377; clear HB; have HO368 := n0_; have HO371 := n1_; have HO377 := n2_; have HO380 := n3_; have HB := n4_; clear n0_ n1_ n2_ n3_ n4_; (try clear hb); (try clear hb2); (try clear hk); (try clear hi); (try clear ho0); obtain ⟨Ao27, co27, eo27⟩ := Kd.R_slice HO377.out; subst eo27; obtain ⟨Ao28, co28, eo28⟩ := Kd.R_slice HO380.out; subst eo28) | (go_at_call 18; (with_reducible refine (valanceref06_Row.calls k _ _ t375 _ _ t378 t381 _ ?side1 ?side2 ?side3 ?side4 A18.out).mono ?_); (case side1 => repeat (first | exact (Kd.R_reads' HO377.out).2.2 | (with_reducible refine Kd.C_alloc ?_ _) | (with_reducible refine Kd.C_drewN ?_ _) | (with_reducible refine Kd.C_drew ?_))); (case side2 => exact (Kd.R_reads' HO377.out).2.1); (case side3 => repeat (first | exact (Kd.R_reads' HO380.out).2.2 | (with_reducible refine Kd.C_alloc ?_ _) | (with_reducible refine Kd.C_drewN ?_ _) | (with_reducible refine Kd.C_drew ?_))); (case side4 => exact (Kd.R_reads' HO380.out).2.1); rintro e w' ⟨rfl, ⟨nd, rfl⟩⟩))
          go_ret
          exact ⟨by first | rfl | (simp [errW_none, errW_some] <;> rfl) | (simp [*, errW_none, errW_some] <;> rfl), by repeat (first | (with_reducible first | exact HB.out | apply below_alloc | apply pw_below_drewN | apply below_drew1) | exact HB.out)⟩
        · rw [if_neg c15] at H
          exact absurd H (by simp)
      · replace c12 := Bool.eq_false_iff.mpr c12
        subst c12
        have H1 : (none) = some r := by rw [if_neg (show ¬ (false = true) by decide)] at H; exact H
        clear H
        have H := H1
        clear H1
        exact absurd H (by simp)
  · replace c6 := Bool.eq_false_iff.mpr c6
    subst c6
    have H1 : (none) = some r := by rw [if_neg (show ¬ (false = true) by decide)] at H; exact H
    clear H
    have H := H1
    clear H1
    exact absurd H (by simp)

/-- THE ONE PURE STATEMENT of valancelaw07_LinesBreak: yours. -/
def valancelaw07_LinesBreak.Pure : Prop := ∀ (l0 : List Int) (a1 : Int) (a2 : Int) (a3 : Bool), l0.length ≤ maxLen → l0.length * 8 ≤ 140737488351232 → (∀ x ∈ l0, (Lit.int .i64 x).wf = true) → (Lit.int .i64 a1).wf = true → (Lit.int .i64 a2).wf = true → ∃ k, valancelaw07_LinesBreak.f k l0 a1 a2 a3 = some true
theorem valancelaw07_LinesBreak.walk (P : valancelaw07_LinesBreak.Pure) (a0 : Option Addr) (len0 cap0 : Nat) (z0 : List Int) (a1 : Int) (a2 : Int) (a3 : Bool) (w : World) (w0 : (a0 = none ∧ len0 = 0 ∧ cap0 = 0 ∧ z0 = []) ∨ ∃ x, a0 = some x ∧ len0 ≤ cap0 ∧ cap0 ≤ maxLen ∧ z0.length = cap0 ∧ (∀ i, i < z0.length → w.cell? (x.add i) = some (.int .i64 (z0.getD i 0))) ∧ ∀ n ∈ z0, (Lit.int .i64 n).wf = true) (y0 : len0 * 8 ≤ 140737488351232) (w1 : (Lit.int .i64 a1).wf = true) (w2 : (Lit.int .i64 a2).wf = true) :
    Calls Try.prog 9 #[.slice a0 len0 cap0, .int .i64 a1, .int .i64 a2, .bool a3] w fun e w' => e = .returned (.bool true) ∧ Below w.heap.size w w' := by
  obtain ⟨l0, rfl, hr0, hm0, hw0, hc0⟩ := ReadsInt.ofRowC w0
  obtain ⟨k, h⟩ := P l0 a1 a2 a3 hm0 y0 hw0 w1 w2
  refine (valancelaw07_LinesBreak.calls k _ _ l0 a1 a2 a3 true w (Kd.C_of_reads (d := (0 : Int)) (h1 := fun _ => rfl) hr0) hc0 h).mono ?_
  rintro e w' ⟨rfl, hd⟩
  exact ⟨rfl, hd⟩

end Go.Proofs.Ytnmcefpnpfaklad.V
