/- What the functions of this seat answer, as plain Lean functions, and that the calls come to just that (written by a program of this repo, over the kit's printer; Lean checks it). -/
import Derived.Test.YtnmcefpnpfaklacVx0
import Derived.Test.YtnmcefpnpfaklacVx1
import Derived.Test.YtnmcefpnpfaklacVx2
import Derived.Test.YtnmcefpnpfaklacVx3
import Derived.Test.YtnmcefpnpfaklacVx4
namespace Go.Proofs.Ytnmcefpnpfaklac.V
open Go.RowKit Go.Proofs.YtnmcefpnpfaklacW.PrintWords Go.Proofs.YtnmcefpnpfaklacW.PrintLast Go.Proofs.YtnmcefpnpfaklacW.PrintMore
attribute [local go_sem] max2_int min2_int max_two min_two max_three min_three max_four min_four   -- for this text's walks alone
set_option linter.unusedVariables false
set_option linter.unusedSimpArgs false

/-! ### snap_Stops: function 22 -/
attribute [local go_sem] Oper.semAt_some
def vatn (lo hi e port : Int) : Int := if e = 1 then vcut lo else if e = 2 then vdivd (vsub (vadd lo hi) (mx port 0)) 2 else if e = 3 then vsub hi (mx port 0) else 0
def vatok (e : Int) : Bool := e == 1 || e == 2 || e == 3
theorem snap_At_eq (lo hi e port : Int) : snap_At.f lo hi e port = some (vatn lo hi e port, vatok e) := by
  unfold snap_At.f vatn vatok
  simp only [fix_Cut_eq, fix_Add_eq, fix_Sub_eq, fix_Div_eq, Option.bind_some]
  by_cases h1 : e = 1
  · simp [h1]
  by_cases h2 : e = 2
  · simp [h2]
  by_cases h3 : e = 3
  · simp [h3]
  simp [h1, h2, h3]
theorem zs_at (lo hi e port : Int) (w : World) : Calls Try.prog 17 #[.agg #[.int .i64 lo, .int .i64 hi, .int .i64 e], .int .i64 port] w fun en w' => en = .returned (.tuple #[.int .i64 (vatn lo hi e port), .bool (vatok e)]) ∧ Below w.heap.size w w' := snap_At.calls lo hi e port _ _ w (snap_At_eq lo hi e port)
/-- It is a stop. -/
def vhit (port most : Int) (x : S33) : Bool := vatok x.f1 && (decide (0 ≤ vatn x.f0.f0 x.f0.f1 x.f1 port) && decide (vatn x.f0.f0 x.f0.f1 x.f1 port ≤ mx most 0))
def vstops (l : List S33) (port most : Int) : List Int := (l.filter (vhit port most)).map fun x => vatn x.f0.f0 x.f0.f1 x.f1 port
theorem vstops_hit (l : List S33) (port most : Int) (i : Nat) (hi : i < l.length) (h : vhit port most (rd_T33 l i) = true) : vstops (l.take (i + 1)) port most = vstops (l.take i) port most ++ [vatn (rd_T33 l i).f0.f0 (rd_T33 l i).f0.f1 (rd_T33 l i).f1 port] := by
  have e : rd_T33 l (i : Int) = l[i] := by unfold rd_T33; simp [List.getD_eq_getElem?_getD, List.getElem?_eq_getElem hi]
  rw [e] at h ⊢
  unfold vstops
  rw [List.take_succ_eq_append_getElem hi, List.filter_append, List.map_append]
  simp [h]
theorem vstops_miss (l : List S33) (port most : Int) (i : Nat) (hi : i < l.length) (h : vhit port most (rd_T33 l i) = false) : vstops (l.take (i + 1)) port most = vstops (l.take i) port most := by
  have e : rd_T33 l (i : Int) = l[i] := by unfold rd_T33; simp [List.getD_eq_getElem?_getD, List.getElem?_eq_getElem hi]
  rw [e] at h
  unfold vstops
  rw [List.take_succ_eq_append_getElem hi, List.filter_append, List.map_append]
  simp [h]
theorem vstops_len (l : List S33) (port most : Int) : (vstops l port most).length ≤ l.length := by unfold vstops; rw [List.length_map]; exact List.length_filter_le _ _
theorem grown_none {W W1 : World} (h : Below W.heap.size W W1) : W.grownBy W1 none := ⟨h.os, h.tape, h.output, h.size, fun k hk _ => h.block k hk⟩
/-- What a round keeps: all that was there before, and the three boxes of the iterator. -/
def KpS (n0 : Nat) (W W' : World) : Prop := Below n0 W W' ∧ W'.heap[n0 + 1]? = W.heap[n0 + 1]? ∧ W'.heap[n0 + 1 + 1]? = W.heap[n0 + 1 + 1]? ∧ W'.heap[n0 + 1 + 1 + 1]? = W.heap[n0 + 1 + 1 + 1]?
theorem KpS.refl (n0 : Nat) (W : World) : KpS n0 W W := ⟨Below.refl _ _, rfl, rfl, rfl⟩
theorem KpS.trans {n0 : Nat} {A B C : World} (h : KpS n0 A B) (g : KpS n0 B C) : KpS n0 A C := ⟨h.1.trans g.1, g.2.1.trans h.2.1, g.2.2.1.trans h.2.2.1, g.2.2.2.trans h.2.2.2⟩
theorem KpS.of_below {n0 : Nat} {W W' : World} (h : Below W.heap.size W W') (hn : n0 + 4 ≤ W.heap.size) : KpS n0 W W' := ⟨h.mono (by omega), h.block _ (by omega), h.block _ (by omega), h.block _ (by omega)⟩
set_option maxRecDepth 100000 in
set_option maxHeartbeats 4000000 in
theorem zs_iter (n : Nat) (hn : 1 ≤ n) (l_ n₀ c : Nat) (A : Option Addr) (l : List S33) (port most : Int) (J Jx : List Int → World → Prop)
    (hJ : ∀ s W W1, J s W → Below W.heap.size W W1 → J s W1)
    (hY : ∀ pre x W, J pre W → pre.length < l.length → YieldAt Fence.wide (n - 1) Try.prog l_ #[.int .i64 x] W fun e W' =>
      (e = .returned (.bool true) ∧ J (pre ++ [x]) W' ∧ KpS n₀ W W') ∨ (e = .returned (.bool false) ∧ Jx (pre ++ [x]) W'))
    (W : World) (w : World) (hw : w.heap.size ≤ n₀) (hwW : Below w.heap.size w W) (hn₀ : n₀ + 4 ≤ W.heap.size)
    (hcl : W.heap[n₀ + 1]? = some (.cells #[.slice A l.length c] 23 (0, 0))) (hcp : W.heap[n₀ + 1 + 1]? = some (.cells #[.int .i64 port] 3 (0, 0))) (hcm : W.heap[n₀ + 1 + 1 + 1]? = some (.cells #[.int .i64 most] 3 (0, 0)))
    (hr : Kd.C k33 w A l.length l) (h0 : J [] W) :
    CallsIn Fence.wide n Try.prog 56 #[.func (.yield l_) #[] #[], .pointer (some ⟨n₀ + 1, 0, none⟩), .pointer (some ⟨n₀ + 1 + 1, 0, none⟩), .pointer (some ⟨n₀ + 1 + 1 + 1, 0, none⟩)] W fun e W' => (∃ v, e = .returned v) ∧
      ((∃ ys, ys = vstops l port most ∧ J ys W') ∨ (∃ pre, True ∧ Jx pre W')) := by
  have hlen : l.length ≤ 9223372036854775807 := hr.2.1
  have cl : W.cell? ⟨n₀ + 1, 0, none⟩ = some (.slice A l.length c) := (blk_cell hcl 0).trans rfl
  have hu33 := Try.underlying33
  have HR := Aside0.mk hr
  have HW := Aside0.mk hwW
  have HN := Aside0.mk hn₀
  have HP := Aside0.mk hcp
  have HM := Aside0.mk hcm
  have HJ0 := Aside0.mk h0
  have HJJ := Aside0.mk hJ
  have HYY := Aside0.mk hY
  clear hr hwW hn₀ hcp hcm hcl h0 hJ hY
  refine callsIn_of_wp Try.func56 rfl trivial ?_ rfl
  simp only [Try.ntmps56, List.size_toArray, List.length_cons, List.length_nil, Nat.reduceAdd, Nat.reduceSub, Array.replicate_succ, Array.replicate_zero, List.push_toArray, List.append_toArray, List.nil_append, List.cons_append]
  gi_wp2
  clear cl
  gi_loopw [11] (fun i wr => ∃ k : Nat, k ≤ l.length ∧ i = .int .i64 (k : Int) ∧ Aside0 (J (vstops (l.take k) port most) wr) ∧ Aside0 (KpS n₀ W wr))
    (fun i _ => l.length - (intOf i).toNat)
  case atStart => exact ⟨0, Nat.zero_le _, rfl, HJ0, ⟨KpS.refl _ _⟩⟩
  case round =>
    clear HJ0
    obtain ⟨k, hk, rfl, HJ, HB⟩ := hrel
    by_cases hlt : k < l.length
    · obtain ⟨ad, e, x0, x1, x2⟩ := at_T33 HR.out (k : Int) (by omega) (by omega)
      cases e
      rw [Int.toNat_natCast] at x0 x1 x2
      have HNR := Aside0.mk (Nat.le_trans HN.out HB.out.1.size)
      have lt0 := World.block_lt_of_cell? w _ x0
      replace x0 := (HB.out.1.cell (Nat.lt_of_lt_of_le lt0 hw)).trans ((HW.out.cell lt0).trans x0)
      have lt1 := World.block_lt_of_cell? w _ x1
      replace x1 := (HB.out.1.cell (Nat.lt_of_lt_of_le lt1 hw)).trans ((HW.out.cell lt1).trans x1)
      have lt2 := World.block_lt_of_cell? w _ x2
      replace x2 := (HB.out.1.cell (Nat.lt_of_lt_of_le lt2 hw)).trans ((HW.out.cell lt2).trans x2)
      clear lt0 lt1 lt2
      have HPR := Aside0.mk (HB.out.2.2.1.trans HP.out)
      have HMR := Aside0.mk (HB.out.2.2.2.trans HM.out)
      have cp : wr.cell? ⟨n₀ + 1 + 1, 0, none⟩ = some (.int .i64 port) := (blk_cell HPR.out 0).trans rfl
      have ltp := World.block_lt_of_cell? wr _ cp
      have hpl := vstops_len (l.take k) port most
      rw [List.length_take] at hpl
      have HL := Aside0.mk (show (vstops (l.take k) port most).length < l.length by omega)
      clear hpl
      obtain ⟨hh, hhe⟩ : ∃ hh, hh = vhit port most (rd_T33 l k) := ⟨_, rfl⟩
      have hhv := hhe
      unfold vhit at hhv
      have HAT := Aside0.mk (fun W => zs_at (rd_T33 l k).f0.f0 (rd_T33 l k).f0.f1 (rd_T33 l k).f1 port W)
      have HST := Aside0.mk (fun h => vstops_hit l port most k hlt h)
      generalize vatn (rd_T33 l k).f0.f0 (rd_T33 l k).f0.f1 (rd_T33 l k).f1 port = n_ at *
      generalize vatok (rd_T33 l k).f1 = ok_ at *
      have HH := Aside0.mk hhe.symm
      have hmx : mx most 0 = if most < 0 then 0 else most := rfl
      cases ok_ with
      | false =>
        have : hh = false := by rw [hhv]; rfl
        subst this
        clear hhe hhv hmx
        gi_wp2_with (refine ⟨trivial, ?_⟩; gi_at_call 17; refine (callsIn_wide.2 (HAT.out _)).mono ?_; rintro e w1 ⟨rfl, hb⟩; have HB1 := Aside0.mk (below_step (below_alloc (Below.refl wr.heap.size wr) _) hb); have HB2 := Aside0.mk (HB.out.trans (KpS.of_below HB1.out HNR.out)); have cm1 : w1.cell? ⟨n₀ + 1 + 1 + 1, 0, none⟩ = some (.int .i64 most) := (blk_cell (blk_below HMR.out HB1.out) 0).trans rfl; have HJ1 := Aside0.mk (HJJ.out _ wr w1 HJ.out HB1.out); clear hb)
        refine ⟨fun _ h => (by cases h), ?_⟩
        gi_wp2
        go_roundw
        case rel => exact ⟨k + 1, by omega, by go_num, ⟨by rw [vstops_miss l port most k hlt HH.out]; exact HJ1.out⟩, HB2⟩
        case measure => simp [intOf]; omega
      | true =>
        by_cases h0 : 0 ≤ n_
        case neg =>
          have : hh = false := by rw [hhv]; simp [h0]
          subst this
          have d0 : decide (0 ≤ n_) = false := decide_eq_false h0
          clear hhe hhv hmx h0
          gi_wp2_with (refine ⟨trivial, ?_⟩; gi_at_call 17; refine (callsIn_wide.2 (HAT.out _)).mono ?_; rintro e w1 ⟨rfl, hb⟩; have HB1 := Aside0.mk (below_step (below_alloc (Below.refl wr.heap.size wr) _) hb); have HB2 := Aside0.mk (HB.out.trans (KpS.of_below HB1.out HNR.out)); have cm1 : w1.cell? ⟨n₀ + 1 + 1 + 1, 0, none⟩ = some (.int .i64 most) := (blk_cell (blk_below HMR.out HB1.out) 0).trans rfl; have HJ1 := Aside0.mk (HJJ.out _ wr w1 HJ.out HB1.out); clear hb)
          refine ⟨fun _ h => (by cases h), ?_⟩
          gi_wp2
          go_roundw
          case rel => exact ⟨k + 1, by omega, by go_num, ⟨by rw [vstops_miss l port most k hlt HH.out]; exact HJ1.out⟩, HB2⟩
          case measure => simp [intOf]; omega
        have d0 : decide (0 ≤ n_) = true := decide_eq_true h0
        by_cases hm : most < 0
        all_goals
          simp only [hm, if_true, if_false] at hmx
          rw [hmx] at hhv
        · by_cases h1 : n_ ≤ 0
          case neg =>
            have : hh = false := by rw [hhv]; simp [h1]
            subst this
            have d1 : decide (n_ ≤ 0) = false := decide_eq_false h1
            clear hhe hhv hmx h1
            gi_wp2_with (refine ⟨trivial, ?_⟩; gi_at_call 17; refine (callsIn_wide.2 (HAT.out _)).mono ?_; rintro e w1 ⟨rfl, hb⟩; have HB1 := Aside0.mk (below_step (below_alloc (Below.refl wr.heap.size wr) _) hb); have HB2 := Aside0.mk (HB.out.trans (KpS.of_below HB1.out HNR.out)); have cm1 : w1.cell? ⟨n₀ + 1 + 1 + 1, 0, none⟩ = some (.int .i64 most) := (blk_cell (blk_below HMR.out HB1.out) 0).trans rfl; have HJ1 := Aside0.mk (HJJ.out _ wr w1 HJ.out HB1.out); clear hb)
            refine ⟨fun _ h => (by cases h), ?_⟩
            gi_wp2
            go_roundw
            case rel => exact ⟨k + 1, by omega, by go_num, ⟨by rw [vstops_miss l port most k hlt HH.out]; exact HJ1.out⟩, HB2⟩
            case measure => simp [intOf]; omega
          have : hh = true := by rw [hhv]; simp [h0, h1]
          subst this
          have d1 : decide (n_ ≤ 0) = true := decide_eq_true h1
          clear hhe hhv hmx h1
          gi_wp2_with (refine ⟨trivial, ?_⟩; gi_at_call 17; refine (callsIn_wide.2 (HAT.out _)).mono ?_; rintro e w1 ⟨rfl, hb⟩; have HB1 := Aside0.mk (below_step (below_alloc (Below.refl wr.heap.size wr) _) hb); have HB2 := Aside0.mk (HB.out.trans (KpS.of_below HB1.out HNR.out)); have cm1 : w1.cell? ⟨n₀ + 1 + 1 + 1, 0, none⟩ = some (.int .i64 most) := (blk_cell (blk_below HMR.out HB1.out) 0).trans rfl; have HJ1 := Aside0.mk (HJJ.out _ wr w1 HJ.out HB1.out); clear hb; obtain ⟨fn, tmps, assign, body, hy, hR⟩ := HYY.out _ n_ w1 HJ1.out HL.out)
          refine hR.mono ?_
          rintro e W3 (⟨rfl, hJ3, hk3⟩ | ⟨rfl, hJx3⟩)
          · have HJ3 := Aside0.mk hJ3
            have HK3 := Aside0.mk hk3
            clear hJ3 hk3 hR hy
            gi_wp2
            go_roundw
            case rel => exact ⟨k + 1, by omega, by go_num, ⟨by rw [HST.out HH.out]; exact HJ3.out⟩, ⟨HB2.out.trans HK3.out⟩⟩
            case measure => simp [intOf]; omega
          · have HJ3 := Aside0.mk hJx3
            clear hJx3 hR hy
            gi_wp2
            refine bodyPost_ret (results_none rfl _ _ _) rfl ?_
            exact ⟨⟨_, rfl⟩, .inr ⟨_, trivial, HJ3.out⟩⟩
        · by_cases h1 : n_ ≤ most
          case neg =>
            have : hh = false := by rw [hhv]; simp [h1]
            subst this
            have d1 : decide (n_ ≤ most) = false := decide_eq_false h1
            clear hhe hhv hmx h1
            gi_wp2_with (refine ⟨trivial, ?_⟩; gi_at_call 17; refine (callsIn_wide.2 (HAT.out _)).mono ?_; rintro e w1 ⟨rfl, hb⟩; have HB1 := Aside0.mk (below_step (below_alloc (Below.refl wr.heap.size wr) _) hb); have HB2 := Aside0.mk (HB.out.trans (KpS.of_below HB1.out HNR.out)); have cm1 : w1.cell? ⟨n₀ + 1 + 1 + 1, 0, none⟩ = some (.int .i64 most) := (blk_cell (blk_below HMR.out HB1.out) 0).trans rfl; have HJ1 := Aside0.mk (HJJ.out _ wr w1 HJ.out HB1.out); clear hb)
            refine ⟨fun _ h => (by cases h), ?_⟩
            gi_wp2
            go_roundw
            case rel => exact ⟨k + 1, by omega, by go_num, ⟨by rw [vstops_miss l port most k hlt HH.out]; exact HJ1.out⟩, HB2⟩
            case measure => simp [intOf]; omega
          have : hh = true := by rw [hhv]; simp [h0, h1]
          subst this
          have d1 : decide (n_ ≤ most) = true := decide_eq_true h1
          clear hhe hhv hmx h1
          gi_wp2_with (refine ⟨trivial, ?_⟩; gi_at_call 17; refine (callsIn_wide.2 (HAT.out _)).mono ?_; rintro e w1 ⟨rfl, hb⟩; have HB1 := Aside0.mk (below_step (below_alloc (Below.refl wr.heap.size wr) _) hb); have HB2 := Aside0.mk (HB.out.trans (KpS.of_below HB1.out HNR.out)); have cm1 : w1.cell? ⟨n₀ + 1 + 1 + 1, 0, none⟩ = some (.int .i64 most) := (blk_cell (blk_below HMR.out HB1.out) 0).trans rfl; have HJ1 := Aside0.mk (HJJ.out _ wr w1 HJ.out HB1.out); clear hb; obtain ⟨fn, tmps, assign, body, hy, hR⟩ := HYY.out _ n_ w1 HJ1.out HL.out)
          refine hR.mono ?_
          rintro e W3 (⟨rfl, hJ3, hk3⟩ | ⟨rfl, hJx3⟩)
          · have HJ3 := Aside0.mk hJ3
            have HK3 := Aside0.mk hk3
            clear hJ3 hk3 hR hy
            gi_wp2
            go_roundw
            case rel => exact ⟨k + 1, by omega, by go_num, ⟨by rw [HST.out HH.out]; exact HJ3.out⟩, ⟨HB2.out.trans HK3.out⟩⟩
            case measure => simp [intOf]; omega
          · have HJ3 := Aside0.mk hJx3
            clear hJx3 hR hy
            gi_wp2
            refine bodyPost_ret (results_none rfl _ _ _) rfl ?_
            exact ⟨⟨_, rfl⟩, .inr ⟨_, trivial, HJ3.out⟩⟩
    · obtain rfl : k = l.length := by omega
      gi_wp2
      go_end0
      exact ⟨⟨_, rfl⟩, .inl ⟨_, rfl, by have := HJ.out; rw [List.take_length] at this; exact this⟩⟩
theorem zs_each (A : Option Addr) (n c : Nat) (port most : Int) (w : World) : Calls Try.prog 48 #[.slice A n c, .int .i64 port, .int .i64 most] w fun e w' =>
    e = .returned (.func (.func 56) #[] #[.pointer (some ⟨w.heap.size, 0, none⟩), .pointer (some ⟨w.heap.size + 1, 0, none⟩), .pointer (some ⟨w.heap.size + 1 + 1, 0, none⟩)]) ∧ w' = ((w.alloc (.cells #[.slice A n c] 23)).alloc (.cells #[.int .i64 port] 3)).alloc (.cells #[.int .i64 most] 3) := by
  go_enter Try.func48, Try.ntmps48
  go_wp2
  go_ret
  exact ⟨rfl, rfl⟩
theorem zs_worlds (A : Option Addr) (n c : Nat) (port most : Int) (X : Obj) (w : World) : let W := (((w.alloc X).alloc (.cells #[.slice A n c] 23)).alloc (.cells #[.int .i64 port] 3)).alloc (.cells #[.int .i64 most] 3)
    W.heap[w.heap.size]? = some X ∧ W.heap[w.heap.size + 1]? = some (.cells #[.slice A n c] 23 (0, 0)) ∧ W.heap[w.heap.size + 1 + 1]? = some (.cells #[.int .i64 port] 3 (0, 0)) ∧ W.heap[w.heap.size + 1 + 1 + 1]? = some (.cells #[.int .i64 most] 3 (0, 0)) ∧ W.heap.size = w.heap.size + 4 ∧ Below w.heap.size w W := by
  intro W
  have e0 : (w.alloc X).heap[w.heap.size]? = some X := World.alloc_heap_new w X
  have B1 := blk_new (w.alloc X) (.cells #[.slice A n c] 23)
  have B2 := blk_new ((w.alloc X).alloc (.cells #[.slice A n c] 23)) (.cells #[.int .i64 port] 3)
  have B3 := blk_new (((w.alloc X).alloc (.cells #[.slice A n c] 23)).alloc (.cells #[.int .i64 port] 3)) (.cells #[.int .i64 most] 3)
  simp only [World.size_alloc] at B1 B2 B3
  exact ⟨blk_alloc (blk_alloc (blk_alloc e0 _) _) _, blk_alloc (blk_alloc B1 _) _, blk_alloc B2 _, B3, by simp [W, World.size_alloc], below_alloc (below_alloc (below_alloc (below_alloc (Below.refl _ _) _) _) _) _⟩
theorem zs_stops (A : Option Addr) (c : Nat) (l : List S33) (port most : Int) (X : Obj) (n : Nat) (hn : 1 ≤ n) (w : World) (hr : Kd.C k33 w A l.length l) :
    SeqStopsK Fence.wide n Try.prog 56 #[.pointer (some ⟨w.heap.size + 1, 0, none⟩), .pointer (some ⟨w.heap.size + 1 + 1, 0, none⟩), .pointer (some ⟨w.heap.size + 1 + 1 + 1, 0, none⟩)] (fun x : Int => #[Value.int .i64 x]) (KpS w.heap.size)
      (fun ys => ys = vstops l port most) (fun _ => True) l.length ((((w.alloc X).alloc (.cells #[.slice A l.length c] 23)).alloc (.cells #[.int .i64 port] 3)).alloc (.cells #[.int .i64 most] 3)) := by
  obtain ⟨_, h1, h2, h3, hs, hb⟩ := zs_worlds A l.length c port most X w
  intro l_ J Jx W hW hJ _ hY h0
  have hW' : Below (w.heap.size + 4) ((((w.alloc X).alloc (.cells #[.slice A l.length c] 23)).alloc (.cells #[.int .i64 port] 3)).alloc (.cells #[.int .i64 most] 3)) W := by rw [← hs]; exact hW
  exact zs_iter n hn l_ w.heap.size c A l port most J Jx (fun s W1 W2 h hb2 => hJ s W1 W2 none h (grown_none hb2) (fun r e => by cases e)) hY W w (Nat.le_refl _) (below_step hb hW) (by rw [← hs]; exact hW.size)
    ((hW'.block _ (by omega)).trans h1) ((hW'.block _ (by omega)).trans h2) ((hW'.block _ (by omega)).trans h3) hr h0
set_option maxRecDepth 100000 in
set_option maxHeartbeats 4000000 in
theorem zs_main (A : Option Addr) (c : Nat) (l : List S33) (port most : Int) (w : World) (hr : Kd.C k33 w A l.length l) (hlen : l.length ≤ 4398046511104) :
    CallsIn Fence.wide 5 Try.prog 22 #[.slice A l.length c, .int .i64 port, .int .i64 most] w fun e W' => ∃ v, e = .returned v ∧ W'.ownsRow w.heap.size 3 1 v (vstops l port most).length ((vstops l port most).map (Value.int .i64)) ∧ Below w.heap.size w W' := by
  obtain ⟨i0, hi, hz0, hz1, hz2⟩ := info_parts info3
  obtain ⟨b0, b1, b2, b3, bs, bb⟩ := zs_worlds A l.length c port most (.cells #[.slice none 0 0] 39) w
  have HR := Aside0.mk hr
  have HB0 := Aside0.mk b0
  have HBB := Aside0.mk bb
  have HBS := Aside0.mk bs
  clear hr b0 b1 b2 b3 bs bb
  refine callsIn_of_wp_marks Try.func22 rfl trivial ?_ rfl
  simp only [Try.ntmps22, List.size_toArray, List.length_cons, List.length_nil, Nat.reduceAdd, Nat.reduceSub, Array.replicate_succ, Array.replicate_zero, List.push_toArray, List.append_toArray, List.nil_append, List.cons_append]
  gi_wp2_with (refine ⟨trivial, ?_⟩; gi_at_call 48; refine (callsIn_wide.2 (zs_each _ _ _ _ _ _)).mono ?_; rintro e w' ⟨rfl, rfl⟩)
  have hstops := zs_stops A c l port most (.cells #[.slice none 0 0] 39) 4 (by omega) w HR.out
  obtain ⟨W0, hW0⟩ : ∃ W0, ((((w.alloc (.cells #[.slice none 0 0] 39)).alloc (.cells #[.slice A l.length c] 23)).alloc (.cells #[.int .i64 port] 3)).alloc (.cells #[.int .i64 most] 3)) = W0 := ⟨_, rfl⟩
  rw [hW0] at hstops HB0 HBB HBS ⊢
  clear hW0
  have hsz : W0.heap.size = w.heap.size + 4 := HBS.out
  refine wpIn_rangeFunc_ownG (F := Fence.wide) rfl (by omega) (gf := 56) (lb := #[.pointer (some ⟨w.heap.size + 1, 0, none⟩), .pointer (some ⟨w.heap.size + 1 + 1, 0, none⟩), .pointer (some ⟨w.heap.size + 1 + 1 + 1, 0, none⟩)]) rfl trivial (enters_of Try.func56 (by kernel_rfl) rfl)
    hstops (fun h g => h.trans g) (fun W l_ o o' hl h _ _ => ⟨belowK_b (w := W0) (by omega) W l_ o o' hl h (by assumption) (by assumption), ?k1, ?k2, ?k3⟩) (Below.refl _ _) (fun _ => rfl)
    (fun pre W => (∃ v, Boxed W w.heap.size 39 v ∧ W.ownsRow (w.heap.size + 4) 3 1 v pre.length (pre.map (Value.int .i64)) ∧ True) ∧ (Below w.heap.size w W ∧ w.heap.size + 4 ≤ W.heap.size))
    (fun _ _ _ => False)
    (OwnFrom.and (Own.from (holdsRow_own (w.heap.size + 4) w.heap.size 39 3 1 (fun pre : List Int => pre.length) (fun pre => pre.map (Value.int .i64)) (fun pre v => True)) _) (OwnFrom.and (ownFrom_below (Nat.le_refl _) (by omega)) (fun _ _ _ _ hs hg _ => Nat.le_trans hs hg.size)))
    (fun _ _ _ _ _ hs _ _ => hs)
    ⟨⟨_, HB0.out, World.ownsRow_nil _ _ _ _, trivial⟩, HBB.out, by omega⟩
    (fun x => { tmps := #[.slice A l.length c, .int .i64 port, .int .i64 most, undef, undef, undef, .slice none 0 0, .pointer (some ⟨w.heap.size, 0, none⟩), .int .i64 x, .slice A l.length c, .int .i64 port, .int .i64 most,
      .func (.func 56) #[] #[.pointer (some ⟨w.heap.size + 1, 0, none⟩), .pointer (some ⟨w.heap.size + 1 + 1, 0, none⟩), .pointer (some ⟨w.heap.size + 1 + 1 + 1, 0, none⟩)], .int .i64 x, undef, undef, undef, undef, undef], defers := [] }) ?assign ?body ?done ?stop
  case k1 => exact World.putObj_heap_other (by omega)
  case k2 => exact World.putObj_heap_other (by omega)
  case k3 => exact World.putObj_heap_other (by omega)
  case assign =>
    intro l_ x W K hK
    gi_wp2
    exact hK
  case body =>
    rintro l_ pre x W ⟨⟨v, hv, hrow, _⟩, hB, hS⟩ hlt
    have hc := hv.cell
    have hml : pre.length + 1 ≤ maxLen := by unfold maxLen; omega
    have HV := Aside0.mk hv
    have HO := Aside0.mk hrow
    have HB := Aside0.mk hB
    clear hv hrow hB
    gi_wp2_with (gi_at_builtin; refine wpListIn_append_own _ rfl _ _ 39 rfl (w.heap.size + 4) 3 i0 (.int .i64 0) 1 8 Try.underlying39 hi hz0 hz1 hz2 rfl (by decide) _ _ _ rfl (HO.out.alloc _) ⟨W.heap.size, 0, none⟩ 1 1 [.int .i64 x] rfl rfl (cell_one_new _ _ _) (by simp [Value.oneCell']) (by omega) (by omega) (by simp; omega) ?_; intro v' w1 hown' hgrow _; obtain ⟨g', cap', rfl⟩ := ownsRow_succ hown'; obtain ⟨hv1, hv2, hr2, hk2, hb2⟩ := HV.out.appended (n₀ := w.heap.size) (by decide) (own_weaken HO.out (by omega)) (by omega) (Nat.le_refl _) (own_weaken hown' (by omega)) hgrow; have hc1 := hv1.cell; have hf1 := hv1.frozen; have HV1 := Aside0.mk hv1; have HV2 := Aside0.mk hv2; have HK2 := Aside0.mk hk2; have HB2 := Aside0.mk hb2; have HO2 := Aside0.mk hown'; have HG := Aside0.mk hgrow; clear hv1 hv2 hr2 hk2 hb2 hown' hgrow)
    have far : ∀ b, b < w.heap.size + 4 → b ≠ w.heap.size → (w1.setCell ⟨w.heap.size, 0, none⟩ (.slice (some ⟨g', 0, none⟩) (pre.length + 1) cap')).heap[b]? = W.heap[b]? := by
      intro b h1 h2
      refine (Below.heap_setCell w1 _ _ b h2).trans ((HG.out.block b (by simp; omega) ?_).trans (Below.heap_alloc _ _ _ (by omega)))
      intro e
      have := own_base HO.out b e.symm
      omega
    exact ⟨HK2.out.from _, ⟨HB2.out, far _ (by omega) (by omega), far _ (by omega) (by omega), far _ (by omega) (by omega)⟩,
      ⟨⟨_, HV2.out, by simpa using HO2.out.kept (grownBy_setCell' w1 w.heap.size _) (.inr (HV1.out.not_row (by decide) HO2.out).symm), trivial⟩, HB.out.trans HB2.out, Nat.le_trans hS HB2.out.size⟩⟩
  case done =>
    rintro D ys W hD rfl ⟨⟨v, hv, hrow, _⟩, hB, hS⟩ hK
    have hc := hv.cell
    have HO := Aside0.mk hrow
    have HB := Aside0.mk hB
    have HK := Aside0.mk hK
    clear hv hrow hB hK
    gi_wp2
    refine ⟨by simp, .inl ⟨_, _, rfl, run_takeDeferred HK.out, ?_⟩⟩
    exact ⟨_, results_tmp rfl _ _ _, v, rfl, ownsRow_putObj (own_weaken HO.out (by omega)) _ HK.out rfl, HB.out.trans (belowK_b (w := w) (Nat.le_refl _) W D _ _ (by omega) HK.out rfl rfl)⟩
  case stop =>
    rintro D c pre W _ _ h _
    exact h.elim
def snap_Stops.f (l : List S33) (port most : Int) : Option (List Int) := if l.length ≤ 4398046511104 then some (vstops l port most) else none
theorem snap_Stops.calls (A0 : Option Addr) (c0 : Nat) (l0 : List S33) (a1 a2 : Int) (r : List Int) (w : World) (hr0 : Kd.C k33 w A0 l0.length l0) (hc0 : l0.length ≤ c0) (h : snap_Stops.f l0 a1 a2 = some r) :
    Calls Try.prog 22 #[.slice A0 l0.length c0, .int .i64 a1, .int .i64 a2] w fun e w' => ∃ v0_ : Value, e = .returned (v0_) ∧ Kd.R (Kd.int .i64) 3 w' w.heap.size (fun _ => True) v0_ r ∧ Below w.heap.size w w' := by
  unfold snap_Stops.f at h
  by_cases hlen : l0.length ≤ 4398046511104
  case neg => rw [if_neg hlen] at h; cases h
  rw [if_pos hlen] at h
  obtain rfl := Option.some.inj h
  refine (callsIn_wide.1 (zs_main A0 c0 l0 a1 a2 w hr0 hlen)).mono ?_
  rintro e w' ⟨v, rfl, ho, hb⟩
  exact ⟨v, rfl, Kd.R_of_own ho (fun _ _ => trivial), hb⟩

end Go.Proofs.Ytnmcefpnpfaklac.V
