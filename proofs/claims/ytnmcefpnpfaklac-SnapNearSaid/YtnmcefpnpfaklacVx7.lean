/- What the functions of this seat answer, as plain Lean functions, and that the calls come to just that (written by a program of this repo, over the kit's printer; Lean checks it). -/
import Derived.Test.YtnmcefpnpfaklacVx0
import Derived.Test.YtnmcefpnpfaklacVx1
import Derived.Test.YtnmcefpnpfaklacVx3
import Derived.Test.YtnmcefpnpfaklacVx6
namespace Go.Proofs.Ytnmcefpnpfaklac.V
open Go.RowKit Go.Proofs.YtnmcefpnpfaklacW.PrintWords Go.Proofs.YtnmcefpnpfaklacW.PrintLast Go.Proofs.YtnmcefpnpfaklacW.PrintMore
attribute [local go_sem] max2_int min2_int max_two min_two max_three min_three max_four min_four   -- for this text's walks alone
set_option linter.unusedVariables false
set_option linter.unusedSimpArgs false

/-! ### snap_Best: function 24 -/
def vfar (a b : Int) : Int := mx (vsub a b) (vsub b a)
theorem snap_far_eq (a b : Int) : snap_far.f a b = some (vfar a b) := by
  unfold snap_far.f vfar
  simp only [fix_Sub_eq, Option.bind_some]
theorem zb_far (a b : Int) (w : World) : Calls Try.prog 45 #[.int .i64 a, .int .i64 b] w fun e w' => e = .returned (.int .i64 (vfar a b)) ∧ Below w.heap.size w w' := snap_far.calls a b _ w (snap_far_eq a b)
def NearS (g5 g3 g2 : Nat) (at_ want : Int) (A : Option Addr) (n c : Nat) (ad : Addr) (x : Int) (w w' : World) : Prop := w'.cell? ⟨g5, 0, none⟩ = some (.int .i64 at_) ∧ w'.cell? ⟨g3, 0, none⟩ = some (.int .i64 want) ∧ w'.cell? ⟨g2, 0, none⟩ = some (.slice A n c) ∧ w'.cell? ad = some (.int .i64 x) ∧ Below w.heap.size w w'
theorem NearS.below {g5 g3 g2 : Nat} {at_ want : Int} {A : Option Addr} {n c : Nat} {ad : Addr} {x : Int} {w W W1 : World} (h : NearS g5 g3 g2 at_ want A n c ad x w W) (hb : Below W.heap.size W W1) : NearS g5 g3 g2 at_ want A n c ad x w W1 := ⟨pw_cell_below hb h.1, pw_cell_below hb h.2.1, pw_cell_below hb h.2.2.1, pw_cell_below hb h.2.2.2.1, below_step h.2.2.2.2 hb⟩
theorem zb_first (g5 g3 g2 : Nat) (n want at_ : Int) (A : Option Addr) (len c : Nat) (w : World) (h5 : w.cell? ⟨g5, 0, none⟩ = some (.int .i64 at_)) (hat : at_ < 0) :
    Calls Try.prog 49 #[.int .i64 n, .pointer (some ⟨g5, 0, none⟩), .pointer (some ⟨g3, 0, none⟩), .pointer (some ⟨g2, 0, none⟩)] w fun e w' => e = .returned (.bool true) ∧ Below w.heap.size w w' := by
  have hd : decide (at_ < 0) = true := decide_eq_true hat
  go_enter Try.func49, Try.ntmps49
  go_wp2
  go_quiet (fail)
  go_wp2
  go_ret
  exact ⟨rfl, by repeat (first | exact Below.refl _ _ | apply pw_below_drewN | apply below_drew1)⟩
set_option maxHeartbeats 2000000 in
theorem zb_next (g5 g3 g2 : Nat) (n want : Int) (k : Nat) (ad : Addr) (len c : Nat) (x : Int) (w : World) (h5 : w.cell? ⟨g5, 0, none⟩ = some (.int .i64 (k : Int))) (h3 : w.cell? ⟨g3, 0, none⟩ = some (.int .i64 want)) (h2 : w.cell? ⟨g2, 0, none⟩ = some (.slice (some ad) len c))
    (hx : w.cell? (ad.add k) = some (.int .i64 x)) (hk : k < len) (hlen : len ≤ 9223372036854775807) :
    Calls Try.prog 49 #[.int .i64 n, .pointer (some ⟨g5, 0, none⟩), .pointer (some ⟨g3, 0, none⟩), .pointer (some ⟨g2, 0, none⟩)] w fun e w' => e = .returned (.bool (decide (vfar n want < vfar x want))) ∧ Below w.heap.size w w' := by
  have hd : decide ((k : Int) < 0) = false := decide_eq_false (by omega)
  have HS := Aside0.mk (show NearS g5 g3 g2 k want (some ad) len c (ad.add k) x w w from ⟨h5, h3, h2, hx, Below.refl _ _⟩)
  have hki : (k : Int) < (len : Int) := by omega
  clear h5 h3 h2 hx
  go_enter Try.func49, Try.ntmps49
  go_wp2
  have hS0 := HS.out
  unfold NearS at hS0
  go_region_held3 (fun w' => w'.cell? ⟨g5, 0, none⟩ = some (.int .i64 (k : Int)) ∧ w'.cell? ⟨g3, 0, none⟩ = some (.int .i64 want) ∧ w'.cell? ⟨g2, 0, none⟩ = some (.slice (some ad) len c) ∧ w'.cell? (ad.add k) = some (.int .i64 x) ∧ Below w.heap.size w w') ((first | exact NearS.below hS0 (below_drew (Below.refl _ _)) | assumption | (refine NearS.below ?_ hb; assumption))) ((go_at_call 45; refine (zb_far _ _ _).mono ?_; rintro e w1 ⟨rfl, hb⟩))
  have hS1 : NearS g5 g3 g2 k want (some ad) len c (ad.add k) x w w1 := by assumption
  have HB := Aside0.mk hS1.2.2.2.2
  clear hS0 hS1 HS
  go_wp2
  go_ret
  exact ⟨rfl, HB.out⟩
def vbst (l : List Int) (want : Int) : Nat → Nat → Int → Int
  | 0, _, at_ => at_
  | d + 1, i, at_ => vbst l want d (i + 1) (if at_ < 0 ∨ vfar (rd l i) want < vfar (rd l at_) want then (i : Int) else at_)
theorem vbst_range (l : List Int) (want : Int) : ∀ (d i : Nat) (at_ : Int), -1 ≤ at_ → at_ < i → i + d = l.length → -1 ≤ vbst l want d i at_ ∧ vbst l want d i at_ < l.length ∨ l.length = 0 := by
  intro d
  induction d with
  | zero => intro i at_ h1 h2 h3; simp only [vbst]; omega
  | succ d ih => intro i at_ h1 h2 h3; simp only [vbst]; exact ih (i + 1) _ (by split <;> omega) (by split <;> omega) (by omega)
/-- The boxes of Best: the stops, what is wanted, and the best one till now. -/
def BstS (A : Option Addr) (n c : Nat) (want at_ : Int) (w W : World) : Prop := W.heap[w.heap.size]? = some (.cells #[.slice A n c] 39 (0, 0)) ∧ W.heap[w.heap.size + 1]? = some (.cells #[.int .i64 want] 3 (0, 0)) ∧ W.heap[w.heap.size + 1 + 1]? = some (.cells #[.int .i64 at_] 3 (0, 0)) ∧ Below w.heap.size w W
theorem BstS.below {A : Option Addr} {n c : Nat} {want at_ : Int} {w W W1 : World} (h : BstS A n c want at_ w W) (hb : Below W.heap.size W W1) : BstS A n c want at_ w W1 := ⟨blk_below h.1 hb, blk_below h.2.1 hb, blk_below h.2.2.1 hb, below_step h.2.2.2 hb⟩
theorem BstS.put {A : Option Addr} {n c : Nat} {want at_ : Int} {w W : World} (h : BstS A n c want at_ w W) (b : Int) : BstS A n c want b w (W.setCell ⟨w.heap.size + 1 + 1, 0, none⟩ (.int .i64 b)) :=
  ⟨blk_far h.1 (by show w.heap.size ≠ w.heap.size + 1 + 1; omega) _, blk_far h.2.1 (by show w.heap.size + 1 ≠ w.heap.size + 1 + 1; omega) _, blk_put h.2.2.1 0 _ rfl, below_set h.2.2.2 (by omega)⟩
theorem BstS.start (A : Option Addr) (n c : Nat) (want : Int) (w : World) : BstS A n c want (-1) w (((w.alloc (.cells #[.slice A n c] 39)).alloc (.cells #[.int .i64 want] 3)).alloc (.cells #[.int .i64 (-1)] 3)) := by
  have B5 := blk_new (w.alloc (.cells #[.slice A n c] 39)) (.cells #[.int .i64 want] 3)
  have B7 := blk_new ((w.alloc (.cells #[.slice A n c] 39)).alloc (.cells #[.int .i64 want] 3)) (.cells #[.int .i64 (-1)] 3)
  rw [World.size_alloc] at B5 B7
  rw [World.size_alloc] at B7
  exact ⟨blk_alloc (blk_alloc (blk_new w _) _) _, blk_alloc B5 _, B7, below_alloc (below_alloc (below_alloc (Below.refl _ _) _) _) _⟩
set_option maxHeartbeats 4000000 in
theorem zb_best (A0 : Option Addr) (c0 : Nat) (l : List Int) (want : Int) (w : World) (hr0 : Kd.C (Kd.int .i64) w A0 l.length l) (hc0 : l.length ≤ c0) :
    Calls Try.prog 24 #[.slice A0 l.length c0, .int .i64 want] w fun e w' => e = .returned (.int .i64 (vbst l want l.length 0 (-1))) ∧ Below w.heap.size w w' := by
  have hlen : l.length ≤ 9223372036854775807 := hr0.2.1
  have HR0 := Aside0.mk hr0
  have HS := Aside0.mk (BstS.start A0 l.length c0 want w)
  clear hr0
  go_enter Try.func24, Try.ntmps24
  have hc := (blk_cell HS.out.1 0).trans (show _ = some (Value.slice A0 l.length c0) from rfl)
  go_wp2
  clear hc
  go_loopw [12] (fun v12 W => ∃ (i : Nat) (at_ : Int), i ≤ l.length ∧ v12 = .int .i64 (i : Int) ∧ -1 ≤ at_ ∧ at_ < i ∧ Aside0 (vbst l want (l.length - i) i at_ = vbst l want l.length 0 (-1)) ∧ Aside0 (BstS A0 l.length c0 want at_ w W)) (fun v12 _ => l.length - (intOf v12).toNat)
  case atStart => exact ⟨0, -1, Nat.zero_le _, rfl, by omega, by omega, ⟨rfl⟩, HS⟩
  case round =>
    clear HS
    obtain ⟨i, at_, hi, rfl, h1, h2, HV, HS⟩ := hrel
    have hsz := below_size HS.out.2.2.2
    by_cases hlt : i < l.length
    · obtain ⟨ad, e, hx0⟩ := Kd.at_int HR0.out (i : Int) (by omega) (by omega)
      cases e
      rw [Int.toNat_natCast] at hx0
      have HX := Aside0.mk (fun (W : World) (hb : Below w.heap.size w W) => (hb.cell (World.block_lt_of_cell? w _ hx0)).trans hx0)
      replace hx0 := HX.out wr HS.out.2.2.2
      have HV1 := Aside0.mk (show vbst l want (l.length - (i + 1)) (i + 1) (if at_ < 0 ∨ vfar (rd l i) want < vfar (rd l at_) want then (i : Int) else at_) = vbst l want l.length 0 (-1) by
        have := HV.out
        rw [show l.length - i = (l.length - (i + 1)) + 1 by omega] at this
        exact this)
      clear HV
      by_cases hn : at_ < 0
      · rw [if_pos (.inl hn)] at HV1
        go_wp2_with (go_at_call 49; refine (zb_first _ _ _ _ want at_ (some ad) l.length c0 _ ((blk_cell HS.out.2.2.1 0).trans rfl) hn).mono ?_; rintro e w1 ⟨rfl, hb⟩; have HS1 := Aside0.mk (HS.out.below hb); have hc : w1.cell? ⟨w.heap.size + 1 + 1, 0, none⟩ = some (.int .i64 at_) := (blk_cell HS1.out.2.2.1 0).trans rfl; have hf := blk_frozen HS1.out.2.2.1 0; clear HS hb)
        go_roundw
        case rel => exact ⟨i + 1, i, by omega, by go_num, by omega, by omega, HV1, ⟨HS1.out.put _⟩⟩
        case measure => simp [intOf]; omega
      · obtain ⟨k, rfl⟩ : ∃ k : Nat, at_ = k := ⟨at_.toNat, by omega⟩
        obtain ⟨ad', e', hk0⟩ := Kd.at_int HR0.out (k : Int) (by omega) (by omega)
        obtain rfl : ad = ad' := by injection e'
        rw [Int.toNat_natCast] at hk0
        have HK := Aside0.mk ((HS.out.2.2.2.cell (World.block_lt_of_cell? w _ hk0)).trans hk0)
        clear hk0 e'
        by_cases hnear : vfar (rd l i) want < vfar (rd l k) want
        · have hd : decide (vfar (rd l i) want < vfar (rd l k) want) = true := decide_eq_true hnear
          rw [if_pos (.inr hnear)] at HV1
          go_wp2_with (go_at_call 49; refine (zb_next _ _ _ _ want k ad l.length c0 (rd l k) _ ((blk_cell HS.out.2.2.1 0).trans rfl) ((blk_cell HS.out.2.1 0).trans rfl) ((blk_cell HS.out.1 0).trans rfl) HK.out (by omega) hlen).mono ?_; rw [hd]; rintro e w1 ⟨rfl, hb⟩; have HS1 := Aside0.mk (HS.out.below hb); have hc : w1.cell? ⟨w.heap.size + 1 + 1, 0, none⟩ = some (.int .i64 (k : Int)) := (blk_cell HS1.out.2.2.1 0).trans rfl; have hf := blk_frozen HS1.out.2.2.1 0; clear HS hb)
          go_roundw
          case rel => exact ⟨i + 1, i, by omega, by go_num, by omega, by omega, HV1, ⟨HS1.out.put _⟩⟩
          case measure => simp [intOf]; omega
        · have hd : decide (vfar (rd l i) want < vfar (rd l k) want) = false := decide_eq_false hnear
          rw [if_neg (fun h => h.elim (fun h => hn h) (fun h => hnear h))] at HV1
          go_wp2_with (go_at_call 49; refine (zb_next _ _ _ _ want k ad l.length c0 (rd l k) _ ((blk_cell HS.out.2.2.1 0).trans rfl) ((blk_cell HS.out.2.1 0).trans rfl) ((blk_cell HS.out.1 0).trans rfl) HK.out (by omega) hlen).mono ?_; rw [hd]; rintro e w1 ⟨rfl, hb⟩; have HS1 := Aside0.mk (HS.out.below hb); clear HS hb)
          go_roundw
          case rel => exact ⟨i + 1, k, by omega, by go_num, by omega, by omega, HV1, HS1⟩
          case measure => simp [intOf]; omega
    · obtain rfl : i = l.length := by omega
      have hc : wr.cell? ⟨w.heap.size + 1 + 1, 0, none⟩ = some (.int .i64 at_) := (blk_cell HS.out.2.2.1 0).trans rfl
      have e := HV.out
      rw [Nat.sub_self] at e
      have HE := Aside0.mk (show vbst l want l.length 0 (-1) = at_ from e.symm)
      clear e HV
      go_wp2
      go_ret
      exact ⟨by rw [HE.out]; rfl, HS.out.2.2.2⟩
def snap_Best.f (l : List Int) (want : Int) : Option Int := some (vbst l want l.length 0 (-1))
theorem snap_Best.calls (A0 : Option Addr) (c0 : Nat) (l0 : List Int) (a1 : Int) (r : Int) (w : World) (hr0 : Kd.C (Kd.int .i64) w A0 l0.length l0) (hc0 : l0.length ≤ c0) (h : snap_Best.f l0 a1 = some r) :
    Calls Try.prog 24 #[.slice A0 l0.length c0, .int .i64 a1] w fun e w' => e = .returned (.int .i64 r) ∧ Below w.heap.size w w' := by
  obtain rfl := Option.some.inj h
  exact zb_best A0 c0 l0 a1 w hr0 hc0

end Go.Proofs.Ytnmcefpnpfaklac.V
