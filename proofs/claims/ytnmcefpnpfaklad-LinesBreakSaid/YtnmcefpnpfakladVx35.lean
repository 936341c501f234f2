/- What the functions of this seat answer, as plain Lean functions, and that the calls come to just that (written by a program of this repo, over the kit's printer; Lean checks it). -/
import Derived.Test.YtnmcefpnpfakladVx0
namespace Go.Proofs.Ytnmcefpnpfaklad.V
open Go.RowKit Go.Proofs.YtnmcefpnpfakladW.PrintWords Go.Proofs.YtnmcefpnpfakladW.PrintLast Go.Proofs.YtnmcefpnpfakladW.PrintMore
attribute [local go_sem] max2_int min2_int max_two min_two max_three min_three max_four min_four   -- for this text's walks alone
set_option linter.unusedVariables false
set_option linter.unusedSimpArgs false

/-! ### lines_Order: function 29 -/
/-- In which order the places of the keys go. -/
def vorder (l : List Int) : List Int := (Srt.vord (fun i => rd l (i : Int)) l.length).map (fun x : Nat => (x : Int))
open Go.Sort in
theorem order_lt {m0 : Nat} (l : List Int) (x y : Fin (m0 + 1)) : ltOf (fun x y : Fin (m0 + 1) => Srt.vcmp (rd l (x.val : Int)) (rd l (y.val : Int))) x y = decide (rd l (x.val : Int) < rd l (y.val : Int)) := by
  show decide (Srt.vcmp (rd l (x.val : Int)) (rd l (y.val : Int)) < 0) = _
  unfold Srt.vcmp
  by_cases a1 : rd l (x.val : Int) < rd l (y.val : Int)
  · rw [if_pos a1, decide_eq_true a1]; rfl
  · rw [if_neg a1, decide_eq_false a1]
    split <;> rfl
theorem order_row {n m0 : Nat} (hm : m0 + 1 = n) : encs (Value.int .i64) ((List.range n).map (fun x : Nat => (x : Int))) = (Array.ofFn (fun i : Fin (m0 + 1) => i)).toList.map (fun x : Fin (m0 + 1) => Value.int .i64 (x.val : Int)) := by
  subst hm
  unfold encs
  apply List.ext_getElem
  · simp
  · intro j e1 e2
    simp only [List.getElem_map, Array.getElem_toList, Array.getElem_ofFn, List.getElem_range]
theorem order_out {m0 : Nat} (l : List Int) (hm : m0 + 1 = l.length) (d' : Array (Fin (m0 + 1))) (hv : d'.toList.map (fun x => x.val) = Srt.vord (fun i => rd l (i : Int)) (m0 + 1)) : d'.toList.map (fun x : Fin (m0 + 1) => Value.int .i64 (x.val : Int)) = encs (Value.int .i64) (vorder l) ∧ d'.size = (vorder l).length := by
  unfold vorder encs
  rw [← hm, ← hv, List.map_map, List.map_map]
  exact ⟨rfl, by simp⟩
open Go.Sort in
set_option maxRecDepth 100000 in
set_option maxHeartbeats 8000000 in
theorem order_main (A : Option Addr) (c : Nat) (l : List Int) (w : World) (hr : Kd.C (Kd.int .i64) w A l.length l) (hpos : 0 < l.length) (hlen : l.length ≤ 4398046511104) :
    Calls Try.prog 29 #[.slice A l.length c] w fun e w' => ∃ v, e = .returned v ∧ Kd.R (Kd.int .i64) 3 w' w.heap.size (fun _ => True) v (vorder l) ∧ Below w.heap.size w w' := by
  have u23 := Try.underlying23
  have HR := Aside0.mk hr
  have B1 := Aside0.mk (Boxed.new w 23 (.slice A l.length c))
  have BB := Aside0.mk (below_alloc (Below.refl w.heap.size w) (.cells #[.slice A l.length c] 23))
  have BS := Aside0.mk (World.size_alloc w (.cells #[.slice A l.length c] 23))
  clear hr
  have cl := Boxed.cell B1.out
  go_enter Try.func29, Try.ntmps29
  go_wp2
  generalize w.alloc (.cells #[.slice A l.length c] 23) = W1 at *
  clear cl
  go_loopg [3, 7] l.length (fun kx s3 s7 wr => ∃ (i : Nat), s7 = .int .i64 i ∧ i ≤ l.length ∧ l.length - i ≤ kx ∧ Aside0 (Kd.R (Kd.int .i64) 3 wr W1.heap.size (fun _ => True) s3 ((List.range i).map (fun x : Nat => (x : Int)))) ∧ Aside0 (Below W1.heap.size W1 wr))
  case atStart => exact ⟨0, rfl, Nat.zero_le _, Nat.le_refl _, ⟨Kd.R_nil _ _ _ _ _⟩, ⟨Below.refl _ _⟩⟩
  case round =>
    obtain ⟨i, rfl, hi, hk, HO, HB⟩ := hrel
    by_cases hlt : i < l.length
    · have hd : decide ((i : Int) < (l.length : Int)) = true := decide_eq_true (by omega)
      obtain ⟨Ao, co, eo⟩ := Kd.R_slice HO.out
      subst eo
      go_wp2_with (first | ((with_reducible refine gate_builtin (b := .append) (xs := #[.tmp 10, .tmp 12]) rfl ?_); at_builtin; (refine Kd.R_append (Kd.int .i64) (w0 := W1) W1.heap.size rfl (.tmp 10) (.tmp 12) 23 3 (.int .i64 0) 8 rfl Try.underlying23 info3 rfl (by decide) (by omega) (.slice Ao ((List.range i).map (fun x : Nat => (x : Int))).length co) ((List.range i).map (fun x : Nat => (x : Int))) (i : Int) [.int .i64 (i : Int)] (fun _ => True) (fun _ => False) rfl rfl ?aP (fun _ hk => hk.elim) ?aF ?aO ?aB ?aS ?aL ?_; (case aP => exact rfl); (case aB => exact (by repeat (first | (with_reducible first | exact HB.out | apply below_alloc | apply pw_below_drewN | apply below_drew1) | exact HB.out))); (case aF => exact (fun _ _ => trivial)); (case aO => exact (by (with_reducible repeat (first | apply Kd.R_alloc | apply Kd.R_drewN | apply Kd.R_drew)); exact HO.out)); (case aS => exact (below_size (by repeat (first | (with_reducible first | exact HB.out | apply below_alloc | apply pw_below_drewN | apply below_drew1) | exact HB.out)))); (case aL => rw [List.length_map, List.length_range]; omega); intro v1 w1 ho hb hg hat; have HB1 := Aside0.mk hb; have HO1 := Aside0.mk ho; clear HB HO ho hb hg hat)))
      go_roundg (l.length - (i + 1))
      case measure => omega
      case rel => exact ⟨i + 1, by go_num, by omega, Nat.le_refl _, ⟨by rw [List.range_succ, List.map_append]; exact HO1.out⟩, HB1⟩
    · obtain rfl : i = l.length := by omega
      have hd : decide ((l.length : Int) < (l.length : Int)) = false := decide_eq_false (by omega)
      have ho := Kd.own_of_R (enc := Value.int .i64) HO.out
      rw [List.length_map, List.length_range] at ho
      rcases ho.2 with ⟨rfl, h0⟩ | ⟨g, cap, cur, rfl, hbase, hb, h1, h2, h3, h4⟩
      · omega
      obtain ⟨m0, hm⟩ : ∃ m0, m0 + 1 = l.length := ⟨l.length - 1, by omega⟩
      have hgl : g < wr.heap.size := (Array.getElem?_eq_some_iff.1 hb).1
      have hsz0 : (Array.ofFn (fun i : Fin (m0 + 1) => i)).size = l.length := by rw [Array.size_ofFn]; exact hm
      have hH : Holds (fun x : Fin (m0 + 1) => Value.int .i64 (x.val : Int)) wr g 0 (Array.ofFn (fun i : Fin (m0 + 1) => i)) := by
        refine Srt.holds_gen hb ?_
        rw [hsz0, ← Nat.mul_one l.length, h4]
        exact order_row hm
      obtain ⟨ad, eA, _⟩ := Kd.at_int HR.out (0 : Int) (by omega) (by omega)
      subst eA
      have hcells : ∀ j : Nat, j < l.length → w.cell? (ad.add j) = some (.int .i64 (rd l (j : Int))) := by
        intro j hj
        obtain ⟨ad2, e2, hc2⟩ := Kd.at_int HR.out (j : Int) (by omega) (by omega)
        cases e2
        exact hc2
      have hadl : ad.block < w.heap.size := by
        have := World.block_lt_of_cell? w _ (hcells 0 hpos)
        rwa [Srt.addr_add_block] at this
      have hBw := BB.out.trans (HB.out.mono (by rw [BS.out]; omega))
      have hs1 := HB.out.size
      have hbs := BS.out
      have hbox : wr.cell? ⟨w.heap.size, 0, none⟩ = some (.slice (some ad) l.length c) := (HB.out.cell (by show w.heap.size < _; omega)).trans (Boxed.cell B1.out)
      have hcmp := Srt.cmp_lays l hm w.heap.size g c ad wr hbox (by omega) (by omega) (by omega) (by omega) (fun j hj => (hBw.cell (by rw [Srt.addr_add_block]; exact hadl)).trans (hcells j hj))
      have hlt : ∀ x y : Fin (m0 + 1), ltOf (fun x y : Fin (m0 + 1) => Srt.vcmp (rd l (x.val : Int)) (rd l (y.val : Int))) x y = decide (rd l (x.val : Int) < rd l (y.val : Int)) := by
        exact order_lt l
      have hS := Srt.swo_key (fun i => rd l (i : Int)) _ hlt
      have hc := Srt.sort40 (fun x : Fin (m0 + 1) => Value.int .i64 (x.val : Int)) (fun x y : Fin (m0 + 1) => Srt.vcmp (rd l (x.val : Int)) (rd l (y.val : Int))) (fun x => x.val) hS 41 #[.pointer (some ⟨w.heap.size, 0, none⟩)] g 0 cap (Array.ofFn (fun i : Fin (m0 + 1) => i)) (Array.ofFn (fun i : Fin (m0 + 1) => i)) wr wr ?eg (by rw [Array.size_ofFn]; exact hcmp) ⟨?hO, hH, hgl⟩ rfl (SW.start hH) (by rw [hsz0]; exact hlen) (Srt.ofFn_st _)
      case eg => exact fun _ _ => rfl
      case hO => exact fun _ => rfl
      rw [show (Array.ofFn (fun i : Fin (m0 + 1) => i)).size = m0 + 1 from Array.size_ofFn] at hc
      rw [show (#[Value.slice (some ⟨g, 0, none⟩) (m0 + 1) cap, Value.func (.func 41) #[] #[.pointer (some ⟨w.heap.size, 0, none⟩)]] : Array Value) = #[Value.slice (some ⟨g, 0, none⟩) l.length cap, Value.func (.func 41) #[] #[.pointer (some ⟨w.heap.size, 0, none⟩)]] by rw [hm]] at hc
      have HC := Aside0.mk hc
      have HH := Aside0.mk (And.intro hb (And.intro h1 (And.intro h2 h3)))
      have HG := Aside0.mk (show w.heap.size ≤ g by omega)
      have HLT := Aside0.mk hlt
      have HZ0 := Aside0.mk hsz0
      clear hc hb h4 ho hH hcells hcmp hS hlt hbox
      go_wp2_with (go_at_call 40; refine (HC.out).mono ?_; rintro e w2 ⟨rfl, hS2⟩; have S2 := Aside0.mk hS2; clear hS2 HC)
      go_ret
      obtain ⟨d', p2, so2, st2, SS⟩ := S2.out
      have hval := Srt.sorted_vord (fun i => rd l (i : Int)) _ HLT.out d' p2 so2 st2
      have hsz1 := p2.1
      rw [HZ0.out] at hsz1
      have hown := Srt.sw_own SS HH.out.1 HG.out (by rw [hsz1]; exact HH.out.2.1) HH.out.2.2.1 (by rw [HH.out.2.2.2, Nat.mul_one])
      have hout := order_out l hm _ hval
      rw [hout.1, hsz1] at hown
      refine ⟨_, rfl, Kd.R_of_own (enc := Value.int .i64) ?_ (fun _ _ => trivial), ?_⟩
      · have e1 : (vorder l).length = l.length := hout.2.symm.trans hsz1
        rw [e1]
        exact hown.1
      · exact hBw.grown hown.2 hBw.size (fun k hk => by cases hk; exact HG.out)
set_option maxRecDepth 100000 in
set_option maxHeartbeats 8000000 in
theorem order_nil (A : Option Addr) (c : Nat) (w : World) : Calls Try.prog 29 #[.slice A 0 c] w fun e w' => e = .returned (.slice none 0 0) ∧ Below w.heap.size w w' := by
  have u23 := Try.underlying23
  have B1 := Aside0.mk (Boxed.new w 23 (.slice A 0 c))
  have BB := Aside0.mk (below_alloc (Below.refl w.heap.size w) (.cells #[.slice A 0 c] 23))
  have cl := Boxed.cell B1.out
  go_enter Try.func29, Try.ntmps29
  go_wp2
  generalize w.alloc (.cells #[.slice A 0 c] 23) = W1 at *
  clear cl
  go_loopg [3, 7] 0 (fun kx s3 s7 wr => s3 = .slice none 0 0 ∧ s7 = .int .i64 0 ∧ wr = W1)
  case atStart => exact ⟨rfl, rfl, rfl⟩
  case round =>
    obtain ⟨rfl, rfl, rfl⟩ := hrel
    go_wp2_with (go_at_call 40; refine (Srt.sort40_nil 41 #[.pointer (some ⟨w.heap.size, 0, none⟩)] wr).mono ?_; rintro e w2 ⟨rfl, hS2⟩; have S2 := Aside0.mk hS2; clear hS2)
    go_ret
    exact ⟨rfl, below_step BB.out S2.out⟩
theorem order_all (A : Option Addr) (c : Nat) (l : List Int) (w : World) (hr : Kd.C (Kd.int .i64) w A l.length l) (hlen : l.length ≤ 4398046511104) :
    Calls Try.prog 29 #[.slice A l.length c] w fun e w' => ∃ v, e = .returned v ∧ Kd.R (Kd.int .i64) 3 w' w.heap.size (fun _ => True) v (vorder l) ∧ Below w.heap.size w w' := by
  rcases Nat.eq_zero_or_pos l.length with h0 | h0
  · obtain rfl := List.eq_nil_of_length_eq_zero h0
    refine (order_nil A c w).mono ?_
    rintro e w' ⟨rfl, hb⟩
    exact ⟨_, rfl, Kd.R_nil _ _ _ _ _, hb⟩
  · exact order_main A c l w hr h0 hlen
def lines_Order.f (l : List Int) : Option (List Int) := if l.length ≤ 4398046511104 then some (vorder l) else none
theorem lines_Order.calls (A0 : Option Addr) (c0 : Nat) (l0 : List Int) (r : List Int) (w : World) (hr0 : Kd.C (Kd.int .i64) w A0 l0.length l0) (hc0 : l0.length ≤ c0) (h : lines_Order.f l0 = some r) :
    Calls Try.prog 29 #[.slice A0 l0.length c0] w fun e w' => ∃ v0_ : Value, e = .returned (v0_) ∧ Kd.R (Kd.int .i64) 3 w' w.heap.size (fun _ => True) v0_ r ∧ Below w.heap.size w w' := by
  unfold lines_Order.f at h
  by_cases hlen : l0.length ≤ 4398046511104
  case neg => rw [if_neg hlen] at h; cases h
  rw [if_pos hlen] at h
  obtain rfl := Option.some.inj h
  exact order_all A0 c0 l0 w hr0 hlen

end Go.Proofs.Ytnmcefpnpfaklad.V
