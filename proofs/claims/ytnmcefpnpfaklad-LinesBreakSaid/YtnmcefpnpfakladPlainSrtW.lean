/- Stable sorting by a closure, walked: insertions, exchanges, rotations, merging. -/
import Derived.Test.YtnmcefpnpfakladProg
import Derived.Shelf.SlSortCmp.Insertion1
import Derived.Test.YtnmcefpnpfakladWWords
import Derived.Test.YtnmcefpnpfakladWLast
import Derived.Test.YtnmcefpnpfakladPlainSrt
import Derived.Sort.WalkA
import Derived.Sort.WalkB2
import Derived.Sort.WalkB12
import Derived.Deep.LoopGhost
import Derived.Sort.LotA
import Derived.Below
import Derived.RegionTactic
import Derived.Deep.RegionHeld3
import Derived.BigQuiet
import Derived.Deep.QuietTactic
namespace Go.Proofs.Ytnmcefpnpfaklad.Srt
open Go.Shelf Go.RowKit Go.Lib Go.Sort Go.Proofs Go.Proofs.YtnmcefpnpfakladW.PrintWords Go.Proofs.YtnmcefpnpfakladW.PrintLast
def renI : Ren := { f := fun n => if n = 20 then 63 else n, t := fun n => if n = 22 then 23 else if n = 24 then 3 else if n = 25 then 48 else n, g := fun n => n }
theorem layI : SlLaysF.n20 Try.prog renI where
  mixed := by kernel_rfl
  f20 := ⟨"slices.insertionSortCmpFunc[int]", rfl, by kernel_rfl⟩
  t0 := by kernel_rfl
  a0 := fun _ => by kernel_rfl
  z0 := fun _ => by kernel_rfl
  v0 := fun _ => by kernel_rfl
  t3 := by kernel_rfl
  a3 := fun _ => by kernel_rfl
  z3 := fun _ => by kernel_rfl
  v3 := fun _ => by kernel_rfl
  t4 := by kernel_rfl
  a4 := fun _ => by kernel_rfl
  z4 := fun _ => by kernel_rfl
  v4 := fun _ => by kernel_rfl
  t22 := by kernel_rfl
  a22 := fun _ => by kernel_rfl
  z22 := fun _ => by kernel_rfl
  v22 := fun _ => by kernel_rfl
  a24 := fun _ => by kernel_rfl
  z24 := fun _ => by kernel_rfl
  t25 := by kernel_rfl
  a25 := fun _ => by kernel_rfl
  z25 := fun _ => by kernel_rfl
  v25 := fun _ => by kernel_rfl
def vcmp (x y : Int) : Int := if x < y then -1 else if y < x then 1 else 0
set_option maxHeartbeats 2000000 in
theorem isnan59 (x : Int) (W : World) : Calls Try.prog 59 #[.int .i64 x] W fun e w' => e = .returned (.bool false) ∧ w' = W := by
  go_enter Try.func59, Try.ntmps59
  go_wp2
  go_ret
  exact ⟨by simp, rfl⟩
set_option maxHeartbeats 2000000 in
theorem cmp42 (x y : Int) (W : World) : Calls Try.prog 42 #[.int .i64 x, .int .i64 y] W fun e w' => e = .returned (.int .i64 (vcmp x y)) ∧ w' = W := by
  unfold vcmp
  by_cases h : x < y
  · rw [if_pos h]
    have d : decide (x < y) = true := decide_eq_true h
    clear h
    go_enter Try.func42, Try.ntmps42
    go_wp2_with (go_at_call 59; refine (isnan59 _ _).mono ?_; rintro e w' ⟨rfl, rfl⟩)
    go_ret
    exact ⟨rfl, rfl⟩
  · rw [if_neg h]
    have d : decide (x < y) = false := decide_eq_false h
    clear h
    by_cases h : y < x
    · rw [if_pos h]
      have d : decide (y < x) = true := decide_eq_true h
      clear h
      go_enter Try.func42, Try.ntmps42
      go_wp2_with (go_at_call 59; refine (isnan59 _ _).mono ?_; rintro e w' ⟨rfl, rfl⟩)
      go_ret
      exact ⟨rfl, rfl⟩
    · rw [if_neg h]
      have d : decide (y < x) = false := decide_eq_false h
      clear h
      go_enter Try.func42, Try.ntmps42
      go_wp2_with (go_at_call 59; refine (isnan59 _ _).mono ?_; rintro e w' ⟨rfl, rfl⟩)
      go_ret
      exact ⟨rfl, rfl⟩
theorem addr_add_block (a : Addr) (n : Nat) : (a.add n).block = a.block := by unfold Addr.add; split <;> rfl
theorem drew_drewN (W : World) (q : Nat) : (W.drewN q).drew = W.drewN (q + 1) := rfl
set_option maxHeartbeats 4000000 in
theorem clo41 (kb n c : Nat) (ad : Addr) (x y : Nat) (kx ky : Int) (hx : x < n) (hy : y < n) (W : World) (h0 : W.cell? ⟨kb, 0, none⟩ = some (.slice (some ad) n c)) (h1 : W.cell? (ad.add x) = some (.int .i64 kx)) (h2 : W.cell? (ad.add y) = some (.int .i64 ky)) :
    Calls Try.prog 41 #[.int .i64 (x : Int), .int .i64 (y : Int), .pointer (some ⟨kb, 0, none⟩)] W fun e w' => e = .returned (.int .i64 (vcmp kx ky)) ∧ ∃ q, w' = W.drewN q := by
  have hS0 := And.intro h0 (And.intro h1 (And.intro h2 (show ∃ q, W = W.drewN q from ⟨0, rfl⟩)))
  have HC := Aside0.mk (fun w => cmp42 kx ky w)
  clear h0 h1 h2
  go_enter Try.func41, Try.ntmps41
  go_wp2
  go_region_held3 (fun w' => w'.cell? ⟨kb, 0, none⟩ = some (.slice (some ad) n c) ∧ w'.cell? (ad.add x) = some (.int .i64 kx) ∧ w'.cell? (ad.add y) = some (.int .i64 ky) ∧ ∃ q, w' = W.drewN q) ((first | exact ⟨hS0.1, hS0.2.1, hS0.2.2.1, 1, rfl⟩ | assumption)) ((go_at_call 42; refine (HC.out _).mono ?_; rintro e w' ⟨rfl, rfl⟩))
  go_wp2
  go_ret
  exact ⟨rfl, 1, rfl⟩
theorem sw_cell {α : Type} [Inhabited α] {enc : α → Value} {W : World} {g m : Nat} {dk : Array α} {os : Array Obj} (a : Addr) (h1 : a.block ≠ g) (h2 : a.block < W.heap.size) : (sortWorld enc W g 0 m dk os).cell? a = W.cell? a := by
  unfold sortWorld
  rw [cell?_grow _ _ _ (by rw [size_putRow]; exact h2), cell?_putRow_other _ _ _ _ _ _ (.inl h1)]
  rfl
theorem cmp_lays {m0 : Nat} (l : List Int) (hn : m0 + 1 = l.length) (kb g c : Nat) (ad : Addr) (W : World) (h0 : W.cell? ⟨kb, 0, none⟩ = some (.slice (some ad) l.length c)) (hkg : kb ≠ g) (hk : kb < W.heap.size) (ha : ad.block ≠ g) (hak : ad.block < W.heap.size) (hc : ∀ i : Nat, i < l.length → W.cell? (ad.add i) = some (.int .i64 (rd l (i : Int)))) :
    CmpLays1 Try.prog 41 #[.pointer (some ⟨kb, 0, none⟩)] (fun x : Fin (m0 + 1) => .int .i64 (x.val : Int)) (fun x y => vcmp (rd l (x.val : Int)) (rd l (y.val : Int))) g 0 (m0 + 1) W := by
  intro m os dk _ x y
  have hx := x.isLt
  have hy := y.isLt
  refine (clo41 kb l.length c ad x.val y.val (rd l (x.val : Int)) (rd l (y.val : Int)) (by omega) (by omega) _ ?_ ?_ ?_).mono ?_
  · rw [sw_cell _ hkg hk]; exact h0
  · rw [sw_cell _ (by rw [addr_add_block]; exact ha) (by rw [addr_add_block]; exact hak)]; exact hc _ (by omega)
  · rw [sw_cell _ (by rw [addr_add_block]; exact ha) (by rw [addr_add_block]; exact hak)]; exact hc _ (by omega)
  · rintro e w' ⟨he, q, hq⟩
    exact ⟨he, q, #[], by rw [hq, grow_empty]⟩
theorem holds_gen {α : Type} [Inhabited α] {enc : α → Value} {w : World} {g : Nat} {cur : Array Value} {e : TypeId} {d : Array α} (hb : w.heap[g]? = some (.cells cur e (0, 0))) (ht : cur.toList.take d.size = d.toList.map enc) : Holds enc w g 0 d := by
  intro j hj
  refine ⟨?_, by simp [World.frozen?, hb]⟩
  have h1 : (cur.toList.take d.size)[j]? = (d.toList.map enc)[j]? := by rw [ht]
  rw [List.getElem?_take_of_lt hj] at h1
  simp only [World.cell?, hb, Nat.zero_add]
  simp only [Option.isSome_none, Bool.false_eq_true, if_false]
  rw [← Array.getElem?_toList, h1]
  simp [hj]
theorem sw_own {α : Type} [Inhabited α] {enc : α → Value} {w w' : World} {g cap base : Nat} {e : TypeId} {cur : Array Value} {d' : Array α} (hS : SW enc w g 0 d' w') (hb : w.heap[g]? = some (.cells cur e (0, 0))) (hbase : base ≤ g) (h1 : d'.size ≤ cap) (h2 : cap ≤ maxLen) (h3 : cur.size = cap) :
    w'.ownsRow base e 1 (.slice (some ⟨g, 0, none⟩) d'.size cap) d'.size (d'.toList.map enc) ∧ w.grownBy w' (some g) := by
  obtain ⟨n, os, rfl⟩ := hS
  have hg : g < w.heap.size := (Array.getElem?_eq_some_iff.1 hb).1
  unfold sortWorld
  refine ⟨⟨by simp, .inr ⟨g, cap, putCells enc 0 d' cur, rfl, hbase, ?_, h1, h2, by simp [putCells, h3], ?_⟩⟩, rfl, rfl, rfl, by simp, fun k hk hne => ?_⟩
  · rw [heap_grow_old _ _ (by simpa using hg)]
    simp [putRow, mapBlock, Sort.ahead, Array.getElem?_modify, hb, onCells]
  · rw [Nat.mul_one]
    apply List.ext_getElem?
    intro j
    by_cases hj : j < d'.size
    · rw [List.getElem?_take_of_lt hj, Array.getElem?_toList]
      simp [putCells, hj, show j < cur.size by omega]
    · rw [List.getElem?_take_eq_none (by omega), List.getElem?_eq_none (by simp; omega)]
  · rw [heap_grow_old _ _ (by simpa using hk)]
    have : g ≠ k := fun e => hne (by rw [e])
    simp [putRow, mapBlock, Sort.ahead, Array.getElem?_modify, this]
variable {α : Type} [Inhabited α]
set_option maxHeartbeats 4000000 in
set_option maxRecDepth 1000000 in
theorem swapR66 (enc : α → Value) (cv : Value) (blk off cap a b n : Nat) (d0 d : Array α) (w0 w : World) (R : Row1 enc w0 blk off d0) (hs : d0.size = d.size) (S : SW enc w0 blk off d w) (ha : a + n ≤ d.size) (hb : b + n ≤ d.size) (hsz : d.size < 4611686018427387904) :
    Calls Try.prog 66 #[.slice (some ⟨blk, off, none⟩) d.size cap, .int .i64 a, .int .i64 b, .int .i64 n, cv] w fun e w' => e = .returned (.tuple #[]) ∧ SW enc w0 blk off (swapRng d a b n) w' := by
  have mixed : Try.prog.follows .mixedOrders = true := by kernel_rfl
  have t3 := Try.underlying3
  have a24 : ∀ w, (isAgg 3).run Try.prog w = .ok false w := fun _ => by kernel_rfl
  have z24 : ∀ w, (Go.sizeOf 3).run Try.prog w = .ok 1 w := fun _ => by kernel_rfl
  have v24 : ∀ w, (zeroValue 3).run Try.prog w = .ok (Value.int IntKind.i64 0) w := fun _ => by kernel_rfl
  have u22 := run_underlying (P := Try.prog) Try.underlying23
  have hcl0 := R.hO.cells
  simp only [Value.cells] at hcl0
  have hst := R.hO.store Try.prog
  have S0 : Aside (SW enc w0 blk off d w) := S
  clear S
  go_enter Try.func66, Try.ntmps66
  go_wp2
  go_loopg [10] n (fun kx s10 wr => ∃ (i : Nat) (dk : Array α), s10 = .int .i64 i ∧ i ≤ n ∧ n - i ≤ kx ∧ dk.size = d.size ∧ Aside (SW enc w0 blk off dk wr) ∧ Hid (dk = swapRng d a b i))
  case atStart => exact ⟨0, d, rfl, Nat.zero_le _, by omega, rfl, S0, rfl⟩
  case round =>
    clear S0
    obtain ⟨i, dk, rfl, hin, hkx, hsk, S1, HE⟩ := hrel
    by_cases hlt : i < n
    · have hltz : (i : Int) < (n : Int) := by omega
      obtain ⟨pa1, hpa1⟩ : ∃ q, q = a + i := ⟨_, rfl⟩
      obtain ⟨pb1, hpb1⟩ : ∃ q, q = b + i := ⟨_, rfl⟩
      have ea1 : ((a : Int) + (i : Int)).toNat = pa1 := by omega
      have la1 : (0 : Int) ≤ (a : Int) + (i : Int) := by omega
      have ua1 : (a : Int) + (i : Int) < (d.size : Int) := by omega
      have ra1 : IntKind.i64.wrap ((a : Int) + (i : Int)) = (a : Int) + (i : Int) := by rw [IntKind.wrap_i64]; omega
      have eb1 : ((b : Int) + (i : Int)).toNat = pb1 := by omega
      have lb1 : (0 : Int) ≤ (b : Int) + (i : Int) := by omega
      have ub1 : (b : Int) + (i : Int) < (d.size : Int) := by omega
      have rb1 : IntKind.i64.wrap ((b : Int) + (i : Int)) = (b : Int) + (i : Int) := by rw [IntKind.wrap_i64]; omega
      obtain ⟨x1, hx1⟩ : ∃ x, x = (dk)[a + i]! := ⟨_, rfl⟩
      obtain ⟨y1, hy1⟩ : ∃ x, x = (dk)[b + i]! := ⟨_, rfl⟩
      have S2 : Aside (SW enc w0 blk off (swp (dk) (a + i) (b + i)) ((wr.setCell ⟨blk, off + pa1, none⟩ (enc y1)).setCell ⟨blk, off + pb1, none⟩ (enc x1)).drew) := by rw [hpa1, hpb1, hx1, hy1]; exact S1.out.swapped R (a + i) (b + i) (by omega) (by omega)
      have c1a := S1.out.c1 R (by omega) (a + i) (by omega)
      have c1b := S1.out.c1 R (by omega) (b + i) (by omega)
      have f1a := S1.out.f1 R (by omega) (a + i) (by omega)
      have f1b := S1.out.f1 R (by omega) (b + i) (by omega)
      obtain ⟨z1, c1c⟩ := S1.out.c2 R (by omega) (a + i) (b + i) (by omega) (by omega) (enc y1)
      rw [← hpb1, ← hpa1] at c1c
      rw [← hx1, ← hpa1] at c1a
      rw [← hy1, ← hpb1] at c1b
      rw [← hpa1] at f1a
      rw [← hpb1] at f1b
      clear S1 hx1 hy1 hpa1 hpb1
      go_wp2_with fail
      go_big_region_o
      clear c1a c1b c1c f1a f1b
      generalize ((wr.setCell ⟨blk, off + pa1, none⟩ (enc y1)).setCell ⟨blk, off + pb1, none⟩ (enc x1)).drew = w2 at S2 ⊢
      clear ea1 eb1
      go_wp2
      go_roundg (n - (i + 1))
      case measure => omega
      case rel => exact ⟨i + 1, swp dk (a + i) (b + i), by first | rfl | go_num | (congr 1; omega), by omega, Nat.le_refl _, by rw [size_swp]; exact hsk, S2, (show Hid _ from by rw [HE.out]; rfl)⟩
    · obtain rfl : i = n := by omega
      go_wp2
      go_end0
      exact ⟨rfl, by rw [← HE.out]; exact S1.out⟩
set_option maxHeartbeats 4000000 in
set_option maxRecDepth 1000000 in
theorem stab58s (enc : α → Value) (cf : α → α → Int) (g : Nat) (cb : Array Value) (blk off cap : Nat) (d0 d : Array α) (w0 w : World)
    (eg : ∀ args w, (callFunc g args).run Try.prog w = .ok (.enter g args) w) (hcmp : CmpLays1 Try.prog g cb enc cf blk off d0.size w0) (R : Row1 enc w0 blk off d0) (hs : d0.size = d.size) (S : SW enc w0 blk off d w) (hsz : d.size < 20) :
    Calls Try.prog 58 #[.slice (some ⟨blk, off, none⟩) d.size cap, .int .i64 d.size, .func (.func g) #[] cb] w fun e w' => e = .returned (.tuple #[]) ∧ SW enc w0 blk off (Sort.insertionSort (ltOf cf) d 0 d.size) w' := by
  have hc := Aside0.mk (Any.insertionSortCmpFunc_s (P := Try.prog) (ρ := renI) layI enc cf g cb blk off cap 0 d.size d0 d w0 w eg hcmp R hs S (Nat.zero_le _) (Nat.le_refl _) (by omega))
  have l1 : decide ((20 : Int) ≤ (d.size : Int)) = false := decide_eq_false (by omega)
  have l2 : decide ((20 : Int) < (d.size : Int)) = false := decide_eq_false (by omega)
  clear hcmp R S eg
  go_enter Try.func58, Try.ntmps58
  go_wp2
  go_loopg [7, 8] 0 (fun kx s7 s8 wr => s7 = .int .i64 0 ∧ s8 = .int .i64 20 ∧ wr = w)
  case atStart => exact ⟨rfl, rfl, rfl⟩
  case round =>
    obtain ⟨rfl, rfl, rfl⟩ := hrel
    go_wp2_with (go_at_call 63; refine (hc.out).mono ?_; rintro e w2 ⟨rfl, hS2⟩; have S2 := Aside0.mk hS2; clear hS2 hc)
    go_loopg [6] 0 (fun kx s6 wr => s6 = .int .i64 20 ∧ wr = w2)
    case atStart => exact ⟨rfl, rfl⟩
    case round =>
      obtain ⟨rfl, rfl⟩ := hrel
      go_wp2
      go_end0
      exact ⟨rfl, S2.out⟩
set_option maxHeartbeats 4000000 in
set_option maxRecDepth 1000000 in
theorem sort40s (enc : α → Value) (cf : α → α → Int) (g : Nat) (cb : Array Value) (blk off cap : Nat) (d0 d : Array α) (w0 w : World)
    (eg : ∀ args w, (callFunc g args).run Try.prog w = .ok (.enter g args) w) (hcmp : CmpLays1 Try.prog g cb enc cf blk off d0.size w0) (R : Row1 enc w0 blk off d0) (hs : d0.size = d.size) (S : SW enc w0 blk off d w) (hsz : d.size < 20) :
    Calls Try.prog 40 #[.slice (some ⟨blk, off, none⟩) d.size cap, .func (.func g) #[] cb] w fun e w' => e = .returned (.tuple #[]) ∧ SW enc w0 blk off (Sort.insertionSort (ltOf cf) d 0 d.size) w' := by
  have hc := Aside0.mk (stab58s enc cf g cb blk off cap d0 d w0 w eg hcmp R hs S hsz)
  clear hcmp R S eg
  go_enter Try.func40, Try.ntmps40
  go_wp2_with (go_at_call 58; refine (hc.out).mono ?_; rintro e w2 ⟨rfl, hS2⟩)
  go_end0
  exact ⟨rfl, hS2⟩
set_option maxHeartbeats 4000000 in
theorem ins63_nil (g : Nat) (cb : Array Value) (w : World) : Calls Try.prog 63 #[.slice none 0 0, .int .i64 0, .int .i64 0, .func (.func g) #[] cb] w fun e w' => e = .returned (.tuple #[]) ∧ Below w.heap.size w w' := by
  go_enter Try.func63, Try.ntmps63
  go_wp2
  go_loopg [8] 0 (fun kx s8 wr => s8 = .int .i64 1 ∧ Aside0 (Below w.heap.size w wr))
  case atStart => exact ⟨rfl, ⟨by repeat (first | exact Below.refl _ _ | apply below_drew1)⟩⟩
  case round =>
    obtain ⟨rfl, HB⟩ := hrel
    go_wp2
    go_end0
    exact ⟨rfl, HB.out⟩
set_option maxHeartbeats 4000000 in
theorem stab58_nil (g : Nat) (cb : Array Value) (w : World) : Calls Try.prog 58 #[.slice none 0 0, .int .i64 0, .func (.func g) #[] cb] w fun e w' => e = .returned (.tuple #[]) ∧ Below w.heap.size w w' := by
  go_enter Try.func58, Try.ntmps58
  go_wp2
  go_loopg [7, 8] 0 (fun kx s7 s8 wr => s7 = .int .i64 0 ∧ s8 = .int .i64 20 ∧ wr = w)
  case atStart => exact ⟨rfl, rfl, rfl⟩
  case round =>
    obtain ⟨rfl, rfl, rfl⟩ := hrel
    go_wp2_with (go_at_call 63; refine (ins63_nil g cb _).mono ?_; rintro e w2 ⟨rfl, hS2⟩; have S2 := Aside0.mk hS2; clear hS2)
    go_loopg [6] 0 (fun kx s6 wr => s6 = .int .i64 20 ∧ wr = w2)
    case atStart => exact ⟨rfl, rfl⟩
    case round =>
      obtain ⟨rfl, rfl⟩ := hrel
      go_wp2
      go_end0
      exact ⟨rfl, S2.out⟩
set_option maxHeartbeats 4000000 in
theorem sort40_nil (g : Nat) (cb : Array Value) (w : World) : Calls Try.prog 40 #[.slice none 0 0, .func (.func g) #[] cb] w fun e w' => e = .returned (.tuple #[]) ∧ Below w.heap.size w w' := by
  go_enter Try.func40, Try.ntmps40
  go_wp2_with (go_at_call 58; refine (stab58_nil g cb _).mono ?_; rintro e w2 ⟨rfl, hS2⟩)
  go_end0
  exact ⟨rfl, hS2⟩
end Go.Proofs.Ytnmcefpnpfaklad.Srt
