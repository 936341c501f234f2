/- Where a scroller comes to rest, in plain words: how far apart two are, the best stop, the stops, and that the document's answers are the same. -/
import Derived.Test.YtnmcefpnpfaklacVx0
import Derived.Test.YtnmcefpnpfaklacVx1
import Derived.Test.YtnmcefpnpfaklacVx5
import Derived.Test.YtnmcefpnpfaklacVx7
import Derived.Test.YtnmcefpnpfaklacVx8
import Derived.Test.YtnmcefpnpfaklacVx9
import Derived.Test.YtnmcefpnpfaklacVx10
import Derived.Test.YtnmcefpnpfaklacVx12
import Derived.Test.YtnmcefpnpfaklacVx13
import Derived.Test.YtnmcefpnpfaklacVx14
import Derived.Test.YtnmcefpnpfaklacVx16
import Derived.Test.YtnmcefpnpfaklacVx17
namespace Go.Proofs.Ytnmcefpnpfaklac.Plain
open Go.RowKit Go.Proofs.Ytnmcefpnpfaklac.V Go.Proofs.YtnmcefpnpfaklacW.PrintWords Go.Proofs.YtnmcefpnpfaklacW.PrintMore
theorem wrap_id {x : Int} (h : -9223372036854775808 ≤ x) (h2 : x ≤ 9223372036854775807) : wrap64 x = x := by unfold wrap64; omega
theorem ite_ {c : Prop} [Decidable c] {α : Type} {a b r : α} (h1 : c → a = r) (h2 : ¬ c → b = r) : (if c then a else b) = r := by
  split
  · rename_i h; exact h1 h
  · rename_i h; exact h2 h
theorem works_eq : valancelaw11_works.f = some true := by decide +kernel
theorem vdivd_bd (a b : Int) : -1099511627776 ≤ vdivd a b ∧ vdivd a b ≤ 1099511627776 := by
  unfold vdivd
  split
  · omega
  · have h := vcut_bd a
    have g := ediv_bd (a := vcut a) (b := vcut b) (by unfold vcut; (repeat' split) <;> omega)
    by_cases h0 : 0 ≤ vcut a
    · have := g.1 h0; omega
    · have := g.2 (by omega); omega
theorem vatn_bd (lo hi e p : Int) : -1099511627776 ≤ vatn lo hi e p ∧ vatn lo hi e p ≤ 1099511627776 := by
  unfold vatn; (repeat' split) <;> first | exact vcut_bd _ | exact vdivd_bd _ _ | (unfold vsub; exact vcut_bd _) | omega
theorem vfar_nn (a b : Int) : 0 ≤ vfar a b ∧ vfar a b ≤ 1099511627776 := by
  unfold vfar vsub vcut mx; (repeat' split) <;> omega
theorem vfar_in {a b : Int} (ha : -536870912000 ≤ a) (ha2 : a ≤ 536870912000) (hb : -536870912000 ≤ b) (hb2 : b ≤ 536870912000) : vfar a b = mx (a - b) (b - a) := by
  unfold vfar vsub
  rw [vcut_id (n := a) (by omega) (by omega), vcut_id (n := b) (by omega) (by omega), vcut_id (by omega) (by omega), vcut_id (by omega) (by omega)]
theorem vfar_0 {a b : Int} (ha : -1099511627776 ≤ a) (ha2 : a ≤ 1099511627776) (hb : -1099511627776 ≤ b) (hb2 : b ≤ 1099511627776) (h : vfar a b = 0) : a = b := by
  unfold vfar vsub at h
  rw [vcut_id (n := a) (by omega) (by omega), vcut_id (n := b) (by omega) (by omega)] at h
  unfold vcut mx at h
  (repeat' split at h) <;> omega
theorem vfar_self (a : Int) : vfar a a = 0 := by
  unfold vfar vsub
  rw [Int.sub_self]; decide
theorem ref_far_eq (a b : Int) : valanceref11_far.f a b = some (vfar a b) := by
  unfold valanceref11_far.f vfar
  simp only [ref_Sub_eq, Option.bind_some]
  have h := vcut_bd (vcut a - vcut b)
  have e : vsub b a = - vsub a b := by
    unfold vsub; rw [← vcut_neg]; congr 1; omega
  have hb : vsub a b = vcut (vcut a - vcut b) := rfl
  rw [e]
  by_cases h0 : vsub a b < 0
  · rw [if_pos h0, wrap_id (by omega) (by omega)]; congr 1; unfold mx; rw [if_pos (by omega)]
  · rw [if_neg h0]; congr 1; unfold mx; rw [if_neg (by omega)]
theorem ref_at_eq (lo hi e p : Int) : valanceref11_At.f lo hi e p = some (vatn lo hi e p, vatok e) := by
  unfold valanceref11_At.f vatn vatok
  simp only [ref_Cut_eq, ref_Sub_eq, ref_Add_eq, ref_Div_eq, Option.bind_some]
  have hc := vcut_bd (mx p 0)
  have e3 : vsub hi (vcut (mx p 0)) = vsub hi (mx p 0) := by unfold vsub; rw [vcut_cut]
  have e2 : vadd (vadd lo hi) (wrap64 (-vcut (mx p 0))) = vsub (vadd lo hi) (mx p 0) := by
    rw [wrap_id (by omega) (by omega)]
    unfold vsub
    generalize vadd lo hi = x
    unfold vadd
    rw [vcut_neg, vcut_cut]; congr 1
  rw [e3, e2]
  by_cases h1 : e = 1
  · simp [h1]
  by_cases h3 : e = 3
  · simp [h3]
  by_cases h2 : e = 2
  · simp [h2]
  simp [h1, h2, h3]

/-! ### The best stop -/
/-- It is the first of the nearest ones (or there is none). -/
structure Bst (l : List Int) (want : Int) (n : Nat) (at_ : Int) : Prop where
  none : n = 0 → at_ = -1
  lo : 0 < n → 0 ≤ at_
  hi : at_ < n
  least : ∀ j : Nat, j < n → vfar (rd l at_) want ≤ vfar (rd l j) want
  first : ∀ j : Nat, (j : Int) < at_ → vfar (rd l at_) want < vfar (rd l j) want
theorem vbst_bst (l : List Int) (want : Int) : ∀ (d i : Nat) (at_ : Int), i + d = l.length → Bst l want i at_ → Bst l want l.length (vbst l want d i at_) := by
  intro d
  induction d with
  | zero => intro i at_ hd h; obtain rfl : i = l.length := by omega
            exact h
  | succ d ih =>
    intro i at_ hd h
    simp only [vbst]
    refine ih (i + 1) _ (by omega) ?_
    have hhi := h.hi
    have new : (i = 0 ∨ vfar (rd l i) want < vfar (rd l at_) want) → Bst l want (i + 1) (i : Int) := by
      intro hc
      refine ⟨fun e => by omega, fun _ => by omega, by omega, fun j hj => ?_, fun j hj => ?_⟩
      · by_cases e : j = i
        · subst e; exact Int.le_refl _
        · have := h.least j (by omega); omega
      · have := h.least j (by omega); omega
    by_cases h0 : i = 0
    · have := h.none h0
      rw [if_pos (.inl (by omega))]; exact new (.inl h0)
    · have hlo := h.lo (by omega)
      by_cases h1 : vfar (rd l i) want < vfar (rd l at_) want
      · rw [if_pos (.inr h1)]; exact new (.inr h1)
      · rw [if_neg (fun g => g.elim (fun g => by omega) (fun g => h1 g))]
        refine ⟨fun e => by omega, fun _ => hlo, by omega, fun j hj => ?_, h.first⟩
        by_cases e : j = i
        · subst e; omega
        · exact h.least j (by omega)
theorem best_bst (l : List Int) (want : Int) : Bst l want l.length (vbst l want l.length 0 (-1)) :=
  vbst_bst l want l.length 0 (-1) (by omega) ⟨fun _ => rfl, fun h => by omega, by omega, fun j h => by omega, fun j h => by omega⟩
theorem best_eq (l : List Int) (want : Int) : snap_Best.f l want = some (vbst l want l.length 0 (-1)) := rfl
theorem ref_best_l0 (l : List Int) (want : Int) (hl : l.length ≤ 17592186044416) : ∀ (d i k : Nat) (at_ : Int), i + d = l.length → at_ < i → d < k → valanceref11_Best.l0 k l want at_ i = some (vbst l want d i at_) := by
  intro d
  induction d with
  | zero =>
    intro i k at_ hd ha hk
    obtain ⟨k, rfl⟩ : ∃ m, k = m + 1 := ⟨k - 1, by omega⟩
    simp only [valanceref11_Best.l0]
    rw [if_neg (by omega)]; rfl
  | succ d ih =>
    intro i k at_ hd ha hk
    obtain ⟨k, rfl⟩ : ∃ m, k = m + 1 := ⟨k - 1, by omega⟩
    simp only [valanceref11_Best.l0, ref_far_eq, Option.bind_some, vbst]
    rw [if_pos (by omega), wrap_id (by omega) (by omega)]
    have step := fun at2 (h : at2 < ((i + 1 : Nat) : Int)) => ih (i + 1) k at2 (by omega) h (by omega)
    by_cases h0 : at_ < 0
    · rw [if_pos h0, if_pos (.inl h0)]; exact step _ (by omega)
    · rw [if_neg h0, if_pos (by omega), if_pos (by omega), if_pos (by omega)]
      by_cases h1 : vfar (rd l i) want < vfar (rd l at_) want
      · rw [if_pos h1, if_pos (.inr h1)]; exact step _ (by omega)
      · rw [if_neg h1, if_neg (fun g => g.elim h0 h1)]; exact step _ (by omega)
theorem ref_best_eq (l : List Int) (want : Int) (hl : l.length ≤ 17592186044416) (k : Nat) (hk : l.length < k) : valanceref11_Best.f k l want = some (vbst l want l.length 0 (-1)) :=
  ref_best_l0 l want hl l.length 0 k (-1) (by omega) (by omega) hk

/-! ### The stops -/
theorem stops_eq (l : List S33) (p m : Int) (hl : l.length ≤ 4398046511104) : snap_Stops.f l p m = some (vstops l p m) := by unfold snap_Stops.f; rw [if_pos hl]
theorem stops_in (l : List S33) (p m : Int) (j : Nat) (hj : j < (vstops l p m).length) : 0 ≤ rd (vstops l p m) j ∧ rd (vstops l p m) j ≤ mx m 0 ∧ rd (vstops l p m) j ≤ 1099511627776 := by
  have e : rd (vstops l p m) (j : Int) = (vstops l p m)[j] := by unfold rd; simp [List.getD_eq_getElem?_getD, List.getElem?_eq_getElem hj]
  rw [e]
  have hm : (vstops l p m)[j] ∈ vstops l p m := List.getElem_mem _
  unfold vstops at hm
  obtain ⟨x, hx, hxe⟩ := List.mem_map.1 hm
  have hh := (List.mem_filter.1 hx).2
  unfold vhit at hh
  simp at hh
  have hb := vatn_bd x.f0.f0 x.f0.f1 x.f1 p
  have : (vstops l p m)[j] = vatn x.f0.f0 x.f0.f1 x.f1 p := hxe.symm
  rw [this]
  exact ⟨hh.2.1, hh.2.2, hb.2⟩
def liked (m w : Int) : Int := vclamp w 0 (mx m 0)
theorem liked_in (m w : Int) : 0 ≤ liked m w ∧ liked m w ≤ mx m 0 ∧ liked m w ≤ 1099511627776 := by
  unfold liked vclamp vcut mx mn; (repeat' split) <;> omega
theorem liked_id {m w : Int} (h0 : 0 ≤ w) (h1 : w ≤ mx m 0) (h2 : w ≤ 1099511627776) : liked m w = w := by
  unfold liked vclamp vcut mx mn at *; (repeat' split) <;> omega
/-- Where it comes to rest. -/
def vrest (kind : Int) (l : List S33) (p m w : Int) : Int :=
  let s := vstops l p m
  let r := vbst s (liked m w) s.length 0 (-1)
  if r < 0 then liked m w else if kind = 1 then rd s r else if kind = 2 then (if vfar (rd s r) (liked m w) ≤ 6400 then rd s r else liked m w) else liked m w
theorem rest_eq (kind : Int) (l : List S33) (p m w : Int) (hl : l.length ≤ 4398046511104) : snap_Rest.f kind l p m w = some (vrest kind l p m w) := by
  unfold snap_Rest.f vrest
  simp only [fix_Clamp_eq, stops_eq l p m hl, best_eq, snap_far_eq, Option.bind_some]
  have hb := best_bst (vstops l p m) (vclamp w 0 (mx m 0))
  have hhi := hb.hi
  rw [show liked m w = vclamp w 0 (mx m 0) from rfl]
  by_cases h0 : vbst (vstops l p m) (vclamp w 0 (mx m 0)) (vstops l p m).length 0 (-1) < 0
  · rw [if_pos h0, if_pos h0]
  · simp only [if_neg h0, if_pos (show 0 ≤ vbst (vstops l p m) (vclamp w 0 (mx m 0)) (vstops l p m).length 0 (-1) by omega), if_pos hhi]
    by_cases h1 : kind = 1
    · rw [if_pos h1, if_pos h1]
    · rw [if_neg h1, if_neg h1]
      by_cases h2 : kind = 2
      · rw [if_pos h2, if_pos h2]; split <;> rfl
      · rw [if_neg h2, if_neg h2]
end Go.Proofs.Ytnmcefpnpfaklac.Plain
