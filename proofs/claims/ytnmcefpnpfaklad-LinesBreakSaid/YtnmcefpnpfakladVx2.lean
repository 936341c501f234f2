/- What the functions of this seat answer, as plain Lean functions, and that the calls come to just that (written by a program of this repo, over the kit's printer; Lean checks it). -/
import Derived.Test.YtnmcefpnpfakladVx0
namespace Go.Proofs.Ytnmcefpnpfaklad.V
open Go.RowKit Go.Proofs.YtnmcefpnpfakladW.PrintWords Go.Proofs.YtnmcefpnpfakladW.PrintLast Go.Proofs.YtnmcefpnpfakladW.PrintMore
attribute [local go_sem] max2_int min2_int max_two min_two max_three min_three max_four min_four   -- for this text's walks alone
set_option linter.unusedVariables false
set_option linter.unusedSimpArgs false

/-! ### Plain words: numbers within the limit -/
def vcut (n : Int) : Int := if n > 1099511627776 then 1099511627776 else if n < -1099511627776 then -1099511627776 else n
theorem vcut_bd (n : Int) : -1099511627776 ≤ vcut n ∧ vcut n ≤ 1099511627776 := by unfold vcut; (repeat' split) <;> omega
theorem vcut_id {n : Int} (h : -1099511627776 ≤ n) (h2 : n ≤ 1099511627776) : vcut n = n := by unfold vcut; (repeat' split) <;> omega
theorem vcut_cut (n : Int) : vcut (vcut n) = vcut n := vcut_id (vcut_bd n).1 (vcut_bd n).2
theorem vcut_neg (n : Int) : vcut (-n) = -vcut n := by unfold vcut; (repeat' split) <;> omega
theorem vcut_mono {a b : Int} (h : a ≤ b) : vcut a ≤ vcut b := by unfold vcut; (repeat' split) <;> omega
theorem w64 {x : Int} (h : -9223372036854775808 ≤ x) (h2 : x ≤ 9223372036854775807) : wrap64 x = x := by unfold wrap64; omega
theorem u64_ {x : Int} (h : 0 ≤ x) (h2 : x ≤ 18446744073709551615) : IntKind.u64.wrap x = x := by simp [IntKind.wrap, IntKind.bits, IntKind.signed]; omega
theorem wf64 {x : Int} (h : (Lit.int .i64 x).wf = true) : -9223372036854775808 ≤ x ∧ x ≤ 9223372036854775807 := by
  simp [Lit.wf, IntKind.min, IntKind.max, IntKind.signed, IntKind.bits] at h
  omega
def vadd (a b : Int) : Int := vcut (vcut a + vcut b)
def vsub (a b : Int) : Int := vcut (vcut a - vcut b)
def vmul (a b : Int) : Int := vcut (vcut a * vcut b)
def vpart (a n : Int) : Int := vcut (vcut a * (mn (mx n 0) 1000000) / 10000)
def vclamp (n lo hi : Int) : Int := mx (vcut lo) (mn (vcut n) (vcut hi))
def vdivd (a b : Int) : Int := if b ≤ 0 then 0 else vcut a / vcut b
theorem vmul_bd {x p A B : Int} (h1 : -A ≤ x) (h2 : x ≤ A) (h3 : 0 ≤ p) (h4 : p ≤ B) (h5 : 0 ≤ A) : -(A * B) ≤ x * p ∧ x * p ≤ A * B := by
  constructor
  · have e1 : -A * p ≤ x * p := Int.mul_le_mul_of_nonneg_right h1 h3
    have e2 : A * p ≤ A * B := Int.mul_le_mul_of_nonneg_left h4 h5
    rw [Int.neg_mul] at e1
    omega
  · have e1 : x * p ≤ A * p := Int.mul_le_mul_of_nonneg_right h2 h3
    have e2 : A * p ≤ A * B := Int.mul_le_mul_of_nonneg_left h4 h5
    omega
/-- Rounded down, out of what is rounded to 0. -/
theorem tdiv_floor {a b : Int} (hb : 0 < b) : (0 ≤ a ∨ b ∣ a → Int.tdiv a b = a / b ∧ a / b * b ≤ a) ∧ (¬ (0 ≤ a ∨ b ∣ a) → Int.tdiv a b = a / b + 1 ∧ a < (a / b + 1) * b) := by
  have h := Int.tdiv_eq_ediv (a := a) (b := b)
  constructor
  · intro hc
    rw [if_pos hc] at h
    exact ⟨by omega, Int.ediv_mul_le a (by omega)⟩
  · intro hc
    rw [if_neg hc, Int.sign_eq_one_of_pos hb] at h
    exact ⟨h, Int.lt_ediv_add_one_mul_self a hb⟩
theorem ediv_bd {a b : Int} (hb : 0 < b) : (0 ≤ a → 0 ≤ a / b ∧ a / b ≤ a) ∧ (a < 0 → a ≤ a / b ∧ a / b ≤ -1) := by
  constructor
  · intro h
    exact ⟨Int.ediv_nonneg h (by omega), Int.ediv_le_self b h⟩
  · intro h
    have h1 : a / b < 0 := Int.ediv_neg_of_neg_of_pos h hb
    refine ⟨?_, by omega⟩
    apply Int.le_ediv_of_mul_le hb
    have : a * b ≤ a * 1 := Int.mul_le_mul_of_nonpos_left (by omega) (by omega)
    omega
theorem vmul_signs (a b : Int) (ha : -1099511627776 ≤ a ∧ a ≤ 1099511627776) (hb : -1099511627776 ≤ b ∧ b ≤ 1099511627776) :
    let n := (if (if a < 0 then -a else a) * (if b < 0 then -b else b) > 1099511627776 then 1099511627776 else (if a < 0 then -a else a) * (if b < 0 then -b else b))
    (if ((decide (a < 0)) != (decide (b < 0))) = true then -n else n) = vcut (a * b) := by
  by_cases h1 : a < 0 <;> by_cases h2 : b < 0
  · simp only [h1, h2, if_true, decide_true, bne_self_eq_false, Bool.false_eq_true, if_false, Int.neg_mul_neg]
    have := Int.mul_pos_of_neg_of_neg h1 h2
    unfold vcut; (repeat' split) <;> omega
  · simp only [h1, h2, if_true, if_false, decide_true, decide_false, Int.neg_mul]
    have := Int.mul_nonneg (a := -a) (b := b) (by omega) (by omega)
    rw [Int.neg_mul] at this
    simp only [bne_iff_ne, ne_eq, Bool.true_eq_false, not_false_eq_true, if_true]
    unfold vcut; (repeat' split) <;> omega
  · simp only [h1, h2, if_true, if_false, decide_true, decide_false, Int.mul_neg]
    have := Int.mul_nonneg (a := a) (b := -b) (by omega) (by omega)
    rw [Int.mul_neg] at this
    simp only [bne_iff_ne, ne_eq, Bool.false_eq_true, not_false_eq_true, if_true]
    unfold vcut; (repeat' split) <;> omega
  · simp only [h1, h2, if_false, decide_false, bne_self_eq_false, Bool.false_eq_true]
    have := Int.mul_nonneg (a := a) (b := b) (by omega) (by omega)
    unfold vcut; (repeat' split) <;> omega
theorem parts_bd (n : Int) : 0 ≤ mn (mx n 0) 1000000 ∧ mn (mx n 0) 1000000 ≤ 1000000 := by unfold mn mx; (repeat' split) <;> omega
def vsums : List Int → Int → Int
  | [], n => n
  | x :: l, n => vsums l (vadd n x)
abbrev tt : Bool := true
abbrev ff : Bool := false
def vsize (lo hi : Int) : Int := mx (vsub hi lo) 0
def vfit (lo hi ilo ihi : Int) : Int := if lo < ilo then vsub ilo lo else if hi ≤ ihi then 0 else if vsize ilo ihi < vsize lo hi then vsub ilo lo else vsub ihi hi
def vmeet (a b c d : Int) : Int × Int := if mn b d ≤ mx a c then (0, 0) else (mx a c, mn b d)
def vjoin (a b c d : Int) : Int × Int := if b ≤ a then (if d ≤ c then (0, 0) else (c, d)) else if d ≤ c then (a, b) else (mn a c, mx b d)
def vhas (a b n : Int) : Bool := decide (a ≤ n) && decide (n < b)
def vin (a b c d : Int) : Bool := decide (b ≤ a) || (decide (c ≤ a) && decide (b ≤ d))
def vfixed (k base : Int) : Bool := decide (k = 1) || (decide (k = 2) && decide (0 ≤ base))
def vof (k n base no : Int) : Int := if k = 1 then vcut n else if k = 2 ∧ 0 ≤ base then vpart base n else vcut no
def vends : List Int → Int → Int → Int × Int
  | [], h, l => (h, l)
  | x :: t, h, l => vends t (mx h (vcut x)) (mn l (vcut x))
def vcoll (l : List Int) : Int := (vends l 0 0).1 + (vends l 0 0).2
theorem vends_bd (t : List Int) : ∀ h l, 0 ≤ h → h ≤ 1099511627776 → -1099511627776 ≤ l → l ≤ 0 → 0 ≤ (vends t h l).1 ∧ (vends t h l).1 ≤ 1099511627776 ∧ -1099511627776 ≤ (vends t h l).2 ∧ (vends t h l).2 ≤ 0 := by
  induction t with
  | nil => intro h l a b c d; exact ⟨a, b, c, d⟩
  | cons x t ih =>
    intro h l a b c d
    have q := vcut_bd x
    exact ih _ _ (by unfold mx; split <;> omega) (by unfold mx; split <;> omega) (by unfold mn; split <;> omega) (by unfold mn; split <;> omega)
def vauto (room size k1 n1 k2 n2 base : Int) : Int × Int :=
  let a := vof k1 n1 base 0
  let b := vof k2 n2 base 0
  let left := vsub (vsub (vsub room size) a) b
  if left ≤ 0 then (a, b) else if vfixed k1 base = true then (if vfixed k2 base = true then (a, b) else (a, left)) else if vfixed k2 base = true then (left, b) else (left / 2, left - left / 2)
def vstk (s t b : List Int) : Nat → Nat → List Int → Int → List Int × Int
  | 0, _, out, at_ => (out, at_)
  | d + 1, i, out, at_ =>
    let at2 := if i = 0 then at_ else vadd at_ (vcoll [rd b ((i : Int) - 1), rd t (i : Int)])
    vstk s t b d (i + 1) (out ++ [at2]) (vadd at2 (rd s (i : Int)))
def vstack (s t b : List Int) : List Int × Int := if t.length = s.length ∧ b.length = s.length then vstk s t b s.length 0 [] 0 else ([], 0)
theorem rd_at (l : List Int) (i : Nat) (h : i < l.length) : rd l (i : Int) = l[i] := by simp [rd, List.getD_eq_getElem?_getD, List.getElem?_eq_getElem h]
/-- Two boxes of two cells each, made first of all; and all that was there before is as it was. -/
def TwoS (a b c d : Value) (w w' : World) : Prop := w'.cell? ⟨w.heap.size, 0, none⟩ = some a ∧ w'.cell? ⟨w.heap.size, 1, none⟩ = some b ∧ w'.cell? ⟨w.heap.size + 1, 0, none⟩ = some c ∧ w'.cell? ⟨w.heap.size + 1, 1, none⟩ = some d ∧ Below w.heap.size w w'
theorem TwoS.below {a b c d : Value} {w W W1 : World} (h : TwoS a b c d w W) (hb : Below W.heap.size W W1) : TwoS a b c d w W1 := ⟨pw_cell_below hb h.1, pw_cell_below hb h.2.1, pw_cell_below hb h.2.2.1, pw_cell_below hb h.2.2.2.1, below_step h.2.2.2.2 hb⟩
theorem TwoS.start (a b c d : Value) (t : Nat) (w : World) : TwoS a b c d w ((w.alloc (.cells #[a, b] t)).alloc (.cells #[c, d] t)) := by
  have B0 := blk_alloc (blk_new w (.cells #[a, b] t)) (.cells #[c, d] t)
  have B1 : ((w.alloc (.cells #[a, b] t)).alloc (.cells #[c, d] t)).heap[w.heap.size + 1]? = some (.cells #[c, d] t (0, 0)) := by
    have := blk_new (w.alloc (.cells #[a, b] t)) (.cells #[c, d] t)
    simpa using this
  exact ⟨(blk_cell B0 0).trans rfl, (blk_cell B0 1).trans rfl, (blk_cell B1 0).trans rfl, (blk_cell B1 1).trans rfl, below_alloc (below_alloc (Below.refl _ _) _) _⟩
theorem cut_len {α : Type} (l : List α) (a b : Int) (h : a ≤ (l.length : Int)) : a.toNat - b.toNat = ((l.take a.toNat).drop b.toNat).length := by rw [List.length_drop, List.length_take]; omega

end Go.Proofs.Ytnmcefpnpfaklad.V
