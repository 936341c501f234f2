/- Words of floating point that stand for whole numbers, and what is reckoned with them: plain facts on the model's own arithmetic. -/
import Derived.Laws.FloatArith
import Derived.Laws.ComplexArith
import Derived.Laws.Cover2
import Derived.Laws.Cover3
import Derived.Laws.BitsAllLaws
namespace Go.Proofs.Ytnmcefpnpfaklab.Flt
open Go Ieee

/-- A datum that is the whole number x. -/
def IsN (d : Datum) (x : Int) : Prop := ∃ s m, ∃ k : Nat, d = .number s m (-(k : Int)) ∧ (if s then -(m : Int) else (m : Int)) = x * 2 ^ k
/-- A word that stands for the whole number x. -/
def IsF (b : Nat) (x : Int) : Prop := IsN (FloatKind.f64.decode b) x

theorem two_pos (k : Nat) : (0 : Int) < 2 ^ k := by exact_mod_cast Nat.two_pow_pos k
theorem natAbs_of {s : Bool} {m k : Nat} {x : Int} (h : (if s then -(m : Int) else (m : Int)) = x * 2 ^ k) : m = x.natAbs * 2 ^ k := by
  have h2 : (x * 2 ^ k).natAbs = x.natAbs * 2 ^ k := by
    rw [Int.natAbs_mul, Int.natAbs_pow]; rfl
  rw [← h2, ← h]
  cases s <;> simp

theorem sgn_of {s : Bool} {m k : Nat} {x : Int} (h : (if s then -(m : Int) else (m : Int)) = x * 2 ^ k) (hx : x ≠ 0) : s = decide (x < 0) := by
  have hp : (0 : Int) < 2 ^ k := two_pos k
  cases s
  · simp at h
    by_cases hn : x < 0
    · have := Int.mul_neg_of_neg_of_pos hn hp; omega
    · simp; omega
  · simp at h
    by_cases hn : x < 0
    · simp [hn]
    · have := Int.mul_pos (show 0 < x by omega) hp; omega

theorem log2_mul (n k : Nat) (hn : 0 < n) : (n * 2 ^ k).log2 = n.log2 + k := by
  have h0 : n * 2 ^ k ≠ 0 := Nat.mul_ne_zero (by omega) (Nat.ne_of_gt (Nat.two_pow_pos k))
  rw [Nat.log2_eq_iff h0]
  have h1 := Nat.log2_self_le (n := n) (by omega)
  have h2 := Nat.lt_log2_self (n := n)
  constructor
  · rw [Nat.pow_add]; exact Nat.mul_le_mul_right _ h1
  · rw [show n.log2 + k + 1 = (n.log2 + 1) + k by omega, Nat.pow_add]
    exact Nat.mul_lt_mul_of_pos_right h2 (Nat.two_pow_pos k)

theorem cut_even (s : Bool) (n d : Nat) : Toward.even.cut s (n * 2 ^ d) d = n := by
  unfold Toward.cut
  by_cases hn : n = 0
  · subst hn; simp
  have hm : min d ((n * 2 ^ d).log2 + 2) = d := by rw [log2_mul n d (by omega)]; omega
  rw [hm, Nat.one_shiftLeft]
  have hp := Nat.two_pow_pos d
  simp [Nat.mul_div_cancel _ hp, Nat.mul_mod_left]

theorem cut_zero (s : Bool) (n d : Nat) : Toward.zero.cut s (n * 2 ^ d) d = n := by
  unfold Toward.cut
  by_cases hn : n = 0
  · subst hn; simp
  have hm : min d ((n * 2 ^ d).log2 + 2) = d := by rw [log2_mul n d (by omega)]; omega
  rw [hm, Nat.one_shiftLeft]
  have hp := Nat.two_pow_pos d
  simp [Nat.mul_div_cancel _ hp]

/-- The word of a whole number that is not 0. -/
theorem nearest_whole (s : Bool) (n k : Nat) (hn : 0 < n) (h53 : n < 9007199254740992) :
    Ieee.double.nearest s (n * 2 ^ k) (-(k : Int)) = Ieee.double.word s ((n.log2 + 1022) * 4503599627370496 + n * 2 ^ (52 - n.log2)) := by
  have h0 : n * 2 ^ k ≠ 0 := Nat.mul_ne_zero (by omega) (Nat.ne_of_gt (Nat.two_pow_pos k))
  have hL : n.log2 ≤ 52 := by
    have : n.log2 < 53 := (Nat.log2_lt (by omega)).2 h53
    omega
  have hlp : Ieee.double.leastPlace = -1074 := rfl
  have hfb : Ieee.double.fractionBits = 52 := rfl
  have hbi : Ieee.double.binade = 4503599627370496 := rfl
  have hin : Ieee.double.infRung = 9218868437227405312 := rfl
  unfold Format.nearest
  rw [if_neg h0, log2_mul n k hn, hlp, hfb, hbi, hin]
  have hlast : max (-(k : Int) + ((n.log2 + k : Nat) : Int) - ((52 : Nat) : Int)) (-1074) = (n.log2 : Int) - 52 := by omega
  simp only [hlast]
  have hkept : Toward.even.cut s ((n * 2 ^ k) <<< (-(k : Int) - ((n.log2 : Int) - 52)).toNat) ((n.log2 : Int) - 52 - -(k : Int)).toNat = n * 2 ^ (52 - n.log2) := by
    rw [Nat.shiftLeft_eq, Nat.mul_assoc, ← Nat.pow_add]
    by_cases hk : k ≤ 52 - n.log2
    · have e1 : ((n.log2 : Int) - 52 - -(k : Int)).toNat = 0 := by omega
      have e2 : k + (-(k : Int) - ((n.log2 : Int) - 52)).toNat = 52 - n.log2 := by omega
      rw [e1, e2]
      simpa using cut_even s (n * 2 ^ (52 - n.log2)) 0
    · have e1 : ((n.log2 : Int) - 52 - -(k : Int)).toNat = k - (52 - n.log2) := by omega
      have e2 : k + (-(k : Int) - ((n.log2 : Int) - 52)).toNat = (52 - n.log2) + (k - (52 - n.log2)) := by omega
      rw [e1, e2, Nat.pow_add, ← Nat.mul_assoc]
      exact cut_even s _ _
  rw [hkept]
  congr 1
  have e3 : ((n.log2 : Int) - 52 - -1074).toNat = n.log2 + 1022 := by omega
  rw [e3]
  have h2 := Nat.lt_log2_self (n := n)
  have h3 : n * 2 ^ (52 - n.log2) < 9007199254740992 := by
    have := Nat.mul_lt_mul_of_pos_right h2 (Nat.two_pow_pos (52 - n.log2))
    rw [← Nat.pow_add, show n.log2 + 1 + (52 - n.log2) = 53 by omega] at this
    exact this
  have h4 : (n.log2 + 1022) * 4503599627370496 ≤ 1074 * 4503599627370496 := Nat.mul_le_mul_right _ (by omega)
  clear hkept hlast
  generalize n * 2 ^ (52 - n.log2) = N at *
  generalize n.log2 = L at *
  omega

theorem read_word (s : Bool) (n : Nat) (hn : 0 < n) (h53 : n < 9007199254740992) :
    Ieee.double.read (Ieee.double.word s ((n.log2 + 1022) * 4503599627370496 + n * 2 ^ (52 - n.log2))) = .number s (n * 2 ^ (52 - n.log2)) (-((52 - n.log2 : Nat) : Int)) := by
  have hL : n.log2 ≤ 52 := by
    have : n.log2 < 53 := (Nat.log2_lt (by omega)).2 h53
    omega
  have hlp : Ieee.double.leastPlace = -1074 := rfl
  have hbi : Ieee.double.binade = 4503599627370496 := rfl
  have hin : Ieee.double.infRung = 9218868437227405312 := rfl
  have hsw : Ieee.double.signWeight = 9223372036854775808 := rfl
  generalize hN : n * 2 ^ (52 - n.log2) = N
  have hlo : 4503599627370496 ≤ N := by
    have h1 := Nat.log2_self_le (n := n) (by omega)
    have := Nat.mul_le_mul_right (2 ^ (52 - n.log2)) h1
    rw [← Nat.pow_add, show n.log2 + (52 - n.log2) = 52 by omega] at this
    omega
  have hhi : N < 9007199254740992 := by
    have h2 := Nat.lt_log2_self (n := n)
    have := Nat.mul_lt_mul_of_pos_right h2 (Nat.two_pow_pos (52 - n.log2))
    rw [← Nat.pow_add, show n.log2 + 1 + (52 - n.log2) = 53 by omega] at this
    omega
  generalize n.log2 = L at *
  unfold Format.read Format.word
  rw [hlp, hbi, hin, hsw]
  have hR : (L + 1022) * 4503599627370496 + N < 9223372036854775808 := by omega
  have hd : (if s = true then 9223372036854775808 + ((L + 1022) * 4503599627370496 + N) else (L + 1022) * 4503599627370496 + N) / 9223372036854775808 % 2 = if s = true then 1 else 0 := by
    cases s <;> simp <;> omega
  have hm : (if s = true then 9223372036854775808 + ((L + 1022) * 4503599627370496 + N) else (L + 1022) * 4503599627370496 + N) % 9223372036854775808 = (L + 1022) * 4503599627370496 + N := by
    cases s <;> simp <;> omega
  simp only [hd, hm]
  rw [if_neg (by omega), if_pos (by omega)]
  have e1 : ((L + 1022) * 4503599627370496 + N) % 4503599627370496 = N - 4503599627370496 := by omega
  have e2 : ((L + 1022) * 4503599627370496 + N) / 4503599627370496 = L + 1023 := by omega
  have e3 : ((if s = true then 1 else 0) == 1) = s := by cases s <;> rfl
  have e4 : 4503599627370496 + (N - 4503599627370496) = N := by omega
  have e5 : (-1074 : Int) + ((L + 1023 - 1 : Nat) : Int) = -((52 - L : Nat) : Int) := by omega
  rw [e1, e2, e3, e4, e5]

theorem read_zero (s : Bool) : Ieee.double.read (Ieee.double.word s 0) = .number s 0 (-1074) := by cases s <;> decide

/-- A whole number that is written is read as that. -/
theorem isF_write {d : Datum} {x : Int} (h : IsN d x) (h53 : x.natAbs < 9007199254740992) : IsF (FloatKind.f64.encode d) x := by
  obtain ⟨s, m, k, rfl, hv⟩ := h
  have hm := natAbs_of hv
  subst hm
  show IsN (Ieee.double.read (Ieee.double.nearest s (x.natAbs * 2 ^ k) (-(k : Int)))) x
  by_cases hx : x = 0
  · subst hx
    have : Ieee.double.nearest s (Int.natAbs 0 * 2 ^ k) (-(k : Int)) = Ieee.double.word s 0 := by
      unfold Format.nearest; simp
    rw [this, read_zero]
    exact ⟨s, 0, 1074, rfl, by rw [Int.zero_mul]; cases s <;> rfl⟩
  · rw [nearest_whole s _ k (by omega) h53, read_word s _ (by omega) h53]
    refine ⟨s, _, _, rfl, ?_⟩
    rw [sgn_of hv hx]
    by_cases hn : x < 0
    · simp only [hn, decide_true, if_true]
      rw [Int.natCast_mul, Int.natCast_pow, show (x.natAbs : Int) = -x by omega, Int.neg_mul, Int.neg_neg]; rfl
    · simp only [hn, decide_false, Bool.false_eq_true, if_false]
      rw [Int.natCast_mul, Int.natCast_pow, show (x.natAbs : Int) = x by omega]; rfl

theorem isF_ofInt {x : Int} (h53 : x.natAbs < 9007199254740992) : IsF (floatOfInt .f64 x) x := by
  refine isF_write (d := .number (decide (x < 0)) x.natAbs 0) ⟨decide (x < 0), x.natAbs, 0, rfl, ?_⟩ h53
  by_cases hn : x < 0 <;> simp [hn] <;> omega

theorem scale {x : Int} {a c : Nat} (h : c ≤ a) : x * 2 ^ c * 2 ^ (a - c) = x * 2 ^ a := by
  rw [Int.mul_assoc, ← Int.pow_add]; congr 2; omega

theorem signed_of {s : Bool} {m k : Nat} {x : Int} (h : (if s then -(m : Int) else (m : Int)) = x * 2 ^ k) (u : Nat) : signed s m u = x * 2 ^ k * 2 ^ u := by
  unfold signed
  rw [← h, Nat.shiftLeft_eq]
  cases s <;> simp [Int.neg_mul]

theorem isN_sum {d e : Datum} {x y : Int} (h1 : IsN d x) (h2 : IsN e y) : ∃ r, d.sum e = some r ∧ IsN r (x + y) := by
  obtain ⟨s, m, k, rfl, hv⟩ := h1
  obtain ⟨t, n, l, rfl, hw⟩ := h2
  refine ⟨_, rfl, ?_⟩
  have hb : min (-(k : Int)) (-(l : Int)) = -((max k l : Nat) : Int) := by omega
  simp only [hb]
  have ek : (-(k : Int) - -((max k l : Nat) : Int)).toNat = max k l - k := by omega
  have el : (-(l : Int) - -((max k l : Nat) : Int)).toNat = max k l - l := by omega
  rw [ek, el, signed_of hv, signed_of hw, scale (by omega), scale (by omega), ← Int.add_mul]
  have hp := two_pos (max k l)
  refine ⟨_, _, max k l, rfl, ?_⟩
  by_cases h0 : x + y = 0
  · simp [h0]
  · have h0' : ¬ (x + y) * 2 ^ (max k l) = 0 := Int.mul_ne_zero h0 (by omega)
    rw [if_neg h0']
    by_cases hn : (x + y) * 2 ^ (max k l) < 0 <;> simp [hn] <;> omega

theorem isN_opp {d : Datum} {x : Int} (h : IsN d x) : IsN d.opposite (-x) := by
  obtain ⟨s, m, k, rfl, hv⟩ := h
  refine ⟨!s, m, k, rfl, ?_⟩
  rw [Int.neg_mul, ← hv]
  cases s <;> simp

theorem isN_mul {d e : Datum} {x y : Int} (h1 : IsN d x) (h2 : IsN e y) : ∃ r, d.product e = some r ∧ IsN r (x * y) := by
  obtain ⟨s, m, k, rfl, hv⟩ := h1
  obtain ⟨t, n, l, rfl, hw⟩ := h2
  refine ⟨_, rfl, _, _, k + l, by congr 1; omega, ?_⟩
  rw [show x * y * 2 ^ (k + l) = (x * 2 ^ k) * (y * 2 ^ l) by rw [Int.pow_add]; simp only [Int.mul_assoc, Int.mul_left_comm], ← hv, ← hw]
  cases s <;> cases t <;> simp [Int.neg_mul, Int.mul_neg]

theorem isF_add {a b : Nat} {x y : Int} (h1 : IsF a x) (h2 : IsF b y) (h53 : (x + y).natAbs < 9007199254740992) : ∃ r, floatBits .add .f64 a b = some r ∧ IsF r (x + y) := by
  obtain ⟨r, hr, hn⟩ := isN_sum h1 h2
  refine ⟨_, ?_, isF_write hn h53⟩
  show ((Ieee.double.read a).sum (Ieee.double.read b)).map Ieee.double.write = _
  rw [show (Ieee.double.read a).sum (Ieee.double.read b) = some r from hr]; rfl

theorem isF_sub {a b : Nat} {x y : Int} (h1 : IsF a x) (h2 : IsF b y) (h53 : (x - y).natAbs < 9007199254740992) : ∃ r, floatBits .sub .f64 a b = some r ∧ IsF r (x - y) := by
  obtain ⟨r, hr, hn⟩ := isN_sum h1 (isN_opp h2)
  rw [← Int.sub_eq_add_neg] at hn
  refine ⟨_, ?_, isF_write hn h53⟩
  show ((Ieee.double.read a).sum (Ieee.double.read b).opposite).map Ieee.double.write = _
  rw [show (Ieee.double.read a).sum (Ieee.double.read b).opposite = some r from hr]; rfl

theorem isF_mul {a b : Nat} {x y : Int} (h1 : IsF a x) (h2 : IsF b y) (h53 : (x * y).natAbs < 9007199254740992) : ∃ r, floatBits .mul .f64 a b = some r ∧ IsF r (x * y) := by
  obtain ⟨r, hr, hn⟩ := isN_mul h1 h2
  refine ⟨_, ?_, isF_write hn h53⟩
  show ((Ieee.double.read a).product (Ieee.double.read b)).map Ieee.double.write = _
  rw [show (Ieee.double.read a).product (Ieee.double.read b) = some r from hr]; rfl

theorem isF_order {a b : Nat} {x y : Int} (h1 : IsF a x) (h2 : IsF b y) : FloatKind.f64.format.order a b = some (compare x y) := by
  obtain ⟨s, m, k, h1, hv⟩ := h1
  obtain ⟨t, n, l, h2, hw⟩ := h2
  show (Ieee.double.read a).order (Ieee.double.read b) = _
  rw [show Ieee.double.read a = _ from h1, show Ieee.double.read b = _ from h2]
  have hb : min (-(k : Int)) (-(l : Int)) = -((max k l : Nat) : Int) := by omega
  simp only [Datum.order, hb]
  have ek : (-(k : Int) - -((max k l : Nat) : Int)).toNat = max k l - k := by omega
  have el : (-(l : Int) - -((max k l : Nat) : Int)).toNat = max k l - l := by omega
  rw [ek, el, signed_of hv, signed_of hw, scale (by omega), scale (by omega)]
  have hp := two_pos (max k l)
  congr 1
  simp only [compare, compareOfLessAndEq]
  have i1 : x * 2 ^ max k l < y * 2 ^ max k l ↔ x < y := ⟨fun h => Int.lt_of_mul_lt_mul_right h (Int.le_of_lt hp), fun h => Int.mul_lt_mul_of_pos_right h hp⟩
  have i2 : x * 2 ^ max k l = y * 2 ^ max k l ↔ x = y := ⟨fun h => Int.eq_of_mul_eq_mul_right (by omega) h, fun h => by rw [h]⟩
  simp only [i1, i2]

theorem isF_eql {a b : Nat} {x y : Int} (h1 : IsF a x) (h2 : IsF b y) : (FloatKind.f64.format.order a b == some .eq) = (x == y) := by
  rw [isF_order h1 h2]
  simp only [compare, compareOfLessAndEq]
  by_cases h : x < y
  · have : x ≠ y := by omega
    simp [h, this]
  · by_cases e : x = y
    · simp [e]
    · simp [h, e]

theorem isF_toInt {a : Nat} {x : Int} (h : IsF a x) : (FloatKind.f64.decode a).toInt .zero = some x := by
  obtain ⟨s, m, k, h, hv⟩ := h
  rw [h]
  have hm := natAbs_of hv
  subst hm
  simp only [Datum.toInt, Datum.integral]
  have e1 : (-(k : Int)).toNat = 0 := by omega
  have e2 : (- -(k : Int)).toNat = k := by omega
  rw [e1, e2, Nat.shiftLeft_zero, cut_zero]
  congr 1
  unfold signed
  rw [Nat.shiftLeft_zero]
  by_cases hx : x = 0
  · subst hx; cases s <;> simp
  · rw [sgn_of hv hx]
    by_cases hn : x < 0 <;> simp [hn] <;> omega

theorem isN_integral {d : Datum} {x : Int} (h : IsN d x) : IsN (d.integral .zero) x := by
  obtain ⟨s, m, k, rfl, hv⟩ := h
  have hm := natAbs_of hv
  subst hm
  simp only [Datum.integral]
  have e1 : (-(k : Int)).toNat = 0 := by omega
  have e2 : (- -(k : Int)).toNat = k := by omega
  rw [e1, e2, Nat.shiftLeft_zero, cut_zero]
  refine ⟨s, x.natAbs, 0, rfl, ?_⟩
  by_cases hx : x = 0
  · subst hx; cases s <;> simp
  · rw [sgn_of hv hx]
    by_cases hn : x < 0 <;> simp [hn] <;> omega

theorem isF_trunc {a : Nat} {x : Int} (h : IsF a x) (h53 : x.natAbs < 9007199254740992) : IsF (FloatKind.f64.encode ((FloatKind.f64.decode a).integral .zero)) x := isF_write (isN_integral h) h53

theorem read_sign (b : Nat) (s : Bool) : (∀ t m e, Ieee.double.read b = .number t m e → Ieee.double.read (b % 9223372036854775808 + if s then 9223372036854775808 else 0) = .number s m e) := by
  intro t m e h
  unfold Format.read at *
  rw [show Ieee.double.signWeight = 9223372036854775808 from rfl] at *
  have e1 : (b % 9223372036854775808 + if s = true then 9223372036854775808 else 0) % 9223372036854775808 = b % 9223372036854775808 := by cases s <;> simp <;> omega
  have e2 : ((b % 9223372036854775808 + if s = true then 9223372036854775808 else 0) / 9223372036854775808 % 2 == 1) = s := by cases s <;> simp <;> omega
  simp only [e1, e2]
  by_cases c1 : b % 9223372036854775808 < Ieee.double.binade
  · rw [if_pos c1] at h ⊢
    injection h with h1 h2 h3; rw [h2, h3]
  · rw [if_neg c1] at h ⊢
    by_cases c2 : b % 9223372036854775808 < Ieee.double.infRung
    · rw [if_pos c2] at h ⊢
      injection h with h1 h2 h3; rw [h2, h3]
    · rw [if_neg c2] at h
      by_cases c3 : b % 9223372036854775808 = Ieee.double.infRung
      · rw [if_pos c3] at h; injection h
      · rw [if_neg c3] at h; injection h

theorem xor_63 (b : Nat) (hb : b < 18446744073709551616) : b ^^^ 9223372036854775808 = b % 9223372036854775808 + if b / 9223372036854775808 = 0 then 9223372036854775808 else 0 := by
  have h1 : (b ^^^ 2 ^ 63) % 2 ^ 63 = b % 2 ^ 63 := by
    rw [Nat.xor_mod_two_pow, Nat.mod_self, Nat.xor_zero]
  have h2 : (b ^^^ 2 ^ 63) / 2 ^ 63 = b / 2 ^ 63 ^^^ 1 := by
    rw [Nat.xor_div_two_pow, Nat.div_self (Nat.two_pow_pos 63)]
  have h3 := Nat.div_add_mod (b ^^^ 2 ^ 63) (2 ^ 63)
  rw [h1, h2] at h3
  rw [show (2 : Nat) ^ 63 = 9223372036854775808 from rfl] at h3
  have h4 : b / 9223372036854775808 = 0 ∨ b / 9223372036854775808 = 1 := by omega
  rcases h4 with h4 | h4
  · rw [h4, show (0 ^^^ 1 : Nat) = 1 from rfl] at h3; rw [h4, if_pos rfl]; omega
  · rw [h4, show (1 ^^^ 1 : Nat) = 0 from rfl] at h3; rw [h4, if_neg (by omega)]; omega

theorem isF_neg {b : Nat} {x : Int} (hb : b < 18446744073709551616) (h : IsF b x) : IsF (Go.Op.negFloat .f64 b) (-x) := by
  obtain ⟨s, m, k, h, hv⟩ := h
  show IsN (Ieee.double.read (b ^^^ 9223372036854775808)) (-x)
  rw [xor_63 b hb]
  have hs : s = decide (¬ b / 9223372036854775808 = 0) := by
    have h' : Ieee.double.read b = .number s m (-(k : Int)) := h
    have h4 : b / 9223372036854775808 = 0 ∨ b / 9223372036854775808 = 1 := by omega
    unfold Format.read at h'
    rw [show Ieee.double.signWeight = 9223372036854775808 from rfl] at h'
    have hq : (b / 9223372036854775808 % 2 == 1) = decide (¬ b / 9223372036854775808 = 0) := by rcases h4 with h4 | h4 <;> rw [h4] <;> rfl
    rw [← hq]
    simp only at h'
    split at h'
    · injection h' with h1; exact h1.symm
    · split at h'
      · injection h' with h1; exact h1.symm
      · split at h' <;> injection h'
  have := read_sign b (!s) s m _ h
  rw [show (if (!s) = true then 9223372036854775808 else 0) = if b / 9223372036854775808 = 0 then 9223372036854775808 else 0 by rw [hs]; by_cases c : b / 9223372036854775808 = 0 <;> simp [c]] at this
  rw [this]
  refine ⟨_, _, k, rfl, ?_⟩
  rw [Int.neg_mul, ← hv]
  cases s <;> simp

theorem isF_abs {b : Nat} {x : Int} (h : IsF b x) : IsF (b % 9223372036854775808) x.natAbs := by
  obtain ⟨s, m, k, h, hv⟩ := h
  have := read_sign b false s m _ h
  simp only [Bool.false_eq_true, if_false, Nat.add_zero] at this
  refine ⟨false, m, k, this, ?_⟩
  have := natAbs_of hv
  simp only [Bool.false_eq_true, if_false]
  exact_mod_cast this

theorem natAbs_lt {x : Int} {B : Nat} (h1 : -(B : Int) < x) (h2 : x < B) : x.natAbs < B := by omega

/-! ### Points: complex numbers that are whole numbers -/
abbrev VPt := Int × Int
def fcut (n : Int) : Int := if n > 1099511627776 then 1099511627776 else if n < -1099511627776 then -1099511627776 else n
theorem fcut_bd (n : Int) : -1099511627776 ≤ fcut n ∧ fcut n ≤ 1099511627776 := by unfold fcut; (repeat' split) <;> omega
theorem fcut_id {n : Int} (h : -1099511627776 ≤ n) (h2 : n ≤ 1099511627776) : fcut n = n := by unfold fcut; (repeat' split) <;> omega
def vp0 : VPt := (0, 0)
/-- The value of a point. -/
def vpt2 (p : VPt) : Value := .complex .f64 (floatOfInt .f64 (fcut p.1)) (floatOfInt .f64 (fcut p.2))
def veq2 (p q : VPt) : Bool := fcut p.1 == fcut q.1 && fcut p.2 == fcut q.2
def vsm2 (p q : VPt) : Bool := decide (-1099511627776 ≤ fcut p.1 + fcut q.1 ∧ fcut p.1 + fcut q.1 ≤ 1099511627776 ∧ -1099511627776 ≤ fcut p.2 + fcut q.2 ∧ fcut p.2 + fcut q.2 ≤ 1099511627776)
def vsum2 (p q : VPt) : VPt := (fcut p.1 + fcut q.1, fcut p.2 + fcut q.2)
theorem fcut_abs (n : Int) : (fcut n).natAbs < 9007199254740992 := by have := fcut_bd n; omega
theorem isF_cut (n : Int) : IsF (floatOfInt .f64 (fcut n)) (fcut n) := isF_ofInt (fcut_abs n)
theorem run_eql_vpt2 {P : Program} (t : TypeId) (p q : VPt) (w : World) : (binOp .eql t (vpt2 p) (vpt2 q)).run P w = .ok (.bool (veq2 p q)) w := by
  unfold vpt2 veq2
  rw [run_eql_complex, isF_eql (isF_cut _) (isF_cut _), isF_eql (isF_cut _) (isF_cut _)]
theorem run_neq_vpt2 {P : Program} (t : TypeId) (p q : VPt) (w : World) : (binOp .neq t (vpt2 p) (vpt2 q)).run P w = .ok (.bool (!veq2 p q)) w := by
  unfold vpt2 veq2
  rw [run_neq_complex, isF_eql (isF_cut _) (isF_cut _), isF_eql (isF_cut _) (isF_cut _)]
theorem eqGuard_vpt2 (op : BinOp) (t : TypeId) (x y : Operand) (p : VPt) (v : Value) : eqGuard op t x y (vpt2 p) v = pure () := by
  unfold vpt2
  cases op <;> rfl
theorem ofInt_zero : floatOfInt .f64 0 = 0 := by decide +kernel
theorem vpt2_zero : Value.complex .f64 0 0 = vpt2 vp0 := by
  unfold vpt2 vp0
  show _ = Value.complex .f64 (floatOfInt .f64 (fcut 0)) (floatOfInt .f64 (fcut 0))
  rw [fcut_id (by omega) (by omega), ofInt_zero]

theorem read_ofInt {x : Int} (h53 : x.natAbs < 9007199254740992) : ∃ m, ∃ k : Nat, FloatKind.f64.decode (floatOfInt .f64 x) = .number (decide (x < 0)) m (-(k : Int)) ∧ (if decide (x < 0) then -(m : Int) else (m : Int)) = x * 2 ^ k := by
  by_cases hx : x = 0
  · subst hx
    refine ⟨0, 1074, ?_, by rw [Int.zero_mul]; rfl⟩
    rw [ofInt_zero]; decide
  · obtain ⟨s, m, k, h, hv⟩ := isF_ofInt h53
    have := sgn_of hv hx
    subst this
    exact ⟨m, k, h, hv⟩
theorem add_ofInt {x y : Int} (h1 : x.natAbs < 9007199254740992) (h2 : y.natAbs < 9007199254740992) (h3 : (x + y).natAbs < 9007199254740992) :
    floatBits .add .f64 (floatOfInt .f64 x) (floatOfInt .f64 y) = some (floatOfInt .f64 (x + y)) := by
  obtain ⟨m, k, e1, hv⟩ := read_ofInt h1
  obtain ⟨n, l, e2, hw⟩ := read_ofInt h2
  show ((Ieee.double.read _).sum (Ieee.double.read _)).map Ieee.double.write = _
  rw [show Ieee.double.read (floatOfInt .f64 x) = _ from e1, show Ieee.double.read (floatOfInt .f64 y) = _ from e2]
  have hb : min (-(k : Int)) (-(l : Int)) = -((max k l : Nat) : Int) := by omega
  have ek : (-(k : Int) - -((max k l : Nat) : Int)).toNat = max k l - k := by omega
  have el : (-(l : Int) - -((max k l : Nat) : Int)).toNat = max k l - l := by omega
  simp only [Datum.sum, hb, ek, el, Option.map_some]
  rw [signed_of hv, signed_of hw, scale (by omega), scale (by omega), ← Int.add_mul]
  have hp := two_pos (max k l)
  congr 1
  by_cases h0 : x + y = 0
  · rw [h0, ofInt_zero, Int.zero_mul, if_pos rfl]
    have hs : (decide (x < 0) && decide (y < 0)) = false := by
      rw [Bool.and_eq_false_iff, decide_eq_false_iff_not, decide_eq_false_iff_not]; omega
    rw [hs]
    show Ieee.double.nearest false (0 : Int).natAbs _ = 0
    unfold Format.nearest; rfl
  · have h0' : ¬ (x + y) * 2 ^ (max k l) = 0 := Int.mul_ne_zero h0 (by omega)
    rw [if_neg h0', Int.natAbs_mul, Int.natAbs_pow]
    show Ieee.double.nearest _ ((x + y).natAbs * 2 ^ (max k l)) _ = Ieee.double.nearest _ (x + y).natAbs 0
    rw [nearest_whole _ _ _ (by omega) h3]
    have h4 := nearest_whole (decide (x + y < 0)) (x + y).natAbs 0 (by omega) h3
    rw [Nat.pow_zero, Nat.mul_one] at h4
    rw [show (-((0 : Nat) : Int)) = 0 from rfl] at h4
    rw [h4]
    congr 1
    by_cases hn : x + y < 0
    · have := Int.mul_neg_of_neg_of_pos hn hp
      simp [hn, this]
    · have := Int.mul_nonneg (show 0 ≤ x + y by omega) (Int.le_of_lt hp)
      simp [hn]; omega
theorem run_add_vpt2 {P : Program} (t : TypeId) (p q : VPt) (w : World) (h : vsm2 p q = true) : (binOp .add t (vpt2 p) (vpt2 q)).run P w = .ok (vpt2 (vsum2 p q)) w := by
  have h := of_decide_eq_true h
  have b1 := fcut_bd p.1; have b2 := fcut_bd p.2; have b3 := fcut_bd q.1; have b4 := fcut_bd q.2
  unfold vpt2 vsum2
  refine run_complex_sum _ .add (.inl rfl) t .f64 _ _ _ _ _ _ ?_
  rw [fcut_id (n := fcut p.1 + fcut q.1) (by omega) (by omega), fcut_id (n := fcut p.2 + fcut q.2) (by omega) (by omega)]
  unfold cSumBits
  rw [add_ofInt (by omega) (by omega) (by omega), add_ofInt (by omega) (by omega) (by omega)]
  rfl

/-! ### Words that stand for whole numbers, below 2^64 -/
def IsW (b : Nat) (x : Int) : Prop := IsF b x ∧ b < 18446744073709551616
theorem isW_ofInt {x : Int} (h : x.natAbs < 9007199254740992) : IsW (floatOfInt .f64 x) x := ⟨isF_ofInt h, Ieee.Format.write_lt Ieee.double (.number (decide (x < 0)) x.natAbs 0)⟩
theorem isW_cut (n : Int) : IsW (floatOfInt .f64 (fcut n)) (fcut n) := isW_ofInt (fcut_abs n)
theorem isW_zero : IsW 0 0 := ⟨⟨false, 0, 1074, by decide, by rw [Int.zero_mul]; rfl⟩, by omega⟩
theorem isW_one : IsW 4607182418800017408 1 := ⟨⟨false, 4503599627370496, 52, by decide, by decide⟩, by omega⟩
theorem isW_most : IsW 4787326403894837248 1099511627776 := ⟨⟨false, 4503599627370496, 12, by decide, by decide⟩, by omega⟩
theorem isW_add {a b : Nat} {x y : Int} (h1 : IsW a x) (h2 : IsW b y) (h : (x + y).natAbs < 9007199254740992) : ∃ r, floatBits .add .f64 a b = some r ∧ IsW r (x + y) := by
  obtain ⟨r, hr, hf⟩ := isF_add h1.1 h2.1 h
  exact ⟨r, hr, hf, Ieee.Format.add_lt Ieee.double hr⟩
theorem isW_sub {a b : Nat} {x y : Int} (h1 : IsW a x) (h2 : IsW b y) (h : (x - y).natAbs < 9007199254740992) : ∃ r, floatBits .sub .f64 a b = some r ∧ IsW r (x - y) := by
  obtain ⟨r, hr, hf⟩ := isF_sub h1.1 h2.1 h
  exact ⟨r, hr, hf, Ieee.Format.sub_lt Ieee.double hr⟩
theorem isW_mul {a b : Nat} {x y : Int} (h1 : IsW a x) (h2 : IsW b y) (h : (x * y).natAbs < 9007199254740992) : ∃ r, floatBits .mul .f64 a b = some r ∧ IsW r (x * y) := by
  obtain ⟨r, hr, hf⟩ := isF_mul h1.1 h2.1 h
  exact ⟨r, hr, hf, Ieee.Format.mul_lt Ieee.double hr⟩
theorem isW_neg {b : Nat} {x : Int} (h : IsW b x) : IsW (Go.Op.negFloat .f64 b) (-x) := ⟨isF_neg h.2 h.1, by
  show b ^^^ 2 ^ 63 < 2 ^ 64
  exact Nat.xor_lt_two_pow h.2 (by decide)⟩
theorem isW_abs {b : Nat} {x : Int} (h : IsW b x) : IsW (b % 9223372036854775808) x.natAbs := ⟨isF_abs h.1, by omega⟩
theorem isW_trunc {b : Nat} {x : Int} (h : IsW b x) (h53 : x.natAbs < 9007199254740992) : IsW (FloatKind.f64.encode ((FloatKind.f64.decode b).integral .zero)) x := ⟨isF_trunc h.1 h53, Ieee.Format.write_lt Ieee.double _⟩
theorem isW_int {b : Nat} {x : Int} (h : IsW b x) (h1 : -9223372036854775808 ≤ x) (h2 : x ≤ 9223372036854775807) : floatToIntVal .f64 b .i64 = some x := by
  unfold floatToIntVal
  rw [isF_toInt h.1]
  show (if IntKind.i64.min ≤ x ∧ x ≤ IntKind.i64.max then some x else none) = some x
  rw [if_pos]
  simp [IntKind.min, IntKind.max, IntKind.signed, IntKind.bits]; omega
/-- Both parts of a complex number. -/
theorem isW_cadd {a b c d : Nat} {x y z u : Int} (h1 : IsW a x) (h2 : IsW b y) (h3 : IsW c z) (h4 : IsW d u) (l1 : (x + z).natAbs < 9007199254740992) (l2 : (y + u).natAbs < 9007199254740992) :
    ∃ r s, cSumBits .add .f64 a b c d = some (r, s) ∧ IsW r (x + z) ∧ IsW s (y + u) := by
  obtain ⟨r, hr, fr⟩ := isW_add h1 h3 l1
  obtain ⟨s, hs, fs⟩ := isW_add h2 h4 l2
  exact ⟨r, s, by unfold cSumBits; rw [hr, hs]; rfl, fr, fs⟩
theorem isW_csub {a b c d : Nat} {x y z u : Int} (h1 : IsW a x) (h2 : IsW b y) (h3 : IsW c z) (h4 : IsW d u) (l1 : (x - z).natAbs < 9007199254740992) (l2 : (y - u).natAbs < 9007199254740992) :
    ∃ r s, cSumBits .sub .f64 a b c d = some (r, s) ∧ IsW r (x - z) ∧ IsW s (y - u) := by
  obtain ⟨r, hr, fr⟩ := isW_sub h1 h3 l1
  obtain ⟨s, hs, fs⟩ := isW_sub h2 h4 l2
  exact ⟨r, s, by unfold cSumBits; rw [hr, hs]; rfl, fr, fs⟩
/-- Times the imaginary unit. -/
theorem isW_muli {a b : Nat} {x y : Int} (h1 : IsW a x) (h2 : IsW b y) (l1 : x.natAbs < 9007199254740992) (l2 : y.natAbs < 9007199254740992) :
    ∃ r s, cMulBits a b 0 4607182418800017408 = some (r, s) ∧ IsW r (-y) ∧ IsW s x := by
  obtain ⟨ac, e1, f1⟩ := isW_mul h1 isW_zero (by omega)
  obtain ⟨bd, e2, f2⟩ := isW_mul h2 isW_one (by omega)
  obtain ⟨re, e3, f3⟩ := isW_sub f1 f2 (by omega)
  obtain ⟨ad, e4, f4⟩ := isW_mul h1 isW_one (by omega)
  obtain ⟨bc, e5, f5⟩ := isW_mul h2 isW_zero (by omega)
  obtain ⟨im, e6, f6⟩ := isW_add f4 f5 (by omega)
  refine ⟨re, im, by unfold cMulBits; rw [e1]; simp only [Option.bind_some]; rw [e2]; simp only [Option.bind_some]; rw [e3]; simp only [Option.bind_some]; rw [e4]; simp only [Option.bind_some]; rw [e5]; simp only [Option.bind_some]; rw [e6]; rfl, ?_, ?_⟩
  · rw [show -y = x * 0 - y * 1 by omega]; exact f3
  · rw [show x = x * 1 + y * 0 by omega]; exact f6

theorem isW_le {a b : Nat} {x y : Int} (h1 : IsW a x) (h2 : IsW b y) : (FloatKind.f64.format.order a b == some .lt || FloatKind.f64.format.order a b == some .eq) = decide (x ≤ y) := by
  rw [isF_order h1.1 h2.1]
  simp only [compare, compareOfLessAndEq]
  by_cases h : x < y
  · have : x ≤ y := by omega
    simp [h, this]
  · by_cases e : x = y
    · simp [e]
    · have : ¬ x ≤ y := by omega
      simp [h, e, this]
theorem isW_eql {a b : Nat} {x y : Int} (h1 : IsW a x) (h2 : IsW b y) : (FloatKind.f64.format.order a b == some .eq) = (x == y) := isF_eql h1.1 h2.1
theorem isW_num {b : Nat} {x : Int} (h : IsW b x) : ∃ s m e, FloatKind.f64.decode b = .number s m e := by
  obtain ⟨⟨s, m, k, h, _⟩, _⟩ := h
  exact ⟨s, m, _, h⟩
theorem abs_bits (b : Nat) (hb : b < 18446744073709551616) : bits .andNot .u64 (b : Int) 9223372036854775808 = ((b % 9223372036854775808 : Nat) : Int) := by
  have h := u64_andNot_nat b 9223372036854775808 hb (by omega)
  rw [show ((9223372036854775808 : Nat) : Int) = 9223372036854775808 from rfl] at h
  rw [h, show 18446744073709551615 - 9223372036854775808 = 2 ^ 63 - 1 from rfl, Nat.and_two_pow_sub_one_eq_mod]

end Go.Proofs.Ytnmcefpnpfaklab.Flt
