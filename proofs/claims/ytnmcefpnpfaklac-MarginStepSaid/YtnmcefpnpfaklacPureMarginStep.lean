/- The law MarginStep of layer 6 holds of the printed functions, for all whole numbers of 64 bits, lengths and lists of them. -/
import Derived.Test.YtnmcefpnpfaklacVx1
import Derived.Test.YtnmcefpnpfaklacVx2
import Derived.Test.YtnmcefpnpfaklacVx20
import Derived.Test.YtnmcefpnpfaklacVx22
import Derived.Test.YtnmcefpnpfaklacVx23
import Derived.Test.YtnmcefpnpfaklacVx36
set_option linter.unusedVariables false
set_option linter.unusedSimpArgs false
namespace Go.Proofs.Ytnmcefpnpfaklac.Pure
open Go.RowKit Go.Proofs.Ytnmcefpnpfaklac.V Go.Proofs.YtnmcefpnpfaklacW.PrintWords Go.Proofs.YtnmcefpnpfaklacW.PrintLast Go.Proofs.YtnmcefpnpfaklacW.PrintMore

theorem rd_append_left (l m : List Int) (i : Nat) (h : i < l.length) : rd (l ++ m) (i : Int) = rd l (i : Int) := by
  rw [rd_at l i h, rd_at (l ++ m) i (by simp; omega)]; exact List.getElem_append_left h
theorem rd_append_last (l : List Int) (x : Int) : rd (l ++ [x]) (l.length : Int) = x := by
  rw [rd_at (l ++ [x]) l.length (by simp)]; simp
theorem vstk_out (s t b : List Int) (d : Nat) : ∀ i out at_, ∃ more, (vstk s t b d i out at_).1 = out ++ more ∧ more.length = d := by
  induction d with
  | zero => intro i out at_; exact ⟨[], by simp [vstk], rfl⟩
  | succ d ih =>
    intro i out at_
    simp only [vstk]
    obtain ⟨m, h1, h2⟩ := ih (i + 1) (out ++ [if i = 0 then at_ else vadd at_ (vcoll [rd b ((i : Int) - 1), rd t (i : Int)])]) (vadd (if i = 0 then at_ else vadd at_ (vcoll [rd b ((i : Int) - 1), rd t (i : Int)])) (rd s (i : Int)))
    exact ⟨_, by rw [h1, List.append_assoc], by simp [h2]⟩
def vstep (s t b : List Int) (i : Nat) (out : List Int) (at_ : Int) : List Int × Int :=
  (out ++ [if i = 0 then at_ else vadd at_ (vcoll [rd b ((i : Int) - 1), rd t (i : Int)])], vadd (if i = 0 then at_ else vadd at_ (vcoll [rd b ((i : Int) - 1), rd t (i : Int)])) (rd s (i : Int)))
theorem vstk_succ (s t b : List Int) (d i : Nat) (out : List Int) (at_ : Int) : vstk s t b (d + 1) i out at_ = vstk s t b d (i + 1) (vstep s t b i out at_).1 (vstep s t b i out at_).2 := rfl
theorem vstep_more (s t b : List Int) (x y z : Int) (ht : t.length = s.length) (hb : b.length = s.length) (i : Nat) (hi : i < s.length) (out : List Int) (at_ : Int) : vstep (s ++ [x]) (t ++ [y]) (b ++ [z]) i out at_ = vstep s t b i out at_ := by
  have e1 : rd (s ++ [x]) (i : Int) = rd s (i : Int) := rd_append_left s [x] i (by omega)
  have e2 : rd (t ++ [y]) (i : Int) = rd t (i : Int) := rd_append_left t [y] i (by omega)
  unfold vstep
  by_cases h0 : i = 0
  · simp only [h0, if_true] at e1 ⊢; rw [e1]
  · have e3 : rd (b ++ [z]) ((i : Int) - 1) = rd b ((i : Int) - 1) := by
      have := rd_append_left b [z] (i - 1) (by omega)
      rw [show ((i - 1 : Nat) : Int) = (i : Int) - 1 by omega] at this
      exact this
    simp only [h0, if_false, e1, e2, e3]
/-- One more box: the run over the longer lists goes as the run over the shorter ones, and one step on. -/
theorem vstk_more (s t b : List Int) (x y z : Int) (ht : t.length = s.length) (hb : b.length = s.length) (d : Nat) : ∀ i out at_, i + d = s.length →
    vstk (s ++ [x]) (t ++ [y]) (b ++ [z]) (d + 1) i out at_ = vstep (s ++ [x]) (t ++ [y]) (b ++ [z]) s.length (vstk s t b d i out at_).1 (vstk s t b d i out at_).2 := by
  induction d with
  | zero => intro i out at_ h; rw [show i = s.length by omega]; rfl
  | succ d ih =>
    intro i out at_ h
    rw [vstk_succ, vstep_more s t b x y z ht hb i (by omega), ih (i + 1) _ _ (by omega), vstk_succ s t b d i]
theorem vstack_more (s t b : List Int) (x y z : Int) (ht : t.length = s.length) (hb : b.length = s.length) : vstack (s ++ [x]) (t ++ [y]) (b ++ [z]) = vstep (s ++ [x]) (t ++ [y]) (b ++ [z]) s.length (vstack s t b).1 (vstack s t b).2 := by
  have h := vstk_more s t b x y z ht hb s.length 0 [] 0 (by omega)
  have e : (s ++ [x]).length = s.length + 1 := by simp
  have e2 : (t ++ [y]).length = (s ++ [x]).length ∧ (b ++ [z]).length = (s ++ [x]).length := by simp; omega
  unfold vstack
  rw [if_pos e2, if_pos ⟨ht, hb⟩, e]
  exact h
theorem vstack_len (s t b : List Int) (ht : t.length = s.length) (hb : b.length = s.length) : (vstack s t b).1.length = s.length := by
  unfold vstack
  rw [if_pos ⟨ht, hb⟩]
  obtain ⟨m, hm1, hm2⟩ := vstk_out s t b s.length 0 [] 0
  rw [hm1]; simp [hm2]
theorem vstack_nil (t b : List Int) : (vstack [] t b).2 = 0 := by unfold vstack; split <;> rfl
theorem step_end (b : List Int) (size top : Int) (x y : List Int) (e : Int) (hx : x.length ≤ 100) (hb : b.length = x.length) (at2 : Int)
    (hat : at2 = if x.length = 0 then 0 else vadd e (vcoll [rd b ((b.length : Int) - 1), top])) (hy : y = x ++ [at2]) (d : Nat) : ∀ (k i : Nat), i + d = x.length → d + 5 < k →
    valancelaw06_MarginStep.l0 k b size top true x e y (vadd at2 size) (i : Int) = some true := by
  induction d with
  | zero =>
    intro k i hi hk
    obtain ⟨k, rfl⟩ : ∃ m, k = m + 1 := ⟨k - 1, by omega⟩
    simp only [valancelaw06_MarginStep.l0, if_true]
    rw [if_neg (by omega)]
    have hyl : y.length = x.length + 1 := by rw [hy]; simp
    have hlast : rd y (x.length : Int) = at2 := by rw [hy]; exact rd_append_last x at2
    by_cases h0 : x.length = 0
    · rw [if_neg (by omega), if_pos (by omega), if_pos (by omega), hlast, hat, if_pos h0, if_pos rfl, fix_Add_eq]
      simp
    · rw [if_pos (by omega), w64 (x := (b.length : Int) - 1) (by omega) (by omega), if_pos (by omega), if_pos (by omega), margin_Pair_eq k (by omega)]
      simp only [Option.bind_some, fix_Add_eq]
      rw [if_pos (by omega), if_pos (by omega), hlast, hat, if_neg h0, if_pos rfl]
      simp
  | succ d ih =>
    intro k i hi hk
    obtain ⟨k, rfl⟩ : ∃ m, k = m + 1 := ⟨k - 1, by omega⟩
    simp only [valancelaw06_MarginStep.l0]
    have hyl : y.length = x.length + 1 := by rw [hy]; simp
    have e1 : rd x (i : Int) = rd y (i : Int) := by rw [hy, rd_append_left x [at2] i (by omega)]
    rw [if_pos (by omega), if_pos (by omega), if_pos (by omega), if_pos e1, w64 (by omega) (by omega)]
    exact ih k (i + 1) (by omega) (by omega)
theorem step_law (b s t : List Int) (size top bottom : Int) (x : List Int) (e0 : Int) (h2 : t.length = s.length) (h3 : b.length = s.length) (h1 : s.length ≤ 100) (hlen : x.length = s.length) (h00 : s.length = 0 → e0 = 0) (k : Nat) (hk : 299 ≤ k) :
    (if ((vstep (s ++ [size]) (t ++ [top]) (b ++ [bottom]) s.length (x, e0).1 (x, e0).2).1.length : Int) = wrap64 (((x, e0).1.length : Int) + 1) then
      valancelaw06_MarginStep.l0 k b size top true (x, e0).1 (x, e0).2 (vstep (s ++ [size]) (t ++ [top]) (b ++ [bottom]) s.length (x, e0).1 (x, e0).2).1 (vstep (s ++ [size]) (t ++ [top]) (b ++ [bottom]) s.length (x, e0).1 (x, e0).2).2 0 else none) = some true := by
  have r1 : rd (s ++ [size]) (s.length : Int) = size := rd_append_last s size
  have r2 : rd (t ++ [top]) (s.length : Int) = top := by rw [← h2]; exact rd_append_last t top
  have hv : vstep (s ++ [size]) (t ++ [top]) (b ++ [bottom]) s.length x e0 = (x ++ [if x.length = 0 then 0 else vadd e0 (vcoll [rd b ((b.length : Int) - 1), top])], vadd (if x.length = 0 then 0 else vadd e0 (vcoll [rd b ((b.length : Int) - 1), top])) size) := by
    unfold vstep
    rw [r1, r2]
    by_cases h0 : s.length = 0
    · rw [if_pos h0, if_pos (by omega), h00 h0]
    · rw [if_neg h0, if_neg (by omega)]
      have r3 : rd (b ++ [bottom]) ((s.length : Int) - 1) = rd b ((b.length : Int) - 1) := by
        have := rd_append_left b [bottom] (b.length - 1) (by omega)
        rw [show ((b.length - 1 : Nat) : Int) = (b.length : Int) - 1 by omega] at this
        rw [← h3]; exact this
      rw [r3]
  show (if ((vstep (s ++ [size]) (t ++ [top]) (b ++ [bottom]) s.length x e0).1.length : Int) = wrap64 ((x.length : Int) + 1) then valancelaw06_MarginStep.l0 k b size top true x e0 (vstep (s ++ [size]) (t ++ [top]) (b ++ [bottom]) s.length x e0).1 (vstep (s ++ [size]) (t ++ [top]) (b ++ [bottom]) s.length x e0).2 0 else none) = some true
  rw [hv]
  generalize hat : (if x.length = 0 then 0 else vadd e0 (vcoll [rd b ((b.length : Int) - 1), top])) = at2
  rw [w64 (x := (x.length : Int) + 1) (by omega) (by omega), if_pos (by simp)]
  have := step_end b size top x (x ++ [at2]) e0 (by omega) (by omega) at2 hat.symm rfl x.length k 0 (by omega) (by omega)
  simpa using this
theorem MarginStep : valancelaw06_MarginStep.Pure := by
  intro s t b size top bottom _ _ _ _ _ _ _ _ _ _ _ _
  suffices key : ∀ k, 299 ≤ k → valancelaw06_MarginStep.f (k + 1) s t b size top bottom = some true from ⟨300, key 299 (Nat.le_refl _)⟩
  intro k hk
  unfold valancelaw06_MarginStep.f
  rw [works06_eq (k + 1) (by omega)]
  simp only [Option.bind_some, if_true]
  by_cases h1 : (s.length : Int) > 100
  · simp only [h1, if_true, valancelaw06_MarginStep.j0]
  rw [if_neg h1]
  by_cases h2 : t.length = s.length
  · rw [if_pos (by omega)]
    by_cases h3 : b.length = s.length
    · have e : ((b.length : Int) != (s.length : Int)) = false := by simp; omega
      rw [e]
      simp only [valancelaw06_MarginStep.j0, Bool.false_eq_true, if_false, List.nil_append, Option.bind_some, List.length_nil, Nat.zero_add]
      rw [if_pos (by omega), if_pos (by omega), if_pos (by omega), if_pos (by omega), if_pos (by omega), if_pos (by omega)]
      rw [margin_Stack_eq k s t b (by omega) (by omega), margin_Stack_eq k (s ++ [size]) (t ++ [top]) (b ++ [bottom]) (by simp; omega) (by simp; omega)]
      rw [Option.bind_some, Option.bind_some]
      have hlen := vstack_len s t b h2 h3
      have h00 : s.length = 0 → (vstack s t b).2 = 0 := by
        intro h0
        have hs : s = [] := List.eq_nil_of_length_eq_zero h0
        subst hs
        exact vstack_nil t b
      rw [vstack_more s t b size top bottom h2 h3]
      generalize vstack s t b = X at hlen h00 ⊢
      obtain ⟨x, e0⟩ := X
      exact step_law b s t size top bottom x e0 h2 h3 (by omega) hlen h00 k (by omega)
    · have e : ((b.length : Int) != (s.length : Int)) = true := by simp; omega
      rw [e]; simp only [valancelaw06_MarginStep.j0, if_true]
  · rw [if_neg (by omega)]; simp only [valancelaw06_MarginStep.j0, if_true]

end Go.Proofs.Ytnmcefpnpfaklac.Pure
