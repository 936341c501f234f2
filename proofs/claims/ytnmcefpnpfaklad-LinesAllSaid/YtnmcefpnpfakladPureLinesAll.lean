/- The law LinesAll holds of the printed functions, for all sizes and whole numbers of 64 bits. -/
import Derived.Test.YtnmcefpnpfakladPlainSeg
import Derived.Test.YtnmcefpnpfakladVx0
import Derived.Test.YtnmcefpnpfakladVx2
import Derived.Test.YtnmcefpnpfakladVx33
import Derived.Test.YtnmcefpnpfakladVx41
namespace Go.Proofs.Ytnmcefpnpfaklad.Pure
open Go.RowKit Go.Proofs.Ytnmcefpnpfaklad.V Go.Proofs.Ytnmcefpnpfaklad.Plain Go.Proofs.YtnmcefpnpfakladW.PrintWords Go.Proofs.YtnmcefpnpfakladW.PrintLast Go.Proofs.YtnmcefpnpfakladW.PrintMore
theorem lall_j2 (l : List Int) (room gap : Int) (wrap : Bool) (L : List S41) (i : Int) (a b k : Nat) (hl : l.length ≤ 200) (hab : a < b) (hb : b ≤ l.length) (hF : Full l room gap wrap a b) (hk : 300 ≤ k)
    (h : valancelaw07_LinesAll.l0 k l room gap wrap true L (b : Int) (wrap64 (i + 1)) = some true) : valancelaw07_LinesAll.j2 (k + 1) l room gap wrap true L i (a : Int) (b : Int) false = some true := by
  simp only [valancelaw07_LinesAll.j2, Bool.false_eq_true, if_false]
  by_cases c1 : b < l.length
  · rw [if_pos (by omega), w64 (x := (b : Int) - (a : Int)) (by omega) (by omega)]
    by_cases c2 : b - a < 64
    · obtain ⟨rfl, h2⟩ := hF c1 c2
      rw [if_pos (by omega), if_pos rfl, if_pos (by omega), w64 (x := (b : Int) + 1) (by omega) (by omega), if_pos (by omega), if_pos (by omega), show ((b : Int) + 1).toNat = b + 1 by omega, Int.toNat_natCast, long_part k l gap a (b + 1) (by omega) (by omega) (by omega)]
      simp only [Option.bind_some]
      rw [show b + 1 - a = b - a + 1 by omega, if_neg h2]
      exact h
    · rw [if_neg (by omega)]; exact h
  · rw [if_neg (by omega)]; exact h
theorem lall_j1 (l : List Int) (room gap : Int) (wrap : Bool) (L : List S41) (i : Int) (a b k : Nat) (hl : l.length ≤ 200) (hH : Held l room gap wrap a b) (hb : b ≤ l.length) (hF : Full l room gap wrap a b) (hk : 300 ≤ k)
    (h : valancelaw07_LinesAll.l0 k l room gap wrap true L (b : Int) (wrap64 (i + 1)) = some true) : valancelaw07_LinesAll.j1 (k + 2) l room gap wrap true L i (a : Int) (b : Int) false = some true := by
  have hab := hH.1
  have h2 := lall_j2 l room gap wrap L i a b k hl hab hb hF hk h
  simp only [valancelaw07_LinesAll.j1, Bool.false_eq_true, if_false]
  cases wrap with
  | false => rw [if_neg (by simp)]; exact h2
  | true =>
    rw [if_pos rfl, w64 (x := (b : Int) - (a : Int)) (by omega) (by omega)]
    by_cases c2 : 1 < b - a
    · rw [if_pos (by omega), if_pos (by omega), if_pos (by omega), if_pos (by omega), Int.toNat_natCast, Int.toNat_natCast, long_part (k + 1) l gap a b (by omega) (by omega) (by omega)]
      simp only [Option.bind_some]
      have h3 := hH.2.2 (b - a) c2 (Nat.le_refl _) rfl
      rw [decide_eq_false (by omega)]
      exact h2
    · rw [if_neg (by omega)]; exact h2
theorem lall_l0 (l : List Int) (room gap : Int) (wrap : Bool) (hl : l.length ≤ 200) : ∀ (suf pre : List S41) (a k : Nat), pre.length + suf.length ≤ 1000 → Chain (fun a b => Held l room gap wrap a b ∧ Full l room gap wrap a b) a suf l.length → 3 * suf.length + 301 ≤ k →
    valancelaw07_LinesAll.l0 k l room gap wrap true (pre ++ suf) (a : Int) (pre.length : Int) = some true := by
  intro suf
  induction suf with
  | nil =>
    intro pre a k hp hc hk
    obtain ⟨k, rfl⟩ : ∃ m, k = m + 1 := ⟨k - 1, by omega⟩
    obtain rfl : a = l.length := hc
    simp only [valancelaw07_LinesAll.l0, List.append_nil]
    rw [if_neg (by omega), if_pos True.intro, beq_self_eq_true]
  | cons x r ih =>
    intro pre a k hp hc hk
    rw [List.length_cons] at hk hp
    obtain ⟨b, rfl, ⟨hH, hF⟩, hc⟩ := hc
    have hb := Chain.le (fun a b h => h.1.1) hc
    obtain ⟨k, rfl⟩ : ∃ m, k = m + 3 := ⟨k - 3, by omega⟩
    have hi := ih (pre ++ [⟨(a : Int), (b : Int)⟩]) b k (by rw [List.length_append, List.length_singleton]; omega) hc (by omega)
    rw [List.append_assoc, List.singleton_append, List.length_append, List.length_singleton] at hi
    have hab := hH.1
    have h64 := hH.2.1
    simp only [valancelaw07_LinesAll.l0]
    rw [if_pos (by rw [List.length_append, List.length_cons]; omega), if_pos (by omega), rd41_at]
    simp only
    rw [if_pos True.intro, if_neg (by omega), if_neg (by omega), w64 (x := (b : Int) - (a : Int)) (by omega) (by omega), decide_eq_false (by omega)]
    refine lall_j1 l room gap wrap _ _ a b k hl hH hb hF (by omega) ?_
    rw [w64 (by omega) (by omega)]
    exact hi
theorem chain_len {P : Nat → Nat → Prop} (hP : ∀ a b, P a b → a < b) {a c : Nat} {o : List S41} (h : Chain P a o c) : o.length ≤ c - a := by
  induction o generalizing a with
  | nil => exact Nat.zero_le _
  | cons x r ih =>
    obtain ⟨b, _, h1, h2⟩ := h
    have := ih h2
    have := hP _ _ h1
    have := Chain.le hP h2
    rw [List.length_cons]; omega
theorem LinesAll : valancelaw07_LinesAll.Pure := by
  intro l room gap wrap _ _ _ _ _
  refine ⟨1000, ?_⟩
  unfold valancelaw07_LinesAll.f
  rw [lworks]
  simp only [Option.bind_some, if_true]
  refine ite_ (fun _ => rfl) (fun h1 => ?_)
  rw [break_f _ _ _ _ (by omega)]
  simp only [Option.bind_some]
  have hc := vbreak_chain l room gap wrap
  have hn := chain_len (fun a b h => h.1.1) hc
  exact lall_l0 l room gap wrap (by omega) (vbreak l room gap wrap) [] 0 1000 (by rw [List.length_nil]; omega) hc (by omega)
end Go.Proofs.Ytnmcefpnpfaklad.Pure
