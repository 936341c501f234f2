/- The law LinesAgain holds of the printed functions, for all sizes and whole numbers of 64 bits. -/
import Derived.Test.YtnmcefpnpfakladPlainSeg
import Derived.Test.YtnmcefpnpfakladVx0
import Derived.Test.YtnmcefpnpfakladVx2
import Derived.Test.YtnmcefpnpfakladVx33
import Derived.Test.YtnmcefpnpfakladVx45
namespace Go.Proofs.Ytnmcefpnpfaklad.Pure
open Go.RowKit Go.Proofs.Ytnmcefpnpfaklad.V Go.Proofs.Ytnmcefpnpfaklad.Plain Go.Proofs.YtnmcefpnpfakladW.PrintWords Go.Proofs.YtnmcefpnpfakladW.PrintLast Go.Proofs.YtnmcefpnpfakladW.PrintMore
/-- Where all have room, they are on one line. -/
theorem vbk_one (l : List Int) (room gap : Int) (wrap : Bool) (hn : l.length ≤ 64) (h : ∀ m, 1 < m → m ≤ l.length → wrap = true → vseg l gap 0 m ≤ room) : ∀ k : Nat, k < l.length → vbk l room gap wrap (k + 1) = ([], 0, vseg l gap 0 (k + 1)) := by
  intro k
  induction k with
  | zero =>
    intro _
    show (([] : List S41), 0, vcut (rd l ((0 : Nat) : Int))) = _
    rw [vseg_1]
  | succ k ih =>
    intro hk
    show vbst l room gap wrap (k + 1) (vbk l room gap wrap (k + 1)) = _
    rw [ih (by omega)]
    unfold vbst
    simp only
    rw [if_neg (by omega)]
    have e : vadd (vadd (vseg l gap 0 (k + 1)) gap) (rd l ((k + 1 : Nat) : Int)) = vseg l gap 0 (k + 1 + 1) := by rw [vseg_step l gap 0 (k + 1) (by omega), Nat.zero_add]
    rw [e, if_pos]
    refine ⟨by omega, ?_⟩
    cases wrap with
    | false => exact .inl rfl
    | true => exact .inr (h _ (by omega) (by omega) rfl)
theorem vbreak_one (l : List Int) (room gap : Int) (wrap : Bool) (a b : Nat) (hb : b ≤ l.length) (hH : Held l room gap wrap a b) : (vbreak ((l.take b).drop a) room gap wrap).length = 1 := by
  have e := len_part l a b hb
  have h1 := hH.1
  have h2 := hH.2.1
  rw [vbreak_len _ _ _ _ (by omega)]
  obtain ⟨k, hk⟩ : ∃ k, ((l.take b).drop a).length = k + 1 := ⟨((l.take b).drop a).length - 1, by omega⟩
  rw [hk, vbk_one _ room gap wrap (by omega) (fun m h3 h4 h5 => by rw [vseg_part l gap a b m (by omega)]; exact hH.2.2 m h3 (by omega) h5) k (by omega)]
  rfl
theorem rd_ahead (a b : List Int) (j : Nat) (h : j < a.length) : rd (a ++ b) (j : Int) = rd a (j : Int) := by
  unfold rd
  simp only [Int.toNat_natCast, List.getD_eq_getElem?_getD]
  rw [List.getElem?_append_left h]
theorem vbk_ahead (l more : List Int) (room gap : Int) (wrap : Bool) : ∀ k : Nat, k ≤ l.length → vbk (l ++ more) room gap wrap k = vbk l room gap wrap k := by
  intro k
  induction k with
  | zero => intro _; rfl
  | succ k ih =>
    intro hk
    show vbst (l ++ more) room gap wrap k (vbk (l ++ more) room gap wrap k) = vbst l room gap wrap k (vbk l room gap wrap k)
    rw [ih (by omega)]
    unfold vbst
    rw [rd_ahead l more k (by omega)]
theorem vbk_ext (l : List Int) (room gap : Int) (wrap : Bool) (k j : Nat) : ∃ t, (vbk l room gap wrap (k + j)).1 = (vbk l room gap wrap k).1 ++ t ∧ ((t = [] ∧ (vbk l room gap wrap (k + j)).2.1 = (vbk l room gap wrap k).2.1) ∨ ∃ e r, t = ⟨((vbk l room gap wrap k).2.1 : Nat), e⟩ :: r) := by
  induction j with
  | zero => exact ⟨[], (List.append_nil _).symm, .inl ⟨rfl, rfl⟩⟩
  | succ j ih =>
    obtain ⟨t, h1, h2⟩ := ih
    show ∃ t, (vbst l room gap wrap (k + j) (vbk l room gap wrap (k + j))).1 = _ ∧ ((_ ∧ (vbst l room gap wrap (k + j) (vbk l room gap wrap (k + j))).2.1 = _) ∨ _)
    unfold vbst
    split
    · exact ⟨t, h1, h2⟩
    · split
      · exact ⟨t, h1, h2⟩
      · refine ⟨t ++ [⟨((vbk l room gap wrap (k + j)).2.1 : Nat), ((k + j : Nat) : Int)⟩], ?_, .inr ?_⟩
        · show (vbk l room gap wrap (k + j)).1 ++ _ = _
          rw [h1, List.append_assoc]
        · rcases h2 with ⟨rfl, h2⟩ | ⟨e, r, rfl⟩
          · exact ⟨_, [], by rw [h2]; rfl⟩
          · exact ⟨e, r ++ [⟨((vbk l room gap wrap (k + j)).2.1 : Nat), ((k + j : Nat) : Int)⟩], rfl⟩
theorem vbreak_ahead (l more : List Int) (room gap : Int) (wrap : Bool) (h0 : 0 < l.length) : ∃ o p q t, vbreak l room gap wrap = o ++ [p] ∧ vbreak (l ++ more) room gap wrap = o ++ q :: t ∧ p.f0 = q.f0 := by
  have hl : (l ++ more).length = l.length + more.length := List.length_append
  rw [vbreak_eq l room gap wrap h0, vbreak_eq (l ++ more) room gap wrap (by omega), hl]
  obtain ⟨t, h1, h2⟩ := vbk_ext (l ++ more) room gap wrap l.length more.length
  rw [vbk_ahead l more room gap wrap l.length (Nat.le_refl _)] at h1 h2
  rw [h1]
  rcases h2 with ⟨rfl, h2⟩ | ⟨e, r, rfl⟩
  · exact ⟨_, _, _, [], rfl, by rw [List.append_nil], by rw [h2]⟩
  · exact ⟨_, _, ⟨((vbk l room gap wrap l.length).2.1 : Nat), e⟩, r ++ [⟨((vbk (l ++ more) room gap wrap (l.length + more.length)).2.1 : Nat), ((l.length + more.length : Nat) : Int)⟩], rfl, by rw [List.append_assoc]; rfl, rfl⟩
theorem rd41_ahead (o s : List S41) (i : Nat) (h : i < o.length) : rd_T41 (o ++ s) (i : Int) = rd_T41 o (i : Int) := by
  unfold rd_T41
  simp only [Int.toNat_natCast, List.getD_eq_getElem?_getD]
  rw [List.getElem?_append_left h]
theorem lagain_l1 (o t : List S41) (p q : S41) (hpq : p.f0 = q.f0) (ho : o.length ≤ 1000) : ∀ (d i k : Nat), d = o.length - i → i ≤ o.length → d + 1 ≤ k → valancelaw07_LinesAgain.l1 k true (o ++ [p]) (o ++ q :: t) (i : Int) = some true := by
  intro d
  have e1 : (o ++ [p]).length = o.length + 1 := by rw [List.length_append]; rfl
  have e2 : (o ++ q :: t).length = o.length + (t.length + 1) := by rw [List.length_append]; rfl
  induction d with
  | zero =>
    intro i k hd hi hk
    obtain ⟨k, rfl⟩ : ∃ m, k = m + 1 := ⟨k - 1, by omega⟩
    obtain rfl : i = o.length := by omega
    simp only [valancelaw07_LinesAgain.l1]
    rw [w64 (x := (o.length : Int) + 1) (by omega) (by omega), if_neg (by omega), if_pos True.intro, if_neg (by omega), w64 (by omega) (by omega), if_pos (by omega), if_pos (by omega), if_pos (by omega), show ((o ++ [p]).length : Int) - 1 = (o.length : Int) by omega, rd41_at, rd41_at, hpq, beq_self_eq_true]
  | succ d ih =>
    intro i k hd hi hk
    obtain ⟨k, rfl⟩ : ∃ m, k = m + 1 := ⟨k - 1, by omega⟩
    simp only [valancelaw07_LinesAgain.l1]
    rw [w64 (x := (i : Int) + 1) (by omega) (by omega), if_pos (by omega), if_pos (by omega), if_pos (by omega), if_pos (by omega), rd41_ahead o [p] i (by omega), rd41_ahead o (q :: t) i (by omega), if_neg (by simp)]
    exact ih (i + 1) k (by omega) (by omega) (by omega)
theorem lagain_l0 (l more : List Int) (room gap : Int) (wrap : Bool) (hl : l.length ≤ 60) (hm : more.length ≤ 60) : ∀ (suf pre : List S41) (a k : Nat), vbreak l room gap wrap = pre ++ suf → pre.length + suf.length ≤ 60 → Chain (fun a b => Held l room gap wrap a b ∧ Full l room gap wrap a b) a suf l.length → suf.length + 200 ≤ k →
    valancelaw07_LinesAgain.l0 k l more room gap wrap true (pre ++ suf) (pre.length : Int) = some true := by
  intro suf
  induction suf with
  | nil =>
    intro pre a k he hp hc hk
    obtain ⟨k, rfl⟩ : ∃ m, k = m + 1 := ⟨k - 1, by omega⟩
    simp only [valancelaw07_LinesAgain.l0]
    rw [List.append_nil] at he ⊢
    rw [List.length_nil] at hk hp
    have hlm : (l ++ more).length = l.length + more.length := List.length_append
    rw [if_neg (by omega)]
    simp only [List.nil_append, List.length_nil, Nat.zero_add, Option.bind_some]
    rw [if_pos (by omega), if_pos (by omega), break_f _ _ _ _ (by omega)]
    simp only [Option.bind_some]
    rcases Nat.eq_zero_or_pos l.length with h0 | h0
    · obtain rfl := List.eq_nil_of_length_eq_zero h0
      obtain rfl : pre = [] := he.symm
      rw [if_neg (by rw [List.length_nil]; omega)]
      obtain ⟨k, rfl⟩ : ∃ m, k = m + 1 := ⟨k - 1, by omega⟩
      simp only [valancelaw07_LinesAgain.l1]
      rw [w64 (by omega) (by omega), if_neg (by rw [List.length_nil]; omega), if_pos True.intro, if_pos (show ((([] : List S41).length : Nat) : Int) = 0 from rfl)]
    · obtain ⟨o, p, q, t, h1, h2, h3⟩ := vbreak_ahead l more room gap wrap h0
      rw [he] at h1
      rw [h1] at hp ⊢
      rw [h2, if_neg (by rw [List.length_append, List.length_append, List.length_cons, List.length_singleton]; omega)]
      rw [List.length_append, List.length_singleton] at hp
      exact lagain_l1 o t p q h3 (by omega) o.length 0 k (by omega) (by omega) (by omega)
  | cons x r ih =>
    intro pre a k he hp hc hk
    rw [List.length_cons] at hk hp
    obtain ⟨b, rfl, ⟨hH, hF⟩, hc⟩ := hc
    have hb := Chain.le (fun a b h => h.1.1) hc
    obtain ⟨k, rfl⟩ : ∃ m, k = m + 1 := ⟨k - 1, by omega⟩
    have hi := ih (pre ++ [⟨(a : Int), (b : Int)⟩]) b k (by rw [he, List.append_assoc]; rfl) (by rw [List.length_append, List.length_singleton]; omega) hc (by omega)
    rw [List.append_assoc, List.singleton_append, List.length_append, List.length_singleton] at hi
    have hab := hH.1
    simp only [valancelaw07_LinesAgain.l0]
    rw [if_pos (by rw [List.length_append, List.length_cons]; omega), if_pos (by omega), rd41_at]
    simp only
    rw [if_pos (by omega), if_pos (by omega), if_pos (by omega), Int.toNat_natCast, Int.toNat_natCast, break_f _ _ _ _ (by rw [len_part l a b hb]; omega)]
    simp only [Option.bind_some]
    rw [vbreak_one l room gap wrap a b hb hH, if_pos (by omega), w64 (by omega) (by omega)]
    exact hi
theorem chain_len {P : Nat → Nat → Prop} (hP : ∀ a b, P a b → a < b) {a c : Nat} {o : List S41} (h : Chain P a o c) : o.length ≤ c - a := by
  induction o generalizing a with
  | nil => exact Nat.zero_le _
  | cons x r ih =>
    obtain ⟨b, _, h1, h2⟩ := h
    have := ih h2
    have := hP _ _ h1
    have := Chain.le hP h2
    rw [List.length_cons]; omega
set_option maxRecDepth 100000 in
theorem LinesAgain : valancelaw07_LinesAgain.Pure := by
  intro l more room gap wrap _ _ _ _ _ _ _ _
  refine ⟨1000, ?_⟩
  unfold valancelaw07_LinesAgain.f
  rw [lworks]
  simp only [Option.bind_some, if_true]
  have yes : valancelaw07_LinesAgain.j0 1000 l more room gap wrap true true = some true := by simp only [valancelaw07_LinesAgain.j0]; rfl
  refine ite_ (fun _ => yes) (fun h1 => ?_)
  by_cases h8 : (more.length : Int) > 60
  · rw [decide_eq_true h8]; exact yes
  rw [decide_eq_false h8]
  simp only [valancelaw07_LinesAgain.j0, Bool.false_eq_true, if_false]
  rw [break_f _ _ _ _ (by omega)]
  simp only [Option.bind_some]
  have hc := vbreak_chain l room gap wrap
  have hn := chain_len (fun a b h => h.1.1) hc
  have h := lagain_l0 l more room gap wrap (by omega) (by omega) (vbreak l room gap wrap) [] 0 999 (List.nil_append _).symm (by rw [List.length_nil]; omega) hc (by omega)
  rw [List.nil_append] at h
  exact h
end Go.Proofs.Ytnmcefpnpfaklad.Pure
