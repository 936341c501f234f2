/- Plain facts on rows of nodes that stand in order: what is above what, what lies behind all that is below a node, and which node is picked (of whole numbers and functions alone). -/
import Derived.Test.YtnmcefpnpfaklabVx0
namespace Go.Proofs.Ytnmcefpnpfaklab.Plain

/-- a is x, or above it. -/
inductive Anc (U : Int → Int) : Int → Int → Prop
  | refl (x : Int) : Anc U x x
  | step (x a : Int) : 0 ≤ x → Anc U a (U x) → Anc U a x

theorem Anc.trans {U : Int → Int} {a b c : Int} (h1 : Anc U a b) (h2 : Anc U b c) : Anc U a c := by
  induction h2 with
  | refl x => exact h1
  | step x b hx _ ih => exact .step x a hx (ih h1)

/-- The nodes stand in order. -/
def VL (U : Int → Int) (n : Int) : Prop := ∀ i, 0 ≤ i → i < n → -1 ≤ U i ∧ U i < i ∧ Anc U (U i) (i - 1)

theorem VL.mono {U : Int → Int} {n m : Int} (h : VL U n) (hm : m ≤ n) : VL U m := fun i h0 h1 => h i h0 (by omega)

theorem Anc.le {U : Int → Int} {n a x : Int} (hv : VL U n) (h : Anc U a x) (hx : x < n) : a ≤ x := by
  induction h with
  | refl x => omega
  | step x a h0 _ ih =>
    have := hv x h0 hx
    have := ih (by omega)
    omega

theorem Anc.le' {U : Int → Int} {n a x : Int} (hv : ∀ i, 0 ≤ i → i < n → U i < i) (h : Anc U a x) (hx : x < n) : a ≤ x := by
  induction h with
  | refl x => omega
  | step x a h0 _ ih =>
    have := hv x h0 hx
    have := ih (by omega)
    omega

theorem Anc.inv {U : Int → Int} {a x : Int} (h : Anc U a x) (hne : a ≠ x) : 0 ≤ x ∧ Anc U a (U x) := by
  cases h with
  | refl => exact absurd rfl hne
  | step _ _ h0 h => exact ⟨h0, h⟩

/-- Of two above one the lesser is above the greater. -/
theorem Anc.lin {U : Int → Int} {n a b x : Int} (hv : VL U n) (ha : Anc U a x) (hb : Anc U b x) (hab : a ≤ b) (hx : x < n) : Anc U a b := by
  induction hb with
  | refl x => exact ha
  | step x b h0 hb ih =>
    have hd := hv x h0 hx
    by_cases e : a = x
    · subst e
      have := Anc.le hv hb (by omega)
      have := hd.2.1
      omega
    · exact ih (ha.inv e).2 hab (by omega)

/-- The first place from j on where a node is not below a. -/
structure Beh (U : Int → Int) (n a j r : Int) : Prop where
  lo : j ≤ r
  hi : r ≤ n
  inn : ∀ i, j ≤ i → i < r → a ≤ U i
  out : r < n → U r < a

theorem Beh.uniq {U : Int → Int} {n a j r s : Int} (h : Beh U n a j r) (g : Beh U n a j s) : r = s := by
  rcases Int.lt_trichotomy r s with hlt | he | hlt
  · have := h.out (by have := g.hi; omega)
    have := g.inn r h.lo hlt
    omega
  · exact he
  · have := g.out (by have := h.hi; omega)
    have := h.inn s g.lo hlt
    omega

section
variable {U : Int → Int} {n : Int}

theorem below_all {i b : Int} (hv : VL U n) (h0 : 0 ≤ i) (hb : b ≤ n) (hinn : ∀ j, i + 1 ≤ j → j < b → i ≤ U j) : ∀ (d : Nat) (j : Int), j - i = d → j < b → Anc U i j := by
  intro d
  induction d using Nat.strongRecOn with
  | _ d ih =>
    intro j hd hj
    by_cases e : j = i
    · subst e; exact .refl _
    · have h1 := hinn j (by omega) hj
      have h2 := hv j (by omega) (by omega)
      exact .step j i (by omega) (ih (U j - i).toNat (by omega) (U j) (by omega) (by omega))

/-- Behind all that is below a node nothing is below it. -/
theorem not_below {t e : Int} (hv : VL U n) (he : 0 ≤ e) (hte : t < e) (hout : e < n → U e < t) : ∀ (d : Nat) (j : Int), j - e = d → j < n → ¬ Anc U t j := by
  intro d
  induction d with
  | zero =>
    intro j hd hj h
    obtain rfl : j = e := by omega
    obtain ⟨h0, h⟩ := h.inv (by omega)
    have := Anc.le hv h (by have := (hv j h0 hj).2.1; omega)
    have := hout hj
    omega
  | succ d ih =>
    intro j hd hj h
    obtain ⟨h0, h⟩ := h.inv (by omega)
    exact ih (j - 1) (by omega) (by omega) (h.trans (hv j h0 hj).2.2)

theorem no_child {t e j : Int} (hv : VL U n) (he : 0 ≤ e) (hte : t < e) (hout : e < n → U e < t) (hj : e ≤ j) (hjn : j < n) : U j ≠ t := by
  intro h
  exact not_below hv he hte hout (j - e).toNat j (by omega) hjn (.step j t (by omega) (by rw [h]; exact .refl _))

/-- Behind a node's own there is the next one of the same. -/
theorem next_same {t e i b : Int} (hv : VL U n) (hi : 0 ≤ i) (hit : U i = t) (hen : e ≤ n) (hin : ∀ j, t + 1 ≤ j → j < e → t ≤ U j) (hb : Beh U n i (i + 1) b) (hbe : b < e) : U b = t := by
  have hbn : b < n := by omega
  have h1 := hv b (by have := hb.lo; omega) hbn
  have hti := (hv i hi (by have := hb.lo; omega)).2.1
  have h2 := below_all hv hi hb.hi hb.inn (b - 1 - i).toNat (b - 1) (by have := hb.lo; omega) (by omega)
  have h3 := hb.out hbn
  have h4 := Anc.lin hv h1.2.2 h2 (by omega) (by omega)
  have h5 := (h4.inv (by omega)).2
  rw [hit] at h5
  have h6 := Anc.le hv h5 (by have := hb.lo; omega)
  have h7 := hin b (by have := hb.lo; omega) hbe
  omega
end

/-- The first one that is seen just below u. -/
structure Fvc (U : Int → Int) (n : Int) (vis : Int → Prop) (u i : Int) : Prop where
  lo : 0 ≤ i
  hi : i < n
  up : U i = u
  seen : vis i
  first : ∀ j, 0 ≤ j → j < i → U j = u → ¬ vis j

theorem Fvc.uniq {U : Int → Int} {n : Int} {vis : Int → Prop} {u i j : Int} (h : Fvc U n vis u i) (g : Fvc U n vis u j) : i = j := by
  rcases Int.lt_trichotomy i j with hlt | he | hlt
  · exact absurd h.seen (g.first i h.lo hlt h.up)
  · exact he
  · exact absurd g.seen (h.first j g.lo hlt g.up)

/-- What is picked of those below u. -/
inductive Pk (U : Int → Int) (n : Int) (vis wh : Int → Prop) : Int → Int → Prop
  | none (u : Int) : (∀ i, 0 ≤ i → i < n → U i = u → ¬ vis i) → Pk U n vis wh u (-1)
  | whole (u i : Int) : Fvc U n vis u i → wh i → Pk U n vis wh u i
  | leaf (u i : Int) : Fvc U n vis u i → ¬ wh i → Pk U n vis wh i (-1) → Pk U n vis wh u i
  | deep (u i r : Int) : Fvc U n vis u i → ¬ wh i → Pk U n vis wh i r → 0 ≤ r → Pk U n vis wh u r

section
variable {U : Int → Int} {n : Int} {vis wh : Int → Prop}

theorem Pk.bd {u r : Int} (h : Pk U n vis wh u r) : -1 ≤ r ∧ (r < n ∨ r = -1) := by
  induction h with
  | none u _ => exact ⟨by omega, .inr rfl⟩
  | whole u i hf _ => have := hf.lo; have := hf.hi; exact ⟨by omega, .inl (by omega)⟩
  | leaf u i hf _ _ _ => have := hf.lo; have := hf.hi; exact ⟨by omega, .inl (by omega)⟩
  | deep u i r _ _ _ _ ih => exact ih

theorem Pk.uniq {u r : Int} (h : Pk U n vis wh u r) : ∀ {s : Int}, Pk U n vis wh u s → r = s := by
  induction h with
  | none u hn =>
    intro s g
    cases g with
    | none _ _ => rfl
    | whole _ i hf _ => exact absurd hf.seen (hn _ hf.lo hf.hi hf.up)
    | leaf _ i hf _ _ => exact absurd hf.seen (hn _ hf.lo hf.hi hf.up)
    | deep _ i _ hf _ _ _ => exact absurd hf.seen (hn _ hf.lo hf.hi hf.up)
  | whole u i hf hw =>
    intro s g
    cases g with
    | none _ hn => exact absurd hf.seen (hn _ hf.lo hf.hi hf.up)
    | whole _ j hg _ => exact hf.uniq hg
    | leaf _ j hg hw' _ => exact hf.uniq hg
    | deep _ j _ hg hw' _ _ => obtain rfl := hf.uniq hg; exact absurd hw hw'
  | leaf u i hf hw hp ih =>
    intro s g
    cases g with
    | none _ hn => exact absurd hf.seen (hn _ hf.lo hf.hi hf.up)
    | whole _ j hg _ => exact hf.uniq hg
    | leaf _ j hg hw' _ => exact hf.uniq hg
    | deep _ j _ hg hw' hp' h0 =>
      obtain rfl := hf.uniq hg
      have := ih hp'
      omega
  | deep u i r hf hw hp h0 ih =>
    intro s g
    cases g with
    | none _ hn => exact absurd hf.seen (hn _ hf.lo hf.hi hf.up)
    | whole _ j hg hw' => obtain rfl := hf.uniq hg; exact absurd hw' hw
    | leaf _ j hg hw' hp' =>
      obtain rfl := hf.uniq hg
      have := ih hp'
      omega
    | deep _ j _ hg hw' hp' _ =>
      obtain rfl := hf.uniq hg
      exact ih hp'

/-- What is picked is seen. -/
theorem Pk.seen {u r : Int} (h : Pk U n vis wh u r) (h0 : 0 ≤ r) : vis r := by
  induction h with
  | none u _ => omega
  | whole u i hf _ => exact hf.seen
  | leaf u i hf _ _ _ => exact hf.seen
  | deep u i r _ _ _ h1 ih => exact ih h0

/-- All above what is picked. -/
inductive Chain (U : Int → Int) (n : Int) (vis wh : Int → Prop) : Int → Prop
  | root (x : Int) : x < 0 → Chain U n vis wh x
  | up (x : Int) : Fvc U n vis (U x) x → (0 ≤ U x → vis (U x) ∧ ¬ wh (U x)) → Chain U n vis wh (U x) → Chain U n vis wh x

theorem Pk.chain {u r : Int} (h : Pk U n vis wh u r) (hu : Chain U n vis wh u) (hv : 0 ≤ u → vis u ∧ ¬ wh u) : Chain U n vis wh r := by
  have one : ∀ {u i : Int}, Fvc U n vis u i → Chain U n vis wh u → (0 ≤ u → vis u ∧ ¬ wh u) → Chain U n vis wh i := by
    intro u i hf hu hv
    obtain rfl := hf.up
    exact .up i hf hv hu
  induction h with
  | none u _ => exact .root _ (by omega)
  | whole u i hf _ => exact one hf hu hv
  | leaf u i hf _ _ _ => exact one hf hu hv
  | deep u i r hf hw _ _ ih => exact ih (one hf hu hv) (fun _ => ⟨hf.seen, hw⟩)

/-- One that is not seen is passed over. -/
theorem Pk.of_first {t i : Int} (hf : Fvc U n vis t i) (hw : ¬ wh i) {r : Int} (h : r = i ∧ Pk U n vis wh i (-1) ∨ 0 ≤ r ∧ Pk U n vis wh i r) : 0 ≤ r ∧ Pk U n vis wh t r := by
  rcases h with ⟨rfl, h⟩ | ⟨h0, h⟩
  · exact ⟨hf.lo, .leaf _ _ hf hw h⟩
  · exact ⟨h0, .deep _ _ _ hf hw h h0⟩
end
end Go.Proofs.Ytnmcefpnpfaklab.Plain
