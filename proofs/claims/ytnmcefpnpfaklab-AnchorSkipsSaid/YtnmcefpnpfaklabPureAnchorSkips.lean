/- The law AnchorSkips holds of the printed functions, for all rows of nodes and all spans of whole numbers of 64 bits. -/
import Derived.Test.YtnmcefpnpfaklabPlainWorks
import Derived.Test.YtnmcefpnpfaklabVx34
namespace Go.Proofs.Ytnmcefpnpfaklab.Pure
open Go.RowKit Go.Proofs.Ytnmcefpnpfaklab.V Go.Proofs.Ytnmcefpnpfaklab.Plain Go.Proofs.YtnmcefpnpfaklabW.PrintWords Go.Proofs.YtnmcefpnpfaklabW.PrintLast Go.Proofs.YtnmcefpnpfaklabW.PrintMore

/-- Which nodes are kept: where each of the first i stands (p; -1: it is gone), which each of the c kept ones was (b), and what it is below (um). -/
structure Kp (U : Int → Int) (sk : Int → Prop) (i c : Int) (p b um : Int → Int) : Prop where
  cle : 0 ≤ c ∧ c ≤ i
  back : ∀ j, 0 ≤ j → j < c → 0 ≤ b j ∧ b j < i ∧ p (b j) = j
  fwd : ∀ x, 0 ≤ x → x < i → p x = -1 ∨ (0 ≤ p x ∧ p x < c ∧ b (p x) = x)
  mono : ∀ j j', 0 ≤ j → j < j' → j' < c → b j < b j'
  gone : ∀ x, 0 ≤ x → x < i → (p x = -1 ↔ sk x ∨ (0 ≤ U x ∧ p (U x) = -1))
  node : ∀ j, 0 ≤ j → j < c → um j = if 0 ≤ U (b j) then p (U (b j)) else -1

theorem Kp.skip {U : Int → Int} {sk : Int → Prop} {i c : Int} {p b um p' : Int → Int} (h : Kp U sk i c p b um) (h0 : 0 ≤ i) (hU : ∀ x, 0 ≤ x → x ≤ i → U x < x)
    (hp : ∀ x, 0 ≤ x → x < i → p' x = p x) (hi : p' i = -1) (hg : sk i ∨ (0 ≤ U i ∧ p (U i) = -1)) : Kp U sk (i + 1) c p' b um where
  cle := ⟨h.cle.1, by have := h.cle.2; omega⟩
  back j g0 g1 := by
    obtain ⟨a1, a2, a3⟩ := h.back j g0 g1
    exact ⟨a1, by omega, by rw [hp _ a1 a2, a3]⟩
  fwd x g0 g1 := by
    by_cases e : x = i
    · subst e; exact .inl hi
    · rw [hp x g0 (by omega)]; exact h.fwd x g0 (by omega)
  mono := h.mono
  gone x g0 g1 := by
    by_cases e : x = i
    · subst e
      refine ⟨fun _ => hg.imp id (fun z => ⟨z.1, by rw [hp _ z.1 (hU x g0 (by omega))]; exact z.2⟩), fun _ => hi⟩
    · rw [hp x g0 (by omega), h.gone x g0 (by omega)]
      have hu := hU x g0 (by omega)
      constructor
      · rintro (z | ⟨z1, z2⟩)
        · exact .inl z
        · exact .inr ⟨z1, by rw [hp _ z1 (by omega)]; exact z2⟩
      · rintro (z | ⟨z1, z2⟩)
        · exact .inl z
        · exact .inr ⟨z1, by rw [hp _ z1 (by omega)] at z2; exact z2⟩
  node j g0 g1 := by
    rw [h.node j g0 g1]
    obtain ⟨a1, a2, a3⟩ := h.back j g0 g1
    have hu := hU (b j) a1 (by omega)
    split
    · rename_i z; rw [hp _ z (by omega)]
    · rfl

theorem Kp.keep {U : Int → Int} {sk : Int → Prop} {i c : Int} {p b um p' b' um' : Int → Int} (h : Kp U sk i c p b um) (h0 : 0 ≤ i) (hU : ∀ x, 0 ≤ x → x ≤ i → U x < x)
    (hp : ∀ x, 0 ≤ x → x < i → p' x = p x) (hi : p' i = c) (hb : ∀ j, 0 ≤ j → j < c → b' j = b j) (hc : b' c = i) (hm : ∀ j, 0 ≤ j → j < c → um' j = um j) (hmc : um' c = if 0 ≤ U i then p (U i) else -1)
    (hg : ¬ (sk i ∨ (0 ≤ U i ∧ p (U i) = -1))) : Kp U sk (i + 1) (c + 1) p' b' um' where
  cle := ⟨by have := h.cle.1; omega, by have := h.cle.2; omega⟩
  back j g0 g1 := by
    by_cases e : j = c
    · subst e; rw [hc]; exact ⟨h0, by omega, hi⟩
    · obtain ⟨a1, a2, a3⟩ := h.back j g0 (by omega)
      rw [hb j g0 (by omega)]
      exact ⟨a1, by omega, by rw [hp _ a1 a2, a3]⟩
  fwd x g0 g1 := by
    by_cases e : x = i
    · subst e; rw [hi]; exact .inr ⟨h.cle.1, by omega, hc⟩
    · rw [hp x g0 (by omega)]
      rcases h.fwd x g0 (by omega) with z | ⟨z1, z2, z3⟩
      · exact .inl z
      · exact .inr ⟨z1, by omega, by rw [hb _ z1 z2, z3]⟩
  mono j j' g0 g1 g2 := by
    rw [hb j g0 (by omega)]
    by_cases e : j' = c
    · subst e; rw [hc]; exact (h.back j g0 (by omega)).2.1
    · rw [hb j' (by omega) (by omega)]; exact h.mono j j' g0 g1 (by omega)
  gone x g0 g1 := by
    by_cases e : x = i
    · subst e
      have := h.cle.1
      refine ⟨fun z => by omega, fun z => absurd (z.imp id (fun z => ⟨z.1, ?_⟩)) hg⟩
      rw [← hp _ z.1 (hU x g0 (by omega))]; exact z.2
    · rw [hp x g0 (by omega), h.gone x g0 (by omega)]
      have hu := hU x g0 (by omega)
      constructor
      · rintro (z | ⟨z1, z2⟩)
        · exact .inl z
        · exact .inr ⟨z1, by rw [hp _ z1 (by omega)]; exact z2⟩
      · rintro (z | ⟨z1, z2⟩)
        · exact .inl z
        · exact .inr ⟨z1, by rw [hp _ z1 (by omega)] at z2; exact z2⟩
  node j g0 g1 := by
    by_cases e : j = c
    · subst e
      rw [hmc, hc]
      split
      · rename_i z; rw [hp _ z (hU i h0 (by omega))]
      · rfl
    · rw [hm j g0 (by omega), hb j g0 (by omega), h.node j g0 (by omega)]
      obtain ⟨a1, a2, a3⟩ := h.back j g0 (by omega)
      have hu := hU (b j) a1 (by omega)
      split
      · rename_i z; rw [hp _ z (by omega)]
      · rfl

section
variable {U : Int → Int} {sk : Int → Prop} {n c : Int} {p b um : Int → Int}
def qf (p : Int → Int) (u : Int) : Int := if 0 ≤ u then p u else -1
/-- The root, or one that is kept. -/
def Kept (p : Int → Int) (n u : Int) : Prop := u = -1 ∨ 0 ≤ u ∧ u < n ∧ 0 ≤ p u

theorem Kp.le_iff (h : Kp U sk n c p b um) {j j' : Int} (h0 : 0 ≤ j) (h1 : j < c) (h2 : 0 ≤ j') (h3 : j' < c) : b j ≤ b j' ↔ j ≤ j' := by
  rcases Int.lt_trichotomy j j' with g | g | g
  · have := h.mono j j' h0 g h3; omega
  · subst g; omega
  · have := h.mono j' j h2 g h1; omega
theorem Kp.kept_in (h : Kp U sk n c p b um) {u : Int} (h0 : 0 ≤ u) (hn : u < n) (hk : 0 ≤ p u) : p u < c ∧ b (p u) = u := by
  rcases h.fwd u h0 hn with z | ⟨_, z2, z3⟩
  · omega
  · exact ⟨z2, z3⟩
theorem Kp.up (h : Kp U sk n c p b um) (hv : VL U n) {x : Int} (h0 : 0 ≤ x) (hn : x < n) (hk : 0 ≤ p x) : Kept p n (U x) ∧ um (p x) = qf p (U x) := by
  obtain ⟨h1, h2⟩ := h.kept_in h0 hn hk
  have hU := hv x h0 hn
  have hg := h.gone x h0 hn
  refine ⟨?_, ?_⟩
  · by_cases e : 0 ≤ U x
    · right
      refine ⟨e, by omega, ?_⟩
      rcases h.fwd (U x) e (by omega) with z | z
      · have := hg.2 (.inr ⟨e, z⟩); omega
      · exact z.1
    · left; omega
  · rw [h.node (p x) hk h1, h2]; rfl
theorem Kp.q_inj (h : Kp U sk n c p b um) {u v : Int} (hu : Kept p n u) (hv : Kept p n v) (e : qf p u = qf p v) : u = v := by
  unfold qf at e
  rcases hu with rfl | ⟨u0, u1, u2⟩ <;> rcases hv with rfl | ⟨v0, v1, v2⟩
  · rfl
  · rw [if_neg (by omega), if_pos v0] at e; omega
  · rw [if_pos u0, if_neg (by omega)] at e; omega
  · rw [if_pos u0, if_pos v0] at e
    have h1 := (h.kept_in u0 u1 u2).2
    have h2 := (h.kept_in v0 v1 v2).2
    rw [e] at h1; omega
theorem Kp.q_le (h : Kp U sk n c p b um) {u : Int} (hu : Kept p n u) {j : Int} (h0 : 0 ≤ j) (h1 : j < c) : b j ≤ u ↔ j ≤ qf p u := by
  unfold qf
  rcases hu with rfl | ⟨u0, u1, u2⟩
  · rw [if_neg (by omega)]
    have := (h.back j h0 h1).1
    omega
  · rw [if_pos u0]
    obtain ⟨g1, g2⟩ := h.kept_in u0 u1 u2
    rw [← h.le_iff h0 h1 u2 g1, g2]

/-- What is above stays above. -/
theorem Kp.anc (h : Kp U sk n c p b um) (hv : VL U n) {a : Int} (ha : Kept p n a) : ∀ (d : Nat) (x : Int), x + 1 = d → x < n → Anc U a x → ∀ j', -1 ≤ j' → j' < c → (∀ j, 0 ≤ j → j < c → (b j ≤ x ↔ j ≤ j')) → Anc um (qf p a) j' := by
  intro d
  induction d using Nat.strongRecOn with
  | _ d ih =>
    intro x hd hx hA j' hj0 hj1 hj
    by_cases h0 : 0 ≤ x
    · have hU := hv x h0 hx
      rcases h.fwd x h0 hx with hg | ⟨k0, k1, k2⟩
      · have hne : a ≠ x := by
          rintro rfl
          rcases ha with e | ⟨_, _, e⟩ <;> omega
        have h1 := (hA.inv hne).2.trans hU.2.2
        refine ih (x - 1 + 1).toNat (by omega) (x - 1) (by omega) (by omega) h1 j' hj0 hj1 (fun j g0 g1 => ?_)
        rw [← hj j g0 g1]
        have h2 := h.back j g0 g1
        have : b j ≠ x := fun e => by rw [e] at h2; omega
        omega
      · have e1 : j' = p x := by
          have g1 := (hj (p x) k0 k1).1 (by omega)
          have g2 := (hj j' (by omega) hj1).2 (by omega)
          have g3 := (h.le_iff (by omega) hj1 k0 k1).1 (by rw [k2]; exact g2)
          omega
        subst e1
        by_cases e : a = x
        · subst e
          unfold qf; rw [if_pos h0]; exact .refl _
        · have hup := h.up hv h0 hx k0
          refine .step _ _ k0 ?_
          rw [hup.2]
          refine ih (U x + 1).toNat (by omega) (U x) (by omega) (by omega) (hA.inv e).2 _ ?_ ?_ (fun j g0 g1 => h.q_le hup.1 g0 g1)
          · unfold qf
            rcases hup.1 with e | ⟨e1, _, e2⟩
            · rw [if_neg (by omega)]; omega
            · rw [if_pos e1]; omega
          · unfold qf
            rcases hup.1 with e | ⟨e1, e3, e2⟩
            · rw [if_neg (by omega)]; omega
            · rw [if_pos e1]; exact (h.kept_in e1 e3 e2).1
    · have : a = x := by
        by_cases e : a = x
        · exact e
        · exact absurd (hA.inv e).1 h0
      subst this
      have e2 : j' = -1 := by
        by_cases g : j' = -1
        · exact g
        · have g2 := (hj j' (by omega) hj1).2 (by omega)
          have := (h.back j' (by omega) hj1).1
          omega
      subst e2
      unfold qf; rw [if_neg h0]; exact .refl _

theorem Kp.valid (h : Kp U sk n c p b um) (hv : VL U n) : VL um c := by
  intro j h0 h1
  obtain ⟨b0, b1, b2⟩ := h.back j h0 h1
  have hU := hv (b j) b0 b1
  have hup := h.up hv b0 b1 (by omega)
  rw [b2] at hup
  rw [hup.2]
  refine ⟨?_, ?_, ?_⟩
  · unfold qf
    rcases hup.1 with e | ⟨e1, _, e2⟩
    · rw [if_neg (by omega)]; omega
    · rw [if_pos e1]; omega
  · have := h.q_le hup.1 h0 h1
    omega
  · refine h.anc hv hup.1 (b j - 1 + 1).toNat (b j - 1) (by omega) (by omega) hU.2.2 (j - 1) (by omega) (by omega) (fun j0 g0 g1 => ?_)
    have := h.le_iff h0 h1 g0 g1
    omega

theorem Kp.pk (h : Kp U sk n c p b um) (hv : VL U n) {vis wh vm wm : Int → Prop} (hvis : ∀ x, vis x → ¬ sk x) (hvm : ∀ j, 0 ≤ j → j < c → (vm j ↔ vis (b j))) (hwm : ∀ j, 0 ≤ j → j < c → (wm j ↔ wh (b j)))
    {u r : Int} (hp : Pk U n vis wh u r) : Kept p n u → Pk um c vm wm (qf p u) (qf p r) ∧ Kept p n r := by
  have child : ∀ {u j : Int}, Kept p n u → 0 ≤ j → j < c → um j = qf p u → U (b j) = u := by
    intro u j hu h0 h1 e
    obtain ⟨b0, b1, b2⟩ := h.back j h0 h1
    have hup := h.up hv b0 b1 (by omega)
    rw [b2] at hup
    exact h.q_inj hup.1 hu (hup.2.symm.trans e)
  have fvc : ∀ {u i : Int}, Kept p n u → Fvc U n vis u i → (0 ≤ p i ∧ b (p i) = i ∧ p i < c) ∧ Fvc um c vm (qf p u) (p i) := by
    intro u i hu hf
    have hk : 0 ≤ p i := by
      rcases h.fwd i hf.lo hf.hi with z | z
      · rcases (h.gone i hf.lo hf.hi).1 z with s | ⟨s1, s2⟩
        · exact absurd s (hvis i hf.seen)
        · rw [hf.up] at s1 s2
          rcases hu with e | ⟨_, _, e⟩ <;> omega
      · exact z.1
    obtain ⟨g1, g2⟩ := h.kept_in hf.lo hf.hi hk
    refine ⟨⟨hk, g2, g1⟩, hk, g1, ?_, ?_, fun j j0 j1 je hj => ?_⟩
    · rw [(h.up hv hf.lo hf.hi hk).2, hf.up]
    · rw [hvm _ hk g1, g2]; exact hf.seen
    · have e1 := child hu j0 (by omega) je
      have e2 := h.mono j (p i) j0 j1 g1
      rw [g2] at e2
      exact hf.first (b j) (h.back j j0 (by omega)).1 e2 e1 ((hvm j j0 (by omega)).1 hj)
  induction hp with
  | none u hn =>
    intro hu
    refine ⟨.none _ (fun j j0 j1 je hj => ?_), .inl rfl⟩
    have hb := h.back j j0 j1
    exact hn (b j) hb.1 hb.2.1 (child hu j0 j1 je) ((hvm j j0 j1).1 hj)
  | whole u i hf hw =>
    intro hu
    obtain ⟨⟨g1, g2, g3⟩, hf'⟩ := fvc hu hf
    have e : qf p i = p i := if_pos hf.lo
    rw [e]
    exact ⟨.whole _ _ hf' ((hwm _ g1 g3).2 (by rw [g2]; exact hw)), .inr ⟨hf.lo, hf.hi, g1⟩⟩
  | leaf u i hf hw _ ih =>
    intro hu
    obtain ⟨⟨g1, g2, g3⟩, hf'⟩ := fvc hu hf
    have e : qf p i = p i := if_pos hf.lo
    have := (ih (.inr ⟨hf.lo, hf.hi, g1⟩)).1
    rw [e] at this ⊢
    exact ⟨.leaf _ _ hf' (fun z => hw (by have := (hwm _ g1 g3).1 z; rw [g2] at this; exact this)) this, .inr ⟨hf.lo, hf.hi, g1⟩⟩
  | deep u i r hf hw _ h0 ih =>
    intro hu
    obtain ⟨⟨g1, g2, g3⟩, hf'⟩ := fvc hu hf
    have e : qf p i = p i := if_pos hf.lo
    obtain ⟨a1, a2⟩ := ih (.inr ⟨hf.lo, hf.hi, g1⟩)
    rw [e] at a1
    refine ⟨.deep _ _ _ hf' (fun z => hw (by have := (hwm _ g1 g3).1 z; rw [g2] at this; exact this)) a1 ?_, a2⟩
    unfold qf; rw [if_pos h0]
    rcases a2 with e | ⟨_, _, e⟩ <;> omega
end

theorem rd_set_ne (P : List Int) (i : Nat) (v x : Int) (h0 : 0 ≤ x) (h : x ≠ i) : rd (P.set i v) x = rd P x := by
  unfold rd
  rw [List.getD_eq_getElem?_getD, List.getD_eq_getElem?_getD, List.getElem?_set_ne (by omega)]
theorem rd_set_eq (P : List Int) (i : Nat) (v : Int) (h : i < P.length) : rd (P.set i v) (i : Int) = v := by
  unfold rd
  rw [List.getD_eq_getElem?_getD, Int.toNat_natCast, List.getElem?_set_self h]; rfl
theorem rd_app_lt (B : List Int) (v x : Int) (h0 : 0 ≤ x) (h : x < B.length) : rd (B ++ [v]) x = rd B x := by
  unfold rd
  rw [List.getD_eq_getElem?_getD, List.getD_eq_getElem?_getD, List.getElem?_append_left (by omega)]
theorem rd_app_eq (B : List Int) (v : Int) : rd (B ++ [v]) (B.length : Int) = v := by
  unfold rd
  simp [List.getD_eq_getElem?_getD]
theorem rdn_app_lt (m : List S56) (y : S56) (x : Int) (h0 : 0 ≤ x) (h : x < m.length) : rd_T56 (m ++ [y]) x = rd_T56 m x := by
  unfold rd_T56
  rw [List.getD_eq_getElem?_getD, List.getD_eq_getElem?_getD, List.getElem?_append_left (by omega)]
theorem rdn_app_eq (m : List S56) (y : S56) : rd_T56 (m ++ [y]) (m.length : Int) = y := by
  unfold rd_T56
  simp [List.getD_eq_getElem?_getD]

def skf (l : List S56) (x : Int) : Prop := (rd_T56 l x).f2 = true

theorem skips_end (l : List S56) (hn : l.length ≤ 60) (p q : Int) (hv : VL (Uf l) l.length) (m : List S56) (P B : List Int) (hB : B.length = m.length)
    (hK : Kp (Uf l) (skf l) l.length m.length (rd P) (rd B) (Uf m)) (hF : ∀ j : Int, 0 ≤ j → j < m.length → (rd_T56 m j).f2 = false ∧ (rd_T56 m j).f1 = (rd_T56 l (rd B j)).f1) (k : Nat) (hk : 300 < k) :
    ∃ a b, anchor_Pick.f k l p q = some a ∧ anchor_Pick.f k m p q = some b ∧ b < B.length ∧ (a = -1 ∧ b = -1 ∨ 0 ≤ a ∧ 0 ≤ b ∧ rd B b = a) := by
  have hc := hK.cle.2
  obtain ⟨a, ha, ha1, _⟩ := pick_tells l (by omega) p q k (by omega)
  obtain ⟨b, hb, hb1, _⟩ := pick_tells m (by omega) p q k (by omega)
  have hpa := ha1 hv
  have hpb := hb1 (hK.valid hv)
  have hnot : ∀ j : Int, 0 ≤ j → j < m.length → (rd_T56 l (rd B j)).f2 = false := by
    intro j g0 g1
    obtain ⟨a1, a2, a3⟩ := hK.back j g0 g1
    have hg := hK.gone _ a1 a2
    cases e : (rd_T56 l (rd B j)).f2
    · rfl
    · have := hg.2 (.inl e); omega
  obtain ⟨h1, h2⟩ := hK.pk hv (vis := visf l p q) (wh := whf l p q) (vm := visf m p q) (wm := whf m p q) (fun x hx hs => by have e := hx.1; rw [show (rd_T56 l x).f2 = true from hs] at e; cases e)
    (fun j g0 g1 => by unfold visf; rw [(hF j g0 g1).1, (hF j g0 g1).2, hnot j g0 g1]) (fun j g0 g1 => by unfold whf; rw [(hF j g0 g1).2]) hpa (.inl rfl)
  have e := hpb.uniq h1
  have hbd := hpa.bd
  refine ⟨a, b, ha, hb, ?_, ?_⟩
  · rw [hB, e]; unfold qf
    rcases h2 with z | ⟨z1, z2, z3⟩
    · rw [if_neg (by omega)]; omega
    · rw [if_pos z1]; exact (hK.kept_in z1 z2 z3).1
  · rw [e]; unfold qf
    rcases h2 with z | ⟨z1, z2, z3⟩
    · left; rw [if_neg (by omega)]; exact ⟨z, rfl⟩
    · right; rw [if_pos z1]; exact ⟨z1, z3, (hK.kept_in z1 z2 z3).2⟩

theorem skips_l0 (l : List S56) (hn : l.length ≤ 60) (p q : Int) (hv : VL (Uf l) l.length) : ∀ (d i k : Nat) (m : List S56) (P B : List Int), i + d = l.length → P.length = l.length → B.length = m.length →
    Kp (Uf l) (skf l) i m.length (rd P) (rd B) (Uf m) → (∀ j : Int, 0 ≤ j → j < m.length → (rd_T56 m j).f2 = false ∧ (rd_T56 m j).f1 = (rd_T56 l (rd B j)).f1) → 2 * d + 310 < k →
    valancelaw12_AnchorSkips.l0 k l true m P B i p q = some true := by
  intro d
  induction d with
  | zero =>
    intro i k m P B hd hP hB hK hF hk
    obtain ⟨k, rfl⟩ : ∃ m, k = m + 1 := ⟨k - 1, by omega⟩
    simp only [valancelaw12_AnchorSkips.l0]
    rw [if_neg (by omega)]
    obtain rfl : i = l.length := by omega
    obtain ⟨a, b, ha, hb, hlt, h⟩ := skips_end l hn p q hv m P B hB hK hF k (by omega)
    rw [ha, hb]
    simp only [Option.bind_some, if_true]
    rw [if_neg (by omega)]
    rcases h with ⟨rfl, rfl⟩ | ⟨h1, h2, h3⟩
    · rfl
    · rw [if_neg (by omega), if_pos h1, if_pos h2, if_pos h2, if_pos hlt, h3]; simp
  | succ d ih =>
    intro i k m P B hd hP hB hK hF hk
    obtain ⟨k, rfl⟩ : ∃ m, k = m + 2 := ⟨k - 2, by omega⟩
    have hUi := hv i (by omega) (by omega)
    have hU : ∀ x : Int, 0 ≤ x → x ≤ i → Uf l x < x := fun x g0 g1 => (hv x g0 (by omega)).2.1
    have hset : ∀ x : Int, 0 ≤ x → x < i → rd (P.set i (-1)) x = rd P x := fun x g0 g1 => rd_set_ne P i (-1) x g0 (by omega)
    have gone : (skf l i ∨ (0 ≤ Uf l i ∧ rd P (Uf l i) = -1)) → valancelaw12_AnchorSkips.j2 (k + 1) l true m (P.set i (-1)) B i true p q = some true := by
      intro hg
      simp only [valancelaw12_AnchorSkips.j2]
      rw [if_pos trivial, wrap_id (by omega) (by omega)]
      exact ih (i + 1) k m (P.set i (-1)) B (by omega) (by rw [List.length_set]; exact hP) hB (hK.skip (by omega) hU hset (rd_set_eq P i (-1) (by omega)) hg) hF (by omega)
    have hml : m.length ≤ i := by have := hK.cle.2; omega
    have keep : ¬ (skf l i ∨ (0 ≤ Uf l i ∧ rd P (Uf l i) = -1)) → valancelaw12_AnchorSkips.j2 (k + 1) l true m (P.set i (-1)) B i false p q = some true := by
      intro hg
      have step : ∀ u : Int, u = (if 0 ≤ Uf l i then rd P (Uf l i) else -1) → valancelaw12_AnchorSkips.l0 k l true (m ++ [(⟨u, (⟨(rd_T56 l i).f1.f0, (rd_T56 l i).f1.f1⟩ : S23), false⟩ : S56)]) ((P.set i (-1)).set i (m.length : Int)) (B ++ [(i : Int)]) ((i : Int) + 1) p q = some true := by
        intro u hu
        refine ih (i + 1) k _ _ _ (by omega) (by rw [List.length_set, List.length_set]; exact hP) (by rw [List.length_append, List.length_append, hB]; rfl) ?_ ?_ (by omega)
        · have e1 : (((m ++ [(⟨u, (⟨(rd_T56 l i).f1.f0, (rd_T56 l i).f1.f1⟩ : S23), false⟩ : S56)]).length : Nat) : Int) = (m.length : Int) + 1 := by simp
          rw [e1]
          refine hK.keep (by omega) hU (fun x g0 g1 => by rw [rd_set_ne _ i _ x g0 (by omega)]; exact hset x g0 g1) (rd_set_eq _ i _ (by rw [List.length_set]; omega))
            (fun j g0 g1 => rd_app_lt B _ j g0 (by omega)) (by rw [← hB]; exact rd_app_eq B _) (fun j g0 g1 => by unfold Uf; rw [rdn_app_lt m _ j g0 g1]) ?_ hg
          unfold Uf; rw [rdn_app_eq]; exact hu
        · intro j g0 g1
          by_cases e : j = m.length
          · subst e
            rw [rdn_app_eq, ← hB, rd_app_eq]
            exact ⟨rfl, rfl⟩
          · have g2 : j < m.length := by simp at g1; omega
            rw [rdn_app_lt m _ j g0 g2, rd_app_lt B _ j g0 (by omega)]
            exact hF j g0 g2
      simp only [valancelaw12_AnchorSkips.j2, Bool.false_eq_true, if_false]
      rw [if_pos (by omega), if_pos (by omega), wrap_id (by omega) (by omega), show (rd_T56 l (i : Int)).f0 = Uf l i from rfl]
      by_cases h1 : Uf l i ≥ 0
      · rw [if_pos h1, if_pos h1, if_pos (by rw [List.length_set]; omega), if_pos (by rw [List.length_set]; omega), if_pos (by omega), if_pos (by omega), hset _ h1 (by omega)]
        exact step _ (by rw [if_pos h1])
      · rw [if_neg h1, if_pos (by rw [List.length_set]; omega), if_pos (by omega), if_pos (by omega)]
        exact step _ (by rw [if_neg (by omega)])
    simp only [valancelaw12_AnchorSkips.l0]
    rw [if_pos (by omega), if_pos (by omega), if_pos (by omega)]
    simp only [Option.bind_some, Int.toNat_natCast]
    rw [show (rd_T56 l (i : Int)).f0 = Uf l i from rfl]
    by_cases hs : (rd_T56 l i).f2 = true
    · rw [if_pos hs]; exact gone (.inl hs)
    · rw [if_neg hs]
      by_cases h1 : Uf l i ≥ 0
      · rw [if_pos h1, if_pos h1, if_pos (by omega), hset _ h1 (by omega)]
        rcases hK.fwd (Uf l i) h1 (by omega) with z | z
        · rw [decide_eq_true (by omega)]; exact gone (.inr ⟨h1, z⟩)
        · rw [decide_eq_false (by omega)]
          exact keep (fun g => g.elim (fun g => hs g) (fun g => by omega))
      · rw [if_neg h1]
        exact keep (fun g => g.elim (fun g => hs g) (fun g => by omega))

theorem AnchorSkips : valancelaw12_AnchorSkips.Pure := by
  intro l p q _ _ _ _ _
  refine ⟨10000, ?_⟩
  unfold valancelaw12_AnchorSkips.f
  rw [works_eq 10000 (by omega)]
  simp only [Option.bind_some, if_true]
  have yes : valancelaw12_AnchorSkips.j0 10000 l true true p q = some true := by simp only [valancelaw12_AnchorSkips.j0]; rfl
  by_cases hl : (l.length : Int) > 60
  · rw [if_pos hl]; exact yes
  rw [if_neg hl]
  obtain ⟨b, hb1, hb2⟩ := valid_tells l (by omega) 10000 (by omega)
  rw [hb1]
  simp only [Option.bind_some]
  cases b with
  | false => exact yes
  | true =>
    simp only [valancelaw12_AnchorSkips.j0, Bool.not_true, Bool.false_eq_true, if_false]
    rw [if_pos (by omega), if_pos (by omega), Int.toNat_natCast]
    refine skips_l0 l (by omega) p q (hb2.1 rfl) l.length 0 9999 [] _ [] (by omega) (by simp) rfl ?_ (fun j g0 g1 => by simp at g1; omega) (by omega)
    exact ⟨⟨by simp, by simp⟩, (fun j g0 g1 => by simp at g1; omega), (fun x g0 g1 => by simp at g1; omega), (fun j j' g0 g1 g2 => by simp at g2; omega), (fun x g0 g1 => by simp at g1; omega), (fun j g0 g1 => by simp at g1; omega)⟩

end Go.Proofs.Ytnmcefpnpfaklab.Pure
