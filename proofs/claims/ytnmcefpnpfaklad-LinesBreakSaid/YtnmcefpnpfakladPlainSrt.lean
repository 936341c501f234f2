/- Sorting by insertions and by merging rotations: what becomes of an array, in plain words. -/
import Derived.Sort.LotA
namespace Go.Proofs.Ytnmcefpnpfaklad.Srt
open Go.Sort Go.Proofs
variable {α : Type} [Inhabited α]
def swapRng (d : Array α) (a b : Nat) : Nat → Array α
  | 0 => d
  | n + 1 => swp (swapRng d a b n) (a + n) (b + n)
theorem swapRng_size (d : Array α) (a b n : Nat) : (swapRng d a b n).size = d.size := by
  induction n with
  | zero => rfl
  | succ n ih => show (swp _ _ _).size = _; rw [size_swp, ih]
theorem swapRng_get (d : Array α) (a b n : Nat) (h : a + n ≤ b) (hb : b + n ≤ d.size) (k : Nat) :
    (swapRng d a b n)[k]! = if a ≤ k ∧ k < a + n then d[k - a + b]! else if b ≤ k ∧ k < b + n then d[k - b + a]! else d[k]! := by
  induction n generalizing k with
  | zero =>
    show d[k]! = _
    rw [if_neg (by omega), if_neg (by omega)]
  | succ n ih =>
    have hs := swapRng_size d a b n
    show (swp (swapRng d a b n) (a + n) (b + n))[k]! = _
    have i1 := ih (by omega) (by omega)
    by_cases h1 : k = a + n
    · subst h1
      rw [swp_left _ _ _ (by omega) (by omega), i1, if_neg (by omega), if_neg (by omega), if_pos (by omega)]
      congr 1; omega
    · by_cases h2 : k = b + n
      · subst h2
        rw [swp_right _ _ _ (by omega), i1, if_neg (by omega), if_neg (by omega), if_neg (by omega), if_pos (by omega)]
        congr 1; omega
      · rw [swp_other _ _ _ _ h1 h2, i1]
        (repeat' split) <;> first | rfl | omega | (congr 1; omega)
theorem swapRng_perm (d : Array α) (a b n lo hi : Nat) (h1 : lo ≤ a) (h2 : a + n ≤ hi) (h3 : lo ≤ b) (h4 : b + n ≤ hi) (hs : hi ≤ d.size) : PermIn lo hi d (swapRng d a b n) := by
  induction n with
  | zero => exact permIn_refl d lo hi
  | succ n ih => exact permIn_trans _ _ _ _ _ (ih (by omega) (by omega)) (swp_permIn _ _ _ _ _ (by omega) (by omega) (by omega) (by omega) (by rw [swapRng_size]; omega))
/-- d' is d, the places from a to m and those from m to b exchanged. -/
def IsRot (d : Array α) (a m b : Nat) (d' : Array α) : Prop := ∀ k, d'[k]! = if a ≤ k ∧ k < a + (b - m) then d[k - a + m]! else if a + (b - m) ≤ k ∧ k < b then d[k - (b - m)]! else d[k]!
theorem IsRot.left (d d' : Array α) (m i j : Nat) (hi : i ≤ m) (hij : j < i) (hj : 0 < j) (hs : m + j ≤ d.size) (h : IsRot (swapRng d (m - i) m j) (m - (i - j)) m (m + j) d') : IsRot d (m - i) m (m + j) d' := by
  intro k
  rw [h k, swapRng_get d _ _ _ (by omega) (by omega), swapRng_get d _ _ _ (by omega) (by omega), swapRng_get d _ _ _ (by omega) (by omega)]
  (repeat' split) <;> first | rfl | omega | (congr 1; omega)
theorem IsRot.right (d d' : Array α) (m i j : Nat) (hi : i ≤ m) (hij : i < j) (h0 : 0 < i) (hs : m + j ≤ d.size) (h : IsRot (swapRng d (m - i) (m + j - i) i) (m - i) m (m + (j - i)) d') : IsRot d (m - i) m (m + j) d' := by
  intro k
  rw [h k, swapRng_get d _ _ _ (by omega) (by omega), swapRng_get d _ _ _ (by omega) (by omega), swapRng_get d _ _ _ (by omega) (by omega)]
  (repeat' split) <;> first | rfl | omega | (congr 1; omega)
theorem IsRot.same (d : Array α) (m i : Nat) (hi : i ≤ m) (hs : m + i ≤ d.size) : IsRot d (m - i) m (m + i) (swapRng d (m - i) m i) := by
  intro k
  rw [swapRng_get d _ _ _ (by omega) (by omega)]
  (repeat' split) <;> first | rfl | omega | (congr 1; omega)
/-! ### Merging by rotations: plain facts -/
set_option linter.unusedSectionVars false
set_option linter.unusedSectionVars false
/-- Of two that are alike the one with the lesser mark is first. -/
def StI (lt : α → α → Bool) (tb : α → Nat) (d : Array α) : Prop := ∀ i j, i < j → j < d.size → lt d[i]! d[j]! = false → lt d[j]! d[i]! = false → tb d[i]! < tb d[j]!
theorem rot_at {d d' : Array α} {a m b : Nat} (hr : IsRot d a m b d') (ham : a ≤ m) (hmb : m ≤ b) (i j : Nat) (hij : i < j) :
    ∃ p q, d'[i]! = d[p]! ∧ d'[j]! = d[q]! ∧ (q < b ∨ q = j) ∧ (p < q ∨ (a ≤ q ∧ q < m ∧ m ≤ p ∧ p < b)) := by
  rw [hr i, hr j]
  (repeat' split) <;> first | exact ⟨_, _, rfl, rfl, by omega, by omega⟩ | omega
theorem rot_st {lt : α → α → Bool} {tb : α → Nat} {d d' : Array α} {a m b : Nat} (hr : IsRot d a m b d') (ham : a ≤ m) (hmb : m ≤ b) (hb : b ≤ d.size) (hsz : d'.size = d.size)
    (hx : ∀ x y, a ≤ x → x < m → m ≤ y → y < b → lt d[y]! d[x]! = true) (h : StI lt tb d) : StI lt tb d' := by
  intro i j hij hj e1 e2
  obtain ⟨p, q, hp, hq, hqb, hc⟩ := rot_at hr ham hmb i j hij
  rw [hp, hq] at e1 e2 ⊢
  rcases hc with hc | ⟨h1, h2, h3, h4⟩
  · exact h p q hc (by omega) e1 e2
  · rw [hx q p h1 h2 h3 h4] at e1; cases e1
theorem swo_asymm {lt : α → α → Bool} (hS : SWO lt) {x y : α} (h : lt x y = true) : lt y x = false := by
  cases e : lt y x with
  | false => rfl
  | true => have := hS.trans _ _ _ h e; rw [hS.irrefl] at this; cases this
/-- x is not above y. -/
theorem swo_le {lt : α → α → Bool} (hS : SWO lt) {x y z : α} (h1 : lt y x = false) (h2 : lt z y = false) : lt z x = false := hS.ntrans _ _ _ h2 h1
theorem swo_lt_le {lt : α → α → Bool} (hS : SWO lt) {x y z : α} (h1 : lt x y = true) (h2 : lt z y = false) : lt x z = true := by
  cases e : lt x z with
  | true => rfl
  | false => have := hS.ntrans _ _ _ e h2; rw [this] at h1; cases h1
theorem swo_le_lt {lt : α → α → Bool} (hS : SWO lt) {x y z : α} (h1 : lt y x = false) (h2 : lt y z = true) : lt x z = true := by
  cases e : lt x z with
  | true => rfl
  | false => have := hS.ntrans _ _ _ h1 e; rw [this] at h2; cases h2
theorem sorted_le {lt : α → α → Bool} (hS : SWO lt) {a b : Nat} {d : Array α} (h : SortedIn lt a b d) {i j : Nat} (h1 : a ≤ i) (h2 : i ≤ j) (h3 : j < b) : lt d[j]! d[i]! = false := by
  rcases Nat.lt_or_ge i j with h4 | h4
  · exact h i j h1 h4 h3
  · obtain rfl : i = j := by omega
    exact hS.irrefl _
theorem rot_1 {d d' : Array α} {a m b k : Nat} (hr : IsRot d a m b d') (h1 : a ≤ k) (h2 : k < a + (b - m)) : d'[k]! = d[k - a + m]! := by rw [hr k, if_pos ⟨h1, h2⟩]
theorem rot_2 {d d' : Array α} {a m b k : Nat} (hr : IsRot d a m b d') (h1 : a + (b - m) ≤ k) (h2 : k < b) : d'[k]! = d[k - (b - m)]! := by rw [hr k, if_neg (by omega), if_pos ⟨h1, h2⟩]
theorem rot_0 {d d' : Array α} {a m b k : Nat} (hr : IsRot d a m b d') (h1 : k < a ∨ (b ≤ k ∧ a + (b - m) ≤ b)) : d'[k]! = d[k]! := by rw [hr k, if_neg (by omega), if_neg (by omega)]
/-- One element in front of a row: where it belongs. -/
theorem merge_front {lt : α → α → Bool} (hS : SWO lt) {tb : α → Nat} {d d' : Array α} {a b i : Nat} (hb : b ≤ d.size) (hsz : d'.size = d.size) (hai : a + 1 ≤ i) (hib : i ≤ b) (h2 : SortedIn lt (a + 1) b d) (hst : StI lt tb d)
    (hlo : ∀ k, a + 1 ≤ k → k < i → lt d[k]! d[a]! = true) (hhi : ∀ k, i ≤ k → k < b → lt d[k]! d[a]! = false) (hr : IsRot d a (a + 1) i d') : SortedIn lt a b d' ∧ StI lt tb d' := by
  refine ⟨?_, rot_st hr (by omega) (by omega) (by omega) hsz (fun x y e1 e2 e3 e4 => by rw [show x = a by omega]; exact hlo y e3 e4) hst⟩
  intro p q hp hpq hq
  by_cases c1 : p < a + (i - (a + 1))
  · rw [rot_1 hr hp c1]
    by_cases c2 : q < a + (i - (a + 1))
    · rw [rot_1 hr (by omega) c2]
      exact sorted_le hS h2 (by omega) (by omega) (by omega)
    · by_cases c3 : q < i
      · rw [rot_2 hr (by omega) c3, show q - (i - (a + 1)) = a by omega]
        exact swo_asymm hS (hlo _ (by omega) (by omega))
      · rw [rot_0 hr (by omega)]
        exact sorted_le hS h2 (by omega) (by omega) hq
  · by_cases c3 : p < i
    · rw [rot_2 hr (by omega) c3, rot_0 hr (k := q) (by omega), show p - (i - (a + 1)) = a by omega]
      exact hhi _ (by omega) hq
    · rw [rot_0 hr (k := p) (by omega), rot_0 hr (k := q) (by omega)]
      exact sorted_le hS h2 (by omega) (by omega) hq
/-- One element behind a row: where it belongs. -/
theorem merge_back {lt : α → α → Bool} (hS : SWO lt) {tb : α → Nat} {d d' : Array α} {a m i : Nat} (hb : m + 1 ≤ d.size) (hsz : d'.size = d.size) (hai : a ≤ i) (him : i ≤ m) (h1 : SortedIn lt a m d) (hst : StI lt tb d)
    (hlo : ∀ k, a ≤ k → k < i → lt d[m]! d[k]! = false) (hhi : ∀ k, i ≤ k → k < m → lt d[m]! d[k]! = true) (hr : IsRot d i m (m + 1) d') : SortedIn lt a (m + 1) d' ∧ StI lt tb d' := by
  refine ⟨?_, rot_st hr him (by omega) hb hsz (fun x y e1 e2 e3 e4 => by rw [show y = m by omega]; exact hhi x e1 e2) hst⟩
  intro p q hp hpq hq
  by_cases c1 : p < i
  · rw [rot_0 hr (k := p) (by omega)]
    by_cases c2 : q < i
    · rw [rot_0 hr (k := q) (by omega)]
      exact sorted_le hS h1 hp (by omega) (by omega)
    · by_cases c3 : q < i + 1
      · rw [rot_1 hr (k := q) (by omega) (by omega), show q - i + m = m by omega]
        exact hlo _ hp c1
      · rw [rot_2 hr (k := q) (by omega) (by omega)]
        exact sorted_le hS h1 hp (by omega) (by omega)
  · by_cases c3 : p < i + 1
    · rw [rot_1 hr (k := p) (by omega) (by omega), rot_2 hr (k := q) (by omega) (by omega), show p - i + m = m by omega]
      exact swo_asymm hS (hhi _ (by omega) (by omega))
    · rw [rot_2 hr (k := p) (by omega) (by omega), rot_2 hr (k := q) (by omega) (by omega)]
      exact sorted_le hS h1 (by omega) (by omega) (by omega)
/-- The halves behind the rotation. -/
theorem merge_mid {lt : α → α → Bool} (hS : SWO lt) {tb : α → Nat} {d d' : Array α} {a m b s e mid : Nat} (hsz : d'.size = d.size) (hb : b ≤ d.size) (has : a ≤ s) (hsm : s ≤ m) (hme : m ≤ e) (heb : e ≤ b) (hmid : s + e = mid + m)
    (h1 : SortedIn lt a m d) (h2 : SortedIn lt m b d) (hst : StI lt tb d)
    (hq : s < m → m < e → lt d[e - 1]! d[s]! = true) (hn : a < s → e < b → lt d[e]! d[s - 1]! = false) (hr : IsRot d s m e d') :
    SortedIn lt a s d' ∧ SortedIn lt s mid d' ∧ SortedIn lt mid e d' ∧ SortedIn lt e b d' ∧ StI lt tb d' ∧ (∀ x y, a ≤ x → x < mid → mid ≤ y → y < b → lt d'[y]! d'[x]! = false) := by
  have hx : ∀ x y, s ≤ x → x < m → m ≤ y → y < e → lt d[y]! d[x]! = true := fun x y e1 e2 e3 e4 =>
    swo_le_lt hS (sorted_le hS h2 e3 (show y ≤ e - 1 by omega) (by omega)) (swo_lt_le hS (hq (by omega) (by omega)) (sorted_le hS h1 has e1 e2))
  refine ⟨?_, ?_, ?_, ?_, rot_st hr hsm hme (by omega) hsz hx hst, ?_⟩
  · intro p q hp hpq hqs
    rw [rot_0 hr (k := p) (by omega), rot_0 hr (k := q) (by omega)]
    exact h1 p q hp hpq (by omega)
  · intro p q hp hpq hqs
    rw [rot_1 hr (k := p) (by omega) (by omega), rot_1 hr (k := q) (by omega) (by omega)]
    exact sorted_le hS h2 (by omega) (by omega) (by omega)
  · intro p q hp hpq hqs
    rw [rot_2 hr (k := p) (by omega) (by omega), rot_2 hr (k := q) (by omega) (by omega)]
    exact sorted_le hS h1 (by omega) (by omega) (by omega)
  · intro p q hp hpq hqs
    rw [rot_0 hr (k := p) (by omega), rot_0 hr (k := q) (by omega)]
    exact h2 p q (by omega) hpq hqs
  · intro x y e1 e2 e3 e4
    by_cases c1 : x < s
    · rw [rot_0 hr (k := x) (by omega)]
      by_cases c2 : y < e
      · rw [rot_2 hr (k := y) (by omega) c2]
        exact sorted_le hS h1 e1 (by omega) (by omega)
      · rw [rot_0 hr (k := y) (by omega)]
        exact swo_le hS (swo_le hS (sorted_le hS h1 e1 (show x ≤ s - 1 by omega) (by omega)) (hn (by omega) (by omega))) (sorted_le hS h2 hme (show e ≤ y by omega) e4)
    · rw [rot_1 hr (k := x) (by omega) (by omega)]
      by_cases c2 : y < e
      · rw [rot_2 hr (k := y) (by omega) c2]
        exact swo_asymm hS (hx _ _ (by omega) (by omega) (by omega) (by omega))
      · rw [rot_0 hr (k := y) (by omega)]
        exact sorted_le hS h2 (by omega) (by omega) e4
theorem sorted_join {lt : α → α → Bool} {d : Array α} {a m b : Nat} (h1 : SortedIn lt a m d) (h2 : SortedIn lt m b d) (h : ∀ x y, a ≤ x → x < m → m ≤ y → y < b → lt d[y]! d[x]! = false) : SortedIn lt a b d := by
  intro i j hi hij hj
  by_cases c1 : j < m
  · exact h1 i j hi hij c1
  · by_cases c2 : i < m
    · exact h i j hi c2 (by omega) hj
    · exact h2 i j (by omega) hij hj
theorem IsRot.none_left (d : Array α) (m e : Nat) : IsRot d m m e d := by
  intro k
  by_cases c : m ≤ k ∧ k < m + (e - m)
  · rw [if_pos c]; congr 1; omega
  · rw [if_neg c, if_neg (by omega)]
theorem IsRot.none_right (d : Array α) (s m : Nat) : IsRot d s m m d := by
  intro k
  rw [if_neg (by omega)]
  by_cases c : s + (m - m) ≤ k ∧ k < m
  · rw [if_pos c]; congr 1; omega
  · rw [if_neg c]
theorem IsRot.up {d dk : Array α} {a k : Nat} (hak : a ≤ k) (hk : k + 1 < dk.size) (h : IsRot d a (a + 1) (k + 1) dk) : IsRot d a (a + 1) (k + 1 + 1) (swp dk k (k + 1)) := by
  intro p
  by_cases c1 : p = k
  · subst c1
    rw [swp_left _ _ _ (by omega) (by omega), rot_0 h (k := p + 1) (by omega), if_pos (by omega)]
    congr 1; omega
  · by_cases c2 : p = k + 1
    · subst c2
      rw [swp_right _ _ _ (by omega), rot_2 h (k := k) (by omega) (by omega), if_neg (by omega), if_pos (by omega)]
      congr 1; omega
    · rw [swp_other _ _ _ _ c1 c2, h p]
      (repeat' split) <;> first | rfl | omega | (congr 1; omega)
theorem IsRot.down {d dk : Array α} {k m : Nat} (hkm : k + 1 ≤ m) (hm : m < dk.size) (h : IsRot d (k + 1) m (m + 1) dk) : IsRot d k m (m + 1) (swp dk (k + 1) k) := by
  intro p
  by_cases c1 : p = k + 1
  · subst c1
    rw [swp_left _ _ _ (by omega) (by omega), rot_0 h (k := k) (by omega), if_neg (by omega), if_pos (by omega)]
    congr 1; omega
  · by_cases c2 : p = k
    · subst c2
      rw [swp_right _ _ _ (by omega), rot_1 h (k := p + 1) (by omega) (by omega), if_pos (by omega)]
      congr 1; omega
    · rw [swp_other _ _ _ _ c1 c2, h p]
      (repeat' split) <;> first | rfl | omega | (congr 1; omega)
theorem perm_size {d d' : Array α} {a b : Nat} (h : PermIn a b d d') : d'.size = d.size := h.1
/-- What holds of all elements of a part holds behind a permutation of it. -/
theorem perm_cross {lt : α → α → Bool} {d d' : Array α} {a m b : Nat} (_ : a ≤ m) (_ : m ≤ b) (hb : b ≤ d.size) (hp : PermIn a m d d') (h : ∀ x y, a ≤ x → x < m → m ≤ y → y < b → lt d[y]! d[x]! = false) :
    ∀ x y, a ≤ x → x < m → m ≤ y → y < b → lt d'[y]! d'[x]! = false := by
  intro x y e1 e2 e3 e4
  rw [hp.2.1 y (by omega)]
  exact permIn_all d d' a m (fun v => lt d[y]! v = false) (by omega) hp (fun i h1 h2 => h i y h1 h2 e3 e4) x e1 e2
theorem perm_cross2 {lt : α → α → Bool} {d d' : Array α} {a m b : Nat} (_ : a ≤ m) (_ : m ≤ b) (hb : b ≤ d.size) (hp : PermIn m b d d') (h : ∀ x y, a ≤ x → x < m → m ≤ y → y < b → lt d[y]! d[x]! = false) :
    ∀ x y, a ≤ x → x < m → m ≤ y → y < b → lt d'[y]! d'[x]! = false := by
  intro x y e1 e2 e3 e4
  rw [hp.2.1 x (by omega)]
  exact permIn_all d d' m b (fun v => lt v d[x]! = false) (by omega) hp (fun i h1 h2 => h x i e1 e2 h1 h2) y e3 e4
theorem sorted_out {lt : α → α → Bool} {d d' : Array α} {a b lo hi : Nat} (hp : PermIn lo hi d d') (h : b ≤ lo ∨ hi ≤ a) (hs : SortedIn lt a b d) : SortedIn lt a b d' := by
  intro i j h1 h2 h3
  rw [hp.2.1 i (by omega), hp.2.1 j (by omega)]
  exact hs i j h1 h2 h3
/-! ### The insertion sort leaves what is alike in order -/
theorem swap_st {lt : α → α → Bool} {tb : α → Nat} {d : Array α} {j : Nat} (hj : j + 1 < d.size) (hl : lt d[j + 1]! d[j]! = true) (h : StI lt tb d) : StI lt tb (swp d (j + 1) j) := by
  have hr : IsRot d j (j + 1) (j + 2) (swp d (j + 1) j) := IsRot.down (k := j) (m := j + 1) (Nat.le_refl _) hj (IsRot.none_left d (j + 1) (j + 2))
  refine rot_st hr (by omega) (by omega) (by omega) (size_swp _ _ _) (fun x y e1 e2 e3 e4 => ?_) h
  obtain rfl : x = j := by omega
  obtain rfl : y = x + 1 := by omega
  exact hl
theorem insInner_st {lt : α → α → Bool} {tb : α → Nat} (a : Nat) : ∀ (j : Nat) (d : Array α), j < d.size → StI lt tb d → StI lt tb (insInner lt a j d) ∧ (insInner lt a j d).size = d.size
  | 0, d, _, h => ⟨h, rfl⟩
  | j + 1, d, hj, h => by
    unfold insInner
    by_cases c : (decide (j + 1 > a) && lt d[j + 1]! d[j]!) = true
    · rw [if_pos c]
      have hl : lt d[j + 1]! d[j]! = true := (Bool.and_eq_true_iff.1 c).2
      have := insInner_st a j (swp d (j + 1) j) (by rw [size_swp]; omega) (swap_st hj hl h)
      exact ⟨this.1, this.2.trans (size_swp _ _ _)⟩
    · rw [if_neg c]; exact ⟨h, rfl⟩
theorem insOuter_st {lt : α → α → Bool} {tb : α → Nat} (a b : Nat) : ∀ (n i : Nat) (d : Array α), b - i ≤ n → b ≤ d.size → StI lt tb d → StI lt tb (insOuter lt a b i d)
  | n, i, d, hn, hb, h => by
    unfold insOuter
    by_cases c : i < b
    · rw [if_pos c]
      match n, hn with
      | 0, hn => omega
      | n + 1, hn =>
        have := insInner_st (lt := lt) (tb := tb) a i d (by omega) h
        exact insOuter_st a b n (i + 1) _ (by omega) (by rw [this.2]; exact hb) this.1
    · rw [if_neg c]; exact h
theorem insertion_st {lt : α → α → Bool} {tb : α → Nat} (a b : Nat) (d : Array α) (hb : b ≤ d.size) (h : StI lt tb d) : StI lt tb (insertionSort lt d a b) := insOuter_st a b (b - (a + 1)) (a + 1) d (Nat.le_refl _) hb h
/-! ### The order of keys: places put in one by one -/
def vins (key : Nat → Int) (x : Nat) : List Nat → List Nat
  | [] => [x]
  | y :: l => if key y ≤ key x then y :: vins key x l else x :: y :: l
def vord (key : Nat → Int) : Nat → List Nat
  | 0 => []
  | n + 1 => vins key n (vord key n)
/-- a stands ahead of b. -/
def Lx (key : Nat → Int) (a b : Nat) : Prop := key a < key b ∨ (key a = key b ∧ a < b)
theorem vins_perm (key : Nat → Int) (x : Nat) (l : List Nat) : (vins key x l).Perm (x :: l) := by
  induction l with
  | nil => exact List.Perm.refl _
  | cons y l ih =>
    unfold vins
    split
    · exact (List.Perm.cons y ih).trans (List.Perm.swap x y l)
    · exact List.Perm.refl _
theorem vord_perm (key : Nat → Int) (n : Nat) : (vord key n).Perm (List.range n) := by
  induction n with
  | zero => exact List.Perm.refl _
  | succ n ih =>
    rw [List.range_succ]
    exact (vins_perm key n _).trans ((List.Perm.cons n ih).trans (List.perm_append_comm (l₁ := [n]) (l₂ := List.range n)))
theorem vord_length (key : Nat → Int) (n : Nat) : (vord key n).length = n := (vord_perm key n).length_eq.trans List.length_range
theorem vord_lt {key : Nat → Int} {n y : Nat} (h : y ∈ vord key n) : y < n := List.mem_range.1 ((vord_perm key n).mem_iff.1 h)
theorem vins_sorted (key : Nat → Int) (x : Nat) (l : List Nat) (h : l.Pairwise (Lx key)) (hx : ∀ y ∈ l, y < x) : (vins key x l).Pairwise (Lx key) := by
  induction l with
  | nil => exact List.pairwise_singleton _ _
  | cons y l ih =>
    have h1 := List.pairwise_cons.1 h
    unfold vins
    split
    · rename_i hle
      refine List.pairwise_cons.2 ⟨fun z hz => ?_, ih h1.2 (fun z hz => hx z (List.mem_cons_of_mem _ hz))⟩
      rcases List.mem_cons.1 ((vins_perm key x l).mem_iff.1 hz) with rfl | hz
      · have := hx y List.mem_cons_self
        unfold Lx; omega
      · exact h1.1 z hz
    · rename_i hle
      refine List.pairwise_cons.2 ⟨fun z hz => ?_, h⟩
      rcases List.mem_cons.1 hz with rfl | hz
      · unfold Lx; omega
      · have := h1.1 z hz
        unfold Lx at this ⊢; omega
theorem vord_sorted (key : Nat → Int) (n : Nat) : (vord key n).Pairwise (Lx key) := by
  induction n with
  | zero => exact List.Pairwise.nil
  | succ n ih => exact vins_sorted key n _ ih (fun y hy => vord_lt hy)
theorem lx_unique {key : Nat → Int} {l m : List Nat} (h1 : l.Pairwise (Lx key)) (h2 : m.Pairwise (Lx key)) (hp : l.Perm m) : l = m :=
  List.Perm.eq_of_pairwise (le := Lx key) (fun a b _ _ h3 h4 => by unfold Lx at h3 h4; omega) h1 h2 hp
theorem extract_all {β : Type} (a : Array β) (n : Nat) (h : a.size = n) : a.extract 0 n = a := by subst h; exact Array.extract_size
/-- What a stable sort of the places leaves is that order. -/
theorem sorted_vord {m : Nat} (key : Nat → Int) (lt : Fin (m + 1) → Fin (m + 1) → Bool) (hlt : ∀ x y, lt x y = decide (key x.val < key y.val)) (d' : Array (Fin (m + 1)))
    (hp : PermIn 0 (m + 1) (Array.ofFn (fun i : Fin (m + 1) => i)) d') (hs : SortedIn lt 0 (m + 1) d') (ht : StI lt (fun x => x.val) d') : d'.toList.map (fun x => x.val) = vord key (m + 1) := by
  have hsz : d'.size = m + 1 := hp.1.trans (by simp)
  refine lx_unique (key := key) ?_ (vord_sorted key _) ?_
  · rw [List.pairwise_iff_getElem]
    intro i j hi hj hij
    have hi' : i < d'.size := by simpa using hi
    have hj' : j < d'.size := by simpa using hj
    have e1 := hs i j (Nat.zero_le _) hij (by omega)
    have e2 := ht i j hij hj'
    simp only [getElem!_pos d' j hj', getElem!_pos d' i hi'] at e1 e2
    simp only [List.getElem_map, Array.getElem_toList]
    rw [hlt] at e1 e2 e2
    simp only [decide_eq_false_iff_not] at e1 e2
    unfold Lx
    by_cases c : key d'[i].val < key d'[j].val
    · exact .inl c
    · exact .inr ⟨by omega, e2 c e1⟩
  · have e1 := extract_all d' (m + 1) hsz
    have e2 := extract_all (Array.ofFn (fun i : Fin (m + 1) => i)) (m + 1) (by simp)
    have h3 := hp.2.2
    rw [e1, e2] at h3
    refine (h3.map (fun x : Fin (m + 1) => x.val)).trans ?_
    have e3 : (Array.ofFn (fun i : Fin (m + 1) => i)).toList.map (fun x => x.val) = List.range (m + 1) := by
      apply List.ext_getElem
      · simp
      · intro i h1 h2
        simp only [List.getElem_map, Array.getElem_toList, Array.getElem_ofFn, List.getElem_range]
    rw [e3]
    exact (vord_perm key _).symm
theorem ofFn_st {m : Nat} (lt : Fin (m + 1) → Fin (m + 1) → Bool) : StI lt (fun x => x.val) (Array.ofFn (fun i : Fin (m + 1) => i)) := by
  intro i j hij hj _ _
  have hj' : j < (Array.ofFn (fun i : Fin (m + 1) => i)).size := hj
  rw [getElem!_pos _ j hj', getElem!_pos _ i (by omega)]
  simp
  exact hij
theorem swo_key {m : Nat} (key : Nat → Int) (lt : Fin (m + 1) → Fin (m + 1) → Bool) (hlt : ∀ x y, lt x y = decide (key x.val < key y.val)) : SWO lt := by
  refine ⟨fun x => ?_, fun x y z h1 h2 => ?_, fun x y z h1 h2 => ?_⟩
  · rw [hlt]; exact decide_eq_false (by omega)
  · rw [hlt] at *; simp only [decide_eq_true_eq] at *; omega
  · rw [hlt] at *; simp only [decide_eq_false_iff_not] at *; omega
/-! ### Merging runs, each twice as long as before -/
theorem mult_le {c x a : Nat} (hx : c ∣ x) (ha : c ∣ a) (h : x < a) : x + c ≤ a := by
  have h1 : c ∣ a - x := Nat.dvd_sub ha hx
  have := Nat.le_of_dvd (by omega) h1
  omega
theorem mult_eq {c x a : Nat} (hx : c ∣ x) (ha : c ∣ a) (h : a ≤ x) (h2 : x < a + c) : x = a := by
  rcases Nat.lt_or_ge a x with h3 | h3
  · have := mult_le ha hx h3; omega
  · omega
/-- Each run of bs is in order. -/
def Runs (lt : α → α → Bool) (bs n : Nat) (d : Array α) : Prop := ∀ x, bs ∣ x → x < n → SortedIn lt x (min (x + bs) n) d
/-- Up to a they are merged by two. -/
structure Mid (lt : α → α → Bool) (bs n a : Nat) (d : Array α) : Prop where
  dv : 2 * bs ∣ a
  done : ∀ x, 2 * bs ∣ x → x < a → SortedIn lt x (x + 2 * bs) d
  rest : ∀ x, bs ∣ x → a ≤ x → x < n → SortedIn lt x (min (x + bs) n) d
theorem Mid.start {lt : α → α → Bool} {bs n : Nat} {d : Array α} (h : Runs lt bs n d) : Mid lt bs n 0 d := ⟨Nat.dvd_zero _, fun _ _ h => absurd h (Nat.not_lt_zero _), fun x h1 _ h2 => h x h1 h2⟩
theorem Mid.dv1 {lt : α → α → Bool} {bs n a : Nat} {d : Array α} (h : Mid lt bs n a d) : bs ∣ a := Nat.dvd_trans ⟨2, by omega⟩ h.dv
theorem Mid.dv2 {lt : α → α → Bool} {bs n a : Nat} {d : Array α} (h : Mid lt bs n a d) : bs ∣ a + bs := (Nat.dvd_add_right h.dv1).2 (Nat.dvd_refl _)
theorem Mid.left {lt : α → α → Bool} {bs n a m : Nat} {d : Array α} (h : Mid lt bs n a d) (hb : 0 < bs) (hm : m = a + bs) (h2 : m ≤ n) : SortedIn lt a m d := by
  subst hm
  have := h.rest a h.dv1 (Nat.le_refl _) (by omega)
  rwa [Nat.min_eq_left h2] at this
theorem Mid.right {lt : α → α → Bool} {bs n a m b : Nat} {d : Array α} (h : Mid lt bs n a d) (hm : m = a + bs) (h2 : m < n) (hb : b = min (m + bs) n) : SortedIn lt m b d := by
  subst hm hb
  exact h.rest _ h.dv2 (by omega) h2
theorem Mid.step {lt : α → α → Bool} {bs n a b : Nat} {d d' : Array α} (h : Mid lt bs n a d) (hb : b = a + 2 * bs) (hp : PermIn a b d d') (hs : SortedIn lt a b d') : Mid lt bs n b d' := by
  subst hb
  refine ⟨(Nat.dvd_add_right h.dv).2 (Nat.dvd_refl _), fun x h1 h2 => ?_, fun x h1 h2 h3 => ?_⟩
  · rcases Nat.lt_or_ge x a with h3 | h3
    · exact sorted_out hp (.inl (mult_le h1 h.dv h3)) (h.done x h1 h3)
    · obtain rfl := mult_eq h1 h.dv h3 h2
      exact hs
  · exact sorted_out hp (.inr h2) (h.rest x h1 (by omega) h3)
theorem Mid.fin {lt : α → α → Bool} {bs n a c : Nat} {d d' : Array α} (h : Mid lt bs n a d) (hc : c = 2 * bs) (h1 : a ≤ n) (h2 : n < a + 2 * bs) (hp : PermIn a n d d') (hs : SortedIn lt a n d') : Runs lt c n d' := by
  subst hc
  intro x hx hn
  rcases Nat.lt_or_ge x a with h3 | h3
  · have h4 := mult_le hx h.dv h3
    rw [Nat.min_eq_left (by omega)]
    exact sorted_out hp (.inl h4) (h.done x hx h3)
  · obtain rfl := mult_eq hx h.dv h3 (by omega)
    rw [Nat.min_eq_right (by omega)]
    exact hs
theorem Mid.fin2 {lt : α → α → Bool} {bs n a c : Nat} {d : Array α} (h : Mid lt bs n a d) (hb : 0 < bs) (hc : c = 2 * bs) (h1 : a ≤ n) (h2 : n ≤ a + bs) : Runs lt c n d := by
  refine h.fin hc h1 (by omega) (permIn_refl d a n) ?_
  rcases Nat.lt_or_ge a n with h3 | h3
  · have := h.rest a h.dv1 (Nat.le_refl _) h3
    rwa [Nat.min_eq_right h2] at this
  · intro i j e1 e2 e3; omega
theorem runs_first {lt : α → α → Bool} {n a c : Nat} {d d' : Array α} (hc : c = 20) (ha : 20 ∣ a) (h : ∀ x, 20 ∣ x → x < a → SortedIn lt x (x + 20) d) (h1 : a ≤ n) (h2 : n < a + 20) (hp : PermIn a n d d') (hs : SortedIn lt a n d') : Runs lt c n d' := by
  subst hc
  intro x hx hn
  rcases Nat.lt_or_ge x a with h3 | h3
  · rw [Nat.min_eq_left (by omega)]
    exact sorted_out hp (.inl (by omega)) (h x hx h3)
  · obtain rfl : x = a := by omega
    rw [Nat.min_eq_right (by omega)]
    exact hs
theorem runs_all {lt : α → α → Bool} {n bs : Nat} {d : Array α} (h : Runs lt bs n d) (hb : n ≤ bs) : SortedIn lt 0 n d := by
  rcases Nat.eq_zero_or_pos n with h0 | h0
  · intro i j e1 e2 e3; omega
  · have := h 0 (Nat.dvd_zero _) h0
    rwa [Nat.zero_add, Nat.min_eq_right hb] at this
end Go.Proofs.Ytnmcefpnpfaklad.Srt
