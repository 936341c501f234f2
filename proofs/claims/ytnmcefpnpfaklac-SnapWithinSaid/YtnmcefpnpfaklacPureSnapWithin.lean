/- The law SnapWithin holds of the printed functions, for all areas and whole numbers of 64 bits. -/
import Derived.Test.YtnmcefpnpfaklacPlainSnap
import Derived.Test.YtnmcefpnpfaklacVx0
import Derived.Test.YtnmcefpnpfaklacVx1
import Derived.Test.YtnmcefpnpfaklacVx5
import Derived.Test.YtnmcefpnpfaklacVx7
import Derived.Test.YtnmcefpnpfaklacVx9
import Derived.Test.YtnmcefpnpfaklacVx25
namespace Go.Proofs.Ytnmcefpnpfaklac.Pure
open Go.RowKit Go.Proofs.Ytnmcefpnpfaklac.V Go.Proofs.Ytnmcefpnpfaklac.Plain Go.Proofs.YtnmcefpnpfaklacW.PrintWords Go.Proofs.YtnmcefpnpfaklacW.PrintLast Go.Proofs.YtnmcefpnpfaklacW.PrintMore
theorem rest_cases (kind : Int) (l : List S33) (p m w : Int) (_hl : l.length ≤ 300) : ∀ n, n = vrest kind l p m w →
    (0 ≤ n ∧ n ≤ mx m 0 ∧ n ≤ 1099511627776) ∧ vrest kind l p m n = n ∧ ((∃ j : Nat, j < (vstops l p m).length ∧ rd (vstops l p m) j = n) ∨ n = liked m w) ∧ (kind = 1 → 0 < (vstops l p m).length → ∃ j : Nat, j < (vstops l p m).length ∧ rd (vstops l p m) j = n) ∧ (kind = 0 → n = liked m w) := by
  intro n hn
  have hk := liked_in m w
  have hb := best_bst (vstops l p m) (liked m w)
  have hhi := hb.hi
  unfold vrest at hn
  dsimp only at hn
  by_cases h0 : vbst (vstops l p m) (liked m w) (vstops l p m).length 0 (-1) < 0
  · rw [if_pos h0] at hn
    subst hn
    have e : (vstops l p m).length = 0 := by
      by_cases e : (vstops l p m).length = 0
      · exact e
      · have := hb.lo (by omega); omega
    refine ⟨hk, ?_, .inr rfl, fun _ h => by omega, fun _ => rfl⟩
    unfold vrest
    dsimp only
    rw [liked_id hk.1 hk.2.1 hk.2.2, if_pos h0]
  · rw [if_neg h0] at hn
    obtain ⟨j, hj⟩ : ∃ j : Nat, vbst (vstops l p m) (liked m w) (vstops l p m).length 0 (-1) = j := ⟨(vbst (vstops l p m) (liked m w) (vstops l p m).length 0 (-1)).toNat, by omega⟩
    have hjl : j < (vstops l p m).length := by omega
    have hs := stops_in l p m j hjl
    rw [hj] at hn
    -- asked for a stop it stays there
    have stay : ∀ kd : Int, kd = 1 ∨ kd = 2 → vrest kd l p m (rd (vstops l p m) j) = rd (vstops l p m) j := by
      intro kd hkd
      have hl2 : liked m (rd (vstops l p m) j) = rd (vstops l p m) j := liked_id hs.1 hs.2.1 hs.2.2
      have hb2 := best_bst (vstops l p m) (rd (vstops l p m) j)
      have h2 := hb2.lo (by omega)
      have h3 := hb2.hi
      unfold vrest
      dsimp only
      rw [hl2]
      generalize vbst (vstops l p m) (rd (vstops l p m) j) (vstops l p m).length 0 (-1) = r at *
      obtain ⟨q, rfl⟩ : ∃ q : Nat, r = q := ⟨r.toNat, by omega⟩
      have hq := stops_in l p m q (by omega)
      have h4 := hb2.least j hjl
      rw [vfar_self] at h4
      have h5 := (vfar_nn (rd (vstops l p m) q) (rd (vstops l p m) j)).1
      have e : rd (vstops l p m) q = rd (vstops l p m) j := vfar_0 (by omega) (by omega) (by omega) (by omega) (by omega)
      rw [if_neg (by omega), e]
      rcases hkd with rfl | rfl
      · rw [if_pos rfl]
      · rw [if_neg (by omega), if_pos rfl]; split <;> rfl
    by_cases h1 : kind = 1
    · rw [if_pos h1] at hn
      subst hn
      exact ⟨hs, stay kind (.inl h1), .inl ⟨j, hjl, rfl⟩, fun _ _ => ⟨j, hjl, rfl⟩, fun h => by omega⟩
    rw [if_neg h1] at hn
    have again : (kind = 2 → ¬ vfar (rd (vstops l p m) j) (liked m w) ≤ 6400) → vrest kind l p m (liked m w) = liked m w := by
      intro hf
      unfold vrest
      dsimp only
      rw [liked_id hk.1 hk.2.1 hk.2.2, if_neg h0, if_neg h1, hj]
      by_cases h2 : kind = 2
      · rw [if_pos h2, if_neg (hf h2)]
      · rw [if_neg h2]
    by_cases h2 : kind = 2
    · rw [if_pos h2] at hn
      by_cases h3 : vfar (rd (vstops l p m) j) (liked m w) ≤ 6400
      · rw [if_pos h3] at hn
        subst hn
        exact ⟨hs, stay kind (.inr h2), .inl ⟨j, hjl, rfl⟩, fun h => by omega, fun h => by omega⟩
      · rw [if_neg h3] at hn
        subst hn
        exact ⟨hk, again (fun _ => h3), .inr rfl, fun h => by omega, fun _ => rfl⟩
    · rw [if_neg h2] at hn
      subst hn
      exact ⟨hk, again (fun h => absurd h h2), .inr rfl, fun h => absurd h h1, fun _ => rfl⟩
theorem within_l0 (kind : Int) (l : List S33) (p m w n : Int) (s : List Int) (hsl : s.length ≤ 300) (hin : 0 ≤ n ∧ n ≤ mx m 0 ∧ n ≤ 1099511627776) (hag : snap_Rest.f kind l p m n = some n)
    (lk : Int) (hlk : mn (mn (mx w 0) (mx m 0)) 1099511627776 = lk) (hor : (∃ j : Nat, j < s.length ∧ rd s j = n) ∨ n = lk) (h1 : kind = 1 → 0 < s.length → ∃ j : Nat, j < s.length ∧ rd s j = n) (h0 : kind = 0 → n = lk) :
    ∀ (d i k : Nat) (b : Bool), i + d = s.length → (b = true ↔ ∃ j : Nat, j < i ∧ rd s j = n) → d < k → valancelaw11_SnapWithin.l0 k kind l p m w true n s b i = some true := by
  intro d
  induction d with
  | zero =>
    intro i k b hd hb hk
    obtain ⟨k, rfl⟩ : ∃ m, k = m + 1 := ⟨k - 1, by omega⟩
    obtain rfl : i = s.length := by omega
    simp only [valancelaw11_SnapWithin.l0]
    rw [if_neg (by omega), if_neg (by omega), if_neg (by omega), hag, hlk]
    simp only [Option.bind_some, if_true]
    have t0 : (if kind = 0 then some (n == lk) else some true) = some true := by
      by_cases k0 : kind = 0
      · rw [if_pos k0, h0 k0]; simp
      · rw [if_neg k0]
    rw [t0]
    have hbin : (∃ j : Nat, j < s.length ∧ rd s j = n) → b = true := fun h => hb.2 h
    have rest : (if b = true then some true else if n = lk then some true else none) = some true := by
      cases b with
      | true => rw [if_pos rfl]
      | false =>
        rw [if_neg (by simp)]
        rcases hor with ⟨j, hj, e⟩ | e
        · have := hbin ⟨j, hj, e⟩; cases this
        · rw [if_pos e]
    by_cases k1 : kind = 1
    · rw [if_pos k1]
      by_cases hp : (s.length : Int) > 0
      · obtain ⟨j, hj, e⟩ := h1 k1 (by omega)
        rw [if_pos hp, if_pos (hbin ⟨j, hj, e⟩)]
      · rw [if_neg hp]; exact rest
    · rw [if_neg k1]; exact rest
  | succ d ih =>
    intro i k b hd hb hk
    obtain ⟨k, rfl⟩ : ∃ m, k = m + 1 := ⟨k - 1, by omega⟩
    simp only [valancelaw11_SnapWithin.l0]
    rw [if_pos (by omega), wrap_id (by omega) (by omega)]
    by_cases hbt : b = true
    · rw [if_pos hbt]
      exact ih (i + 1) k true (by omega) ⟨fun _ => by obtain ⟨j, hj, e⟩ := hb.1 hbt; exact ⟨j, by omega, e⟩, fun _ => rfl⟩ (by omega)
    · rw [if_neg hbt, if_pos (by omega)]
      refine ih (i + 1) k _ (by omega) ?_ (by omega)
      rw [beq_iff_eq]
      refine ⟨fun e => ⟨i, by omega, e⟩, fun ⟨j, hj, e⟩ => ?_⟩
      by_cases ej : j = i
      · subst ej; exact e
      · exact absurd (hb.2 ⟨j, by omega, e⟩) hbt
theorem liked_form (m w : Int) : mn (mn (mx w 0) (mx m 0)) 1099511627776 = liked m w := by
  unfold liked vclamp vcut mx mn; (repeat' split) <;> omega
theorem SnapWithin : valancelaw11_SnapWithin.Pure := by
  intro kind l p m w _ _ _ _ _ _ _
  obtain ⟨k, hk⟩ : ∃ k : Nat, 900 < k := ⟨1000, by decide⟩
  refine ⟨k, ?_⟩
  unfold valancelaw11_SnapWithin.f
  rw [works_eq]
  simp only [Option.bind_some, if_true]
  refine ite_ (fun _ => rfl) (fun h1 => ?_)
  have hl : l.length ≤ 300 := by omega
  have e1 := rest_eq kind l p m w (by omega)
  have e2 := stops_eq l p m (by omega)
  have hln := vstops_len l p m
  obtain ⟨hin, hag, hor, h1', h0⟩ := rest_cases kind l p m w hl _ rfl
  have e3 := rest_eq kind l p m (vrest kind l p m w) (by omega)
  rw [hag] at e3
  have hlk := liked_form m w
  rw [e1, e2]
  clear hag e1 e2
  generalize vrest kind l p m w = n at *
  generalize liked m w = lk at *
  generalize vstops l p m = s at *
  simp only [Option.bind_some]
  exact within_l0 kind l p m w n s (by omega) hin e3 lk hlk hor h1' h0 s.length 0 k false (by omega) ⟨fun h => (by cases h), fun ⟨j, hj, _⟩ => by omega⟩ (by omega)
end Go.Proofs.Ytnmcefpnpfaklac.Pure
