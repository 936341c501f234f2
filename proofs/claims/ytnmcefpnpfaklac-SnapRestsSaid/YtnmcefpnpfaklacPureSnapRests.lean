/- The law SnapRests holds of the printed functions, for all areas and whole numbers of 64 bits. -/
import Derived.Test.YtnmcefpnpfaklacPlainSnap
import Derived.Test.YtnmcefpnpfaklacVx0
import Derived.Test.YtnmcefpnpfaklacVx1
import Derived.Test.YtnmcefpnpfaklacVx4
import Derived.Test.YtnmcefpnpfaklacVx5
import Derived.Test.YtnmcefpnpfaklacVx7
import Derived.Test.YtnmcefpnpfaklacVx11
import Derived.Test.YtnmcefpnpfaklacVx12
import Derived.Test.YtnmcefpnpfaklacVx15
import Derived.Test.YtnmcefpnpfaklacVx19
import Derived.Test.YtnmcefpnpfaklacVx20
import Derived.Test.YtnmcefpnpfaklacVx21
import Derived.Test.YtnmcefpnpfaklacVx23
namespace Go.Proofs.Ytnmcefpnpfaklac.Pure
open Go.RowKit Go.Proofs.Ytnmcefpnpfaklac.V Go.Proofs.Ytnmcefpnpfaklac.Plain Go.Proofs.YtnmcefpnpfaklacW.PrintWords Go.Proofs.YtnmcefpnpfaklacW.PrintLast Go.Proofs.YtnmcefpnpfaklacW.PrintMore
theorem at_eq (lo hi e p : Int) : snap_At.f lo hi e p = some (vatn lo hi e p, vatok e) := snap_At_eq lo hi e p
def conv (x : S33) : S35 := ⟨⟨x.f0.f0, x.f0.f1⟩, x.f1⟩
theorem rd_conv (l : List S33) (x : Int) : rd_T35 (l.map conv) x = conv (rd_T33 l x) := by
  unfold rd_T35 rd_T33
  rw [List.getD_eq_getElem?_getD, List.getD_eq_getElem?_getD, List.getElem?_map]
  cases l[x.toNat]? <;> rfl
theorem of_l0 (l : List S33) (hn : l.length ≤ 300) : ∀ (d i k : Nat), i + d = l.length → d < k → valancelaw11_of.l0 k l ((l.take i).map conv) i = some (l.map conv) := by
  intro d
  induction d with
  | zero =>
    intro i k hd hk
    obtain ⟨k, rfl⟩ : ∃ m, k = m + 1 := ⟨k - 1, by omega⟩
    simp only [valancelaw11_of.l0]
    rw [if_neg (by omega), List.take_of_length_le (by omega)]
  | succ d ih =>
    intro i k hd hk
    obtain ⟨k, rfl⟩ : ∃ m, k = m + 1 := ⟨k - 1, by omega⟩
    simp only [valancelaw11_of.l0]
    rw [if_pos (by omega), if_pos (by omega), if_pos (by rw [List.length_map, List.length_take]; omega), wrap_id (by omega) (by omega)]
    have h := ih (i + 1) k (by omega) (by omega)
    rw [← h]
    have hi : i < l.length := by omega
    congr 1
    rw [List.take_succ_eq_append_getElem hi, List.map_append]
    congr 1
    have e : rd_T33 l (i : Int) = l[i] := by unfold rd_T33; simp [List.getD_eq_getElem?_getD, List.getElem?_eq_getElem hi]
    rw [e]
    rfl
theorem of_eq (l : List S33) (hn : l.length ≤ 300) (k : Nat) (hk : l.length < k) : valancelaw11_of.f k l = some (l.map conv) := of_l0 l hn l.length 0 k (by omega) hk
theorem ref_stops_l0 (l : List S33) (p m : Int) (hn : l.length ≤ 300) : ∀ (d i k : Nat), i + d = l.length → d < k → valanceref11_Stops.l0 k (l.map conv) p m (vstops (l.take i) p m) i = some (vstops l p m) := by
  intro d
  induction d with
  | zero =>
    intro i k hd hk
    obtain ⟨k, rfl⟩ : ∃ m, k = m + 1 := ⟨k - 1, by omega⟩
    simp only [valanceref11_Stops.l0, List.length_map]
    rw [if_neg (by omega), List.take_of_length_le (by omega)]
  | succ d ih =>
    intro i k hd hk
    obtain ⟨k, rfl⟩ : ∃ m, k = m + 1 := ⟨k - 1, by omega⟩
    have hi : i < l.length := by omega
    have ih' := ih (i + 1) k (by omega) (by omega)
    simp only [valanceref11_Stops.l0, List.length_map, rd_conv, ref_at_eq, ref_Cut_eq, Option.bind_some]
    rw [if_pos (by omega), if_pos (by omega), wrap_id (x := (i : Int) + 1) (by omega) (by omega)]
    rw [show (conv (rd_T33 l (i : Int))).f0.f0 = (rd_T33 l (i : Int)).f0.f0 from rfl, show (conv (rd_T33 l (i : Int))).f0.f1 = (rd_T33 l (i : Int)).f0.f1 from rfl, show (conv (rd_T33 l (i : Int))).f1 = (rd_T33 l (i : Int)).f1 from rfl]
    have hb := vatn_bd (rd_T33 l i).f0.f0 (rd_T33 l i).f0.f1 (rd_T33 l i).f1 p
    have hcut : vatn (rd_T33 l i).f0.f0 (rd_T33 l i).f0.f1 (rd_T33 l i).f1 p ≤ vcut (mx m 0) ↔ vatn (rd_T33 l i).f0.f0 (rd_T33 l i).f0.f1 (rd_T33 l i).f1 p ≤ mx m 0 := by
      unfold vcut; have : 0 ≤ mx m 0 := by unfold mx; split <;> omega
      (repeat' split) <;> omega
    have hln := vstops_len (l.take i) p m
    rw [List.length_take] at hln
    obtain ⟨h, hh⟩ : ∃ h, h = vhit p m (rd_T33 l i) := ⟨_, rfl⟩
    have hv := hh
    unfold vhit at hv
    cases h with
    | false =>
      rw [vstops_miss l p m i hi hh.symm] at ih'
      have ih'' : valanceref11_Stops.l0 k (l.map conv) p m (vstops (l.take i) p m) ((i : Int) + 1) = some (vstops l p m) := ih'
      rw [ih'']
      refine ite_ (fun h1 => ite_ (fun h2 => ite_ (fun h3 => ?_) (fun _ => rfl)) (fun _ => rfl)) (fun _ => rfl)
      have := hcut.1 h3
      simp [h1] at hv
      omega
    | true =>
      simp at hv
      obtain ⟨h1, h2, h3⟩ := hv
      rw [vstops_hit l p m i hi hh.symm] at ih'
      rw [if_pos h1, if_pos h2, if_pos (hcut.2 h3), if_pos (by omega)]
      exact ih'
theorem ref_stops_eq (l : List S33) (p m : Int) (hn : l.length ≤ 300) (k : Nat) (hk : l.length < k) : valanceref11_Stops.f k (l.map conv) p m = some (vstops l p m) := ref_stops_l0 l p m hn l.length 0 k (by omega) hk
theorem ref_rest_eq (kind : Int) (l : List S33) (p m w : Int) (hn : l.length ≤ 300) (k : Nat) (hk : 400 < k) : valanceref11_Rest.f k kind (l.map conv) p m w = some (vrest kind l p m w) := by
  have hln := vstops_len l p m
  unfold valanceref11_Rest.f vrest
  rw [ref_Clamp_eq k (by omega)]
  simp only [Option.bind_some]
  rw [ref_stops_eq l p m hn k (by omega)]
  simp only [Option.bind_some]
  rw [ref_best_eq _ _ (by omega) k (by omega)]
  simp only [ref_far_eq, Option.bind_some]
  rw [show liked m w = vclamp w 0 (mx m 0) from rfl]
  have hhi := (best_bst (vstops l p m) (vclamp w 0 (mx m 0))).hi
  by_cases h0 : vbst (vstops l p m) (vclamp w 0 (mx m 0)) (vstops l p m).length 0 (-1) < 0
  · rw [if_pos h0, if_pos h0]
  · simp only [if_neg h0, if_pos (show 0 ≤ vbst (vstops l p m) (vclamp w 0 (mx m 0)) (vstops l p m).length 0 (-1) by omega), if_pos hhi]
    by_cases h1 : kind = 1
    · rw [if_pos h1, if_pos h1]
    · rw [if_neg h1, if_neg h1]
      by_cases h2 : kind = 2
      · rw [if_pos h2, if_pos h2]
        by_cases h3 : vfar (rd (vstops l p m) (vbst (vstops l p m) (vclamp w 0 (mx m 0)) (vstops l p m).length 0 (-1))) (vclamp w 0 (mx m 0)) > 6400
        · rw [if_pos h3, if_neg (by omega)]
        · rw [if_neg h3, if_pos (by omega)]
      · rw [if_neg h2, if_neg h2]
theorem row_l0 (a : List Int) (hn : a.length ≤ 17592186044416) : ∀ (d i k : Nat), i + d = a.length → d < k → valanceref06_Row.l0 k a a i = some true := by
  intro d
  induction d with
  | zero =>
    intro i k hd hk
    obtain ⟨k, rfl⟩ : ∃ m, k = m + 1 := ⟨k - 1, by omega⟩
    simp only [valanceref06_Row.l0]
    rw [if_neg (by omega)]
  | succ d ih =>
    intro i k hd hk
    obtain ⟨k, rfl⟩ : ∃ m, k = m + 1 := ⟨k - 1, by omega⟩
    simp only [valanceref06_Row.l0]
    rw [if_pos (by omega), if_pos (by omega), if_pos (by omega), if_pos trivial, wrap_id (by omega) (by omega)]
    exact ih (i + 1) k (by omega) (by omega)
theorem row_self (a : List Int) (hn : a.length ≤ 17592186044416) (k : Nat) (hk : a.length < k) : valanceref06_Row.f k a a = some true := by
  unfold valanceref06_Row.f
  rw [if_pos rfl]
  exact row_l0 a hn a.length 0 k (by omega) hk
theorem rests_l0 (kind : Int) (l : List S33) (p m w : Int) (hn : l.length ≤ 300) : ∀ (d i k : Nat), i + d = l.length → 500 + d < k → valancelaw11_SnapRests.l0 k kind l p m w true (l.map conv) i = some true := by
  intro d
  induction d with
  | zero =>
    intro i k hd hk
    obtain ⟨k, rfl⟩ : ∃ m, k = m + 1 := ⟨k - 1, by omega⟩
    have hln := vstops_len l p m
    simp only [valancelaw11_SnapRests.l0]
    rw [if_neg (by omega), if_pos trivial, rest_eq kind l p m w (by omega), ref_rest_eq kind l p m w hn k (by omega), stops_eq l p m (by omega), ref_stops_eq l p m hn k (by omega)]
    simp only [Option.bind_some, if_true]
    rw [row_self _ (by omega) k (by omega)]
    rfl
  | succ d ih =>
    intro i k hd hk
    obtain ⟨k, rfl⟩ : ∃ m, k = m + 1 := ⟨k - 1, by omega⟩
    simp only [valancelaw11_SnapRests.l0, at_eq, ref_at_eq, rd_conv, List.length_map, Option.bind_some]
    rw [if_pos (by omega), if_pos (by omega), if_pos (by omega), show (conv (rd_T33 l (i : Int))).f0.f0 = (rd_T33 l (i : Int)).f0.f0 from rfl, show (conv (rd_T33 l (i : Int))).f0.f1 = (rd_T33 l (i : Int)).f0.f1 from rfl, show (conv (rd_T33 l (i : Int))).f1 = (rd_T33 l (i : Int)).f1 from rfl, if_pos rfl, if_neg (by simp), wrap_id (by omega) (by omega)]
    exact ih (i + 1) k (by omega) (by omega)
theorem SnapRests : valancelaw11_SnapRests.Pure := by
  intro kind l p m w _ _ _ _ _ _ _
  obtain ⟨k, hk⟩ : ∃ k : Nat, 900 < k := ⟨1000, by decide⟩
  refine ⟨k, ?_⟩
  unfold valancelaw11_SnapRests.f
  rw [works_eq]
  simp only [Option.bind_some, if_true]
  refine ite_ (fun _ => rfl) (fun h1 => ?_)
  rw [of_eq l (by omega) k (by omega)]
  simp only [Option.bind_some]
  exact rests_l0 kind l p m w (by omega) l.length 0 k (by omega) (by omega)
end Go.Proofs.Ytnmcefpnpfaklac.Pure
