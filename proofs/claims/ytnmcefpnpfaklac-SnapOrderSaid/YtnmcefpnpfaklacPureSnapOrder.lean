/- The law SnapOrder holds of the printed functions, for all areas and whole numbers of 64 bits. -/
import Derived.Test.YtnmcefpnpfaklacPlainSnap
import Derived.Test.YtnmcefpnpfaklacVx0
import Derived.Test.YtnmcefpnpfaklacVx1
import Derived.Test.YtnmcefpnpfaklacVx5
import Derived.Test.YtnmcefpnpfaklacVx7
import Derived.Test.YtnmcefpnpfaklacVx26
namespace Go.Proofs.Ytnmcefpnpfaklac.Pure
open Go.RowKit Go.Proofs.Ytnmcefpnpfaklac.V Go.Proofs.Ytnmcefpnpfaklac.Plain Go.Proofs.YtnmcefpnpfaklacW.PrintWords Go.Proofs.YtnmcefpnpfaklacW.PrintLast Go.Proofs.YtnmcefpnpfaklacW.PrintMore
theorem rest_1 (l : List S33) (p m w : Int) (h0 : 0 < (vstops l p m).length) : ∃ j : Nat, j < (vstops l p m).length ∧ vrest 1 l p m w = rd (vstops l p m) j ∧ ∀ i : Nat, i < (vstops l p m).length → vfar (rd (vstops l p m) j) (liked m w) ≤ vfar (rd (vstops l p m) i) (liked m w) := by
  have hb := best_bst (vstops l p m) (liked m w)
  have h1 := hb.lo h0
  have h2 := hb.hi
  refine ⟨(vbst (vstops l p m) (liked m w) (vstops l p m).length 0 (-1)).toNat, by omega, ?_, fun i hi => ?_⟩
  · unfold vrest; dsimp only; rw [if_neg (by omega), if_pos rfl, Int.toNat_of_nonneg h1]
  · rw [Int.toNat_of_nonneg h1]; exact hb.least i hi
theorem rd_pre (a b : List Int) (j : Nat) (h : j < a.length) : rd (a ++ b) j = rd a j := by
  unfold rd
  rw [List.getD_eq_getElem?_getD, List.getD_eq_getElem?_getD, List.getElem?_append_left (by omega)]
theorem SnapOrder : valancelaw11_SnapOrder.Pure := by
  intro l lo hi e p m w more _ _ _ _ _ _ _ _ _ _
  refine ⟨2, ?_⟩
  unfold valancelaw11_SnapOrder.f
  rw [works_eq]
  simp only [Option.bind_some, if_true]
  have yes : valancelaw11_SnapOrder.j0 2 l p m w more true true lo hi e = some true := by simp only [valancelaw11_SnapOrder.j0]; rfl
  refine ite_ (fun _ => yes) (fun h1 => ite_ (fun _ => yes) (fun h2 => ite_ (fun _ => yes) (fun h3 => ite_ (fun _ => yes) (fun h4 => ite_ (fun _ => yes) (fun h5 => ite_ (fun _ => yes) (fun h6 => ite_ (fun _ => yes) (fun h7 => ?_)))))))
  rw [stops_eq l p m (by omega)]
  simp only [Option.bind_some]
  by_cases h8 : (vstops l p m).length = 0
  · rw [h8]; exact yes
  rw [show (((vstops l p m).length : Int) == 0) = false by simp; intro h; exact h8 (by simp [h])]
  simp only [valancelaw11_SnapOrder.j0, Bool.false_eq_true, if_false, Option.bind_some, List.nil_append, List.length_nil, Nat.zero_add]
  rw [wrap_id (x := w + more) (by omega) (by omega), rest_eq 1 l p m w (by omega), rest_eq 1 l p m (w + more) (by omega)]
  simp only [Option.bind_some]
  rw [if_pos (by omega), if_pos (by omega), rest_eq 1 _ p m w (by simp; omega)]
  simp only [Option.bind_some, if_true]
  have hm : mx m 0 = m := by unfold mx; split <;> omega
  have hw : liked m w = w := liked_id (by omega) (by omega) (by omega)
  have hw2 := liked_in m (w + more)
  have hw3 : w ≤ liked m (w + more) := by unfold liked vclamp vcut mx mn at *; (repeat' split) <;> omega
  have hw4 : more = 0 → liked m (w + more) = w := by intro h; rw [h, Int.add_zero]; exact hw
  obtain ⟨j, hj, e1, l1⟩ := rest_1 l p m w (by omega)
  obtain ⟨q, hq, e2, l2⟩ := rest_1 l p m (w + more) (by omega)
  have happ : vstops (l ++ [(⟨(⟨lo, hi⟩ : S30), e⟩ : S33)]) p m = vstops l p m ++ vstops [(⟨(⟨lo, hi⟩ : S30), e⟩ : S33)] p m := by
    unfold vstops; rw [List.filter_append, List.map_append]
  obtain ⟨r, hr, e3, l3⟩ := rest_1 (l ++ [(⟨(⟨lo, hi⟩ : S30), e⟩ : S33)]) p m w (by rw [happ, List.length_append]; omega)
  have bj := stops_in l p m j hj
  have bq := stops_in l p m q hq
  have br := stops_in _ p m r hr
  rw [hm] at bj bq br hw2
  rw [e1, e2, e3]
  have c1 := l1 q hq
  have c2 := l2 j hj
  have c3 := l3 j (by rw [happ, List.length_append]; omega)
  rw [hw] at c1 c3
  rw [happ, rd_pre _ _ j hj, ← happ] at c3
  rw [vfar_in (by omega) (by omega) (by omega) (by omega), vfar_in (by omega) (by omega) (by omega) (by omega)] at c1 c2 c3
  rw [wrap_id (by omega) (by omega), wrap_id (by omega) (by omega), wrap_id (by omega) (by omega), wrap_id (by omega) (by omega), decide_eq_true c3]
  by_cases hle : rd (vstops l p m) j ≤ rd (vstops l p m) q
  · rw [if_pos hle]
  · exfalso
    by_cases h0 : liked m (w + more) = w
    · have : vrest 1 l p m (w + more) = vrest 1 l p m w := by unfold vrest; rw [h0, hw]
      rw [e1, e2] at this; omega
    · unfold mx at c1 c2
      (repeat' split at c1) <;> (repeat' split at c2) <;> omega
end Go.Proofs.Ytnmcefpnpfaklac.Pure
