/- The law SnapFew holds of the printed functions, for all areas and whole numbers of 64 bits. -/
import Derived.Test.YtnmcefpnpfaklacPlainSnap
import Derived.Test.YtnmcefpnpfaklacVx0
import Derived.Test.YtnmcefpnpfaklacVx4
import Derived.Test.YtnmcefpnpfaklacVx5
import Derived.Test.YtnmcefpnpfaklacVx29
namespace Go.Proofs.Ytnmcefpnpfaklac.Pure
open Go.RowKit Go.Proofs.Ytnmcefpnpfaklac.V Go.Proofs.Ytnmcefpnpfaklac.Plain Go.Proofs.YtnmcefpnpfaklacW.PrintWords Go.Proofs.YtnmcefpnpfaklacW.PrintLast Go.Proofs.YtnmcefpnpfaklacW.PrintMore
theorem at_eq (lo hi e p : Int) : snap_At.f lo hi e p = some (vatn lo hi e p, vatok e) := snap_At_eq lo hi e p
theorem few_l0 (l : List S33) (p m : Int) (hl : l.length ≤ 300) : ∀ (d i k : Nat), i + d = l.length → 2 * d < k → valancelaw11_SnapFew.l0 k l p m true (vstops l p m) ((vstops (l.take i) p m).length : Int) i = some true := by
  intro d
  induction d with
  | zero =>
    intro i k hd hk
    obtain ⟨k, rfl⟩ : ∃ m, k = m + 1 := ⟨k - 1, by omega⟩
    simp only [valancelaw11_SnapFew.l0]
    rw [if_neg (by omega), if_pos trivial, show i = l.length by omega, List.take_length, if_pos rfl, stops_eq [] p m (by simp)]
    simp [vstops]
  | succ d ih =>
    intro i k hd hk
    obtain ⟨k, rfl⟩ : ∃ m, k = m + 2 := ⟨k - 2, by omega⟩
    have hi : i < l.length := by omega
    have ih' := ih (i + 1) k (by omega) (by omega)
    simp only [valancelaw11_SnapFew.l0, valancelaw11_SnapFew.j1, at_eq, Option.bind_some]
    rw [if_pos (by omega), if_pos (by omega), wrap_id (x := (i : Int) + 1) (by omega) (by omega)]
    obtain ⟨h, hh⟩ : ∃ h, h = vhit p m (rd_T33 l i) := ⟨_, rfl⟩
    have hv := hh
    unfold vhit at hv
    cases h with
    | false =>
      rw [vstops_miss l p m i hi hh.symm] at ih'
      by_cases h1 : vatok (rd_T33 l i).f1 = true
      · rw [if_pos h1]
        by_cases h2 : vatn (rd_T33 l i).f0.f0 (rd_T33 l i).f0.f1 (rd_T33 l i).f1 p < 0
        · rw [if_pos h2, if_pos trivial]; exact ih'
        · have h3 : vatn (rd_T33 l i).f0.f0 (rd_T33 l i).f0.f1 (rd_T33 l i).f1 p > mx m 0 := by
            rw [h1, Bool.true_and, decide_eq_true (show 0 ≤ vatn (rd_T33 l i).f0.f0 (rd_T33 l i).f0.f1 (rd_T33 l i).f1 p by omega), Bool.true_and] at hv
            have := of_decide_eq_false hv.symm
            omega
          rw [if_neg h2, decide_eq_true h3, if_pos rfl]; exact ih'
      · rw [if_neg h1, if_pos trivial]; exact ih'
    | true =>
      simp at hv
      obtain ⟨h1, h2, h3⟩ := hv
      rw [if_pos h1, if_neg (by omega), decide_eq_false (by omega), if_neg (by simp)]
      have e := vstops_hit l p m i hi hh.symm
      rw [e, List.length_append] at ih'
      have pre : (vstops (l.take (i + 1)) p m).length ≤ (vstops l p m).length ∧ rd (vstops l p m) ((vstops (l.take i) p m).length : Int) = vatn (rd_T33 l i).f0.f0 (rd_T33 l i).f0.f1 (rd_T33 l i).f1 p := by
        have split : vstops l p m = vstops (l.take (i + 1)) p m ++ vstops (l.drop (i + 1)) p m := by
          unfold vstops
          rw [← List.map_append, ← List.filter_append, List.take_append_drop]
        rw [split]
        refine ⟨by rw [List.length_append]; omega, ?_⟩
        rw [e]
        unfold rd
        simp [List.getD_eq_getElem?_getD]
      have pl := pre.1
      rw [e, List.length_append] at pl
      have one : [vatn (rd_T33 l i).f0.f0 (rd_T33 l i).f0.f1 (rd_T33 l i).f1 p].length = 1 := rfl
      have hln := vstops_len l p m
      rw [if_neg (by omega), if_pos (by omega), if_pos (by omega), if_pos pre.2, wrap_id (by omega) (by omega)]
      rw [← ih']; congr 1
theorem SnapFew : valancelaw11_SnapFew.Pure := by
  intro l p m _ _ _ _ _
  obtain ⟨k, hk⟩ : ∃ k : Nat, 900 < k := ⟨1000, by decide⟩
  refine ⟨k, ?_⟩
  unfold valancelaw11_SnapFew.f
  rw [works_eq]
  simp only [Option.bind_some, if_true]
  refine ite_ (fun _ => rfl) (fun h1 => ?_)
  rw [stops_eq l p m (by omega)]
  simp only [Option.bind_some]
  exact few_l0 l p m (by omega) l.length 0 k (by omega) (by omega)
end Go.Proofs.Ytnmcefpnpfaklac.Pure
