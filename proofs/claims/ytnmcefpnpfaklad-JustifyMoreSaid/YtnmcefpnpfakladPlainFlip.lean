/- Flipping, comparing rows, and the example that each Justify law begins with, in closed words. -/
import Derived.Test.YtnmcefpnpfakladPlainJust
import Derived.Test.YtnmcefpnpfakladVx0
import Derived.Test.YtnmcefpnpfakladVx2
import Derived.Test.YtnmcefpnpfakladVx3
import Derived.Test.YtnmcefpnpfakladVx5
import Derived.Test.YtnmcefpnpfakladVx10
import Derived.Test.YtnmcefpnpfakladVx12
import Derived.Test.YtnmcefpnpfakladVx13
import Derived.Test.YtnmcefpnpfakladVx14
import Derived.Test.YtnmcefpnpfakladVx15
namespace Go.Proofs.Ytnmcefpnpfaklad.Plain
open Go.RowKit Go.Proofs.Ytnmcefpnpfaklad.V Go.Proofs.YtnmcefpnpfakladW.PrintWords Go.Proofs.YtnmcefpnpfakladW.PrintMore
theorem works_eq (k : Nat) (hk : 20 ≤ k) : valancelaw09_works.f k = some true := up_of valancelaw09_works.mono (k0 := 20) (by decide +kernel) k hk
theorem row_l0 (a b : List Int) (hl : a.length = b.length) (hn : a.length ≤ 17592186044416) (he : ∀ j : Nat, j < a.length → rd a j = rd b j) : ∀ (d i k : Nat), i + d = a.length → d < k → valanceref06_Row.l0 k a b i = some true := by
  intro d
  induction d with
  | zero =>
    intro i k hd hk
    obtain ⟨k, rfl⟩ : ∃ m, k = m + 1 := ⟨k - 1, by omega⟩
    simp only [valanceref06_Row.l0]
    rw [if_neg (by omega)]
  | succ d ih =>
    intro i k hd hk
    obtain ⟨k, rfl⟩ : ∃ m, k = m + 1 := ⟨k - 1, by omega⟩
    simp only [valanceref06_Row.l0]
    rw [if_pos (by omega), if_pos (by omega), if_pos (by omega), if_pos (he i (by omega)), wrap_id (by omega) (by omega)]
    exact ih (i + 1) k (by omega) (by omega)
theorem row_eq (a b : List Int) (hl : a.length = b.length) (hn : a.length ≤ 17592186044416) (he : ∀ j : Nat, j < a.length → rd a j = rd b j) (k : Nat) (hk : a.length < k) : valanceref06_Row.f k a b = some true := by
  unfold valanceref06_Row.f
  rw [if_pos (by omega)]
  exact row_l0 a b hl hn he a.length 0 k (by omega) hk
/-- What Flip comes to. -/
def vfl (a l : List Int) (room : Int) : Nat → Nat → List Int → List Int
  | 0, _, out => out
  | d + 1, i, out => vfl a l room d (i + 1) (out ++ [vsub room (vadd (rd a i) (rd l i))])
theorem vfl_len (a l : List Int) (room : Int) : ∀ (d i : Nat) (out : List Int), (vfl a l room d i out).length = out.length + d := by
  intro d
  induction d with
  | zero => intro i out; rfl
  | succ d ih => intro i out; simp only [vfl]; rw [ih]; simp; omega
theorem vfl_rd (a l : List Int) (room : Int) : ∀ (d i : Nat) (out : List Int), out.length = i → (∀ j : Nat, j < i → rd out j = vsub room (vadd (rd a j) (rd l j))) →
    ∀ j : Nat, j < i + d → rd (vfl a l room d i out) j = vsub room (vadd (rd a j) (rd l j)) := by
  intro d
  induction d with
  | zero => intro i out _ ho j hj; exact ho j (by omega)
  | succ d ih =>
    intro i out hl ho j hj
    simp only [vfl]
    refine ih (i + 1) _ (by rw [List.length_append, hl]; rfl) (fun j hj => ?_) j (by omega)
    by_cases e : j = i
    · subst e; rw [← hl, rd_app_eq, hl]
    · rw [rd_app_lt _ _ _ (by omega)]; exact ho j (by omega)
theorem flip_l0 (a l : List Int) (room : Int) (hl : a.length = l.length) (hn : l.length ≤ 17592186044415) : ∀ (d i k : Nat) (out : List Int), i + d = l.length → out.length = i → d < k → justify_Flip.l0 k a room out l (l.length : Int) i = some (vfl a l room d i out) := by
  intro d
  induction d with
  | zero =>
    intro i k out hd ho hk
    obtain ⟨k, rfl⟩ : ∃ m, k = m + 1 := ⟨k - 1, by omega⟩
    simp only [justify_Flip.l0]
    rw [if_neg (by omega)]; rfl
  | succ d ih =>
    intro i k out hd ho hk
    obtain ⟨k, rfl⟩ : ∃ m, k = m + 1 := ⟨k - 1, by omega⟩
    simp only [justify_Flip.l0, fix_Add_eq, fix_Sub_eq, Option.bind_some]
    rw [if_pos (by omega), if_pos (by omega), if_pos (by omega), if_pos (by omega), if_pos (by omega), wrap_id (by omega) (by omega)]
    exact ih (i + 1) k _ (by omega) (by rw [List.length_append, ho]; rfl) (by omega)
theorem flip_eq (a l : List Int) (room : Int) (hl : a.length = l.length) (hn : l.length ≤ 17592186044415) (k : Nat) (hk : l.length < k) : justify_Flip.f k a l room = some (vfl a l room l.length 0 []) := by
  unfold justify_Flip.f
  rw [if_pos (by omega)]
  exact flip_l0 a l room hl hn l.length 0 k [] (by omega) rfl hk
theorem flip_rd (a l : List Int) (room : Int) (j : Nat) (hj : j < l.length) : rd (vfl a l room l.length 0 []) j = vsub room (vadd (rd a j) (rd l j)) :=
  vfl_rd a l room l.length 0 [] rfl (fun j hj => by omega) j (by omega)
theorem flip_len (a l : List Int) (room : Int) : (vfl a l room l.length 0 []).length = l.length := by rw [vfl_len]; simp
def vacross (kind size room : Int) : Int := if kind = 2 then vdivd (vsub room size) 2 else if kind = 3 then vsub room size else 0
theorem across_eq (kind size room : Int) : justify_Across.f kind size room = some (vacross kind size room) := by
  unfold justify_Across.f vacross
  simp only [fix_Sub_eq, fix_Div_eq, Option.bind_some]
  by_cases h2 : kind = 2
  · rw [if_pos h2, if_pos h2]
  · rw [if_neg h2, if_neg h2]
    by_cases h3 : kind = 3
    · rw [if_pos h3, if_pos h3]
    · rw [if_neg h3, if_neg h3]
end Go.Proofs.Ytnmcefpnpfaklad.Plain
