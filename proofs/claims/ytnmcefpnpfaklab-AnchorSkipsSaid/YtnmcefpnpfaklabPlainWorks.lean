/- The example that each Anchor law begins with comes to true. -/
import Derived.Test.YtnmcefpnpfaklabPlainPick
import Derived.Test.YtnmcefpnpfaklabVx21
namespace Go.Proofs.Ytnmcefpnpfaklab.Plain
open Go.RowKit Go.Proofs.Ytnmcefpnpfaklab.V Go.Proofs.YtnmcefpnpfaklabW.PrintWords
theorem up_of {α : Type} {g : Nat → Option α} (hm : ∀ k, LeO (g k) (g (k + 1))) {k0 : Nat} {r : α} (h : g k0 = some r) (k : Nat) (hk : k0 ≤ k) : g k = some r := by
  induction k with
  | zero => obtain rfl : k0 = 0 := by omega
            exact h
  | succ k ih =>
    by_cases e : k0 = k + 1
    · subst e; exact h
    · exact hm k r (ih (by omega))
theorem works_eq (k : Nat) (hk : 60 ≤ k) : valancelaw12_works.f k = some true := up_of valancelaw12_works.mono (k0 := 60) (by decide +kernel) k hk
end Go.Proofs.Ytnmcefpnpfaklab.Plain
