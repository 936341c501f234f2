/-
  No cell of these rows narrows 'for every input' (looked for: loops, veiled, ifaces, maps, wideKeys, modest, calm, conditions, laid).
  DERIVED. THE GIVEN ROWS OF THIS SEAT. 3 by the template 'for every input the law returns true; each argument reads behind the call as it read before'; 0 by the template 'total and deterministic' (their statements: YtnmcefpnpfaklaeTotals.lean).
  GIVEN WITH THE SEED: the statements are not yours to turn. If you find one false, say at which input.
  Laid BY PROGRAM, IN A SANDBOX (cutbox-rows.mjs): the forced cells as the released guide's own fill.sh prints them over the translation aec7943b6a1d6f24… (all of the seat's roots in one cut). By AI agents, Wed Nov 11 2026. No macro, syntax, notation, axiom, sorry.
-/
import Derived.Test.YtnmcefpnpfaklaeChecked
import GoSem.Claim
import GoSem.ClaimJoined
import GoSem.ClaimMapViews
import Derived.JoinedTies
import Derived.KernelRfl
namespace Go.Proofs.Ytnmcefpnpfaklae
/- THE CELL 'sum', in the pinned program and in every row, IS THE sha256 OF THE DUMP (.gsa) THAT YtnmcefpnpfaklaeProg.lean LOADS. Nothing in Lean hashes anything: it is a label: what it is worth is what the hold of that sum in a sandbox is worth. -/
noncomputable def Try.pinned : Pinned := { name := "ytnmcefpnpfaklae", sum := "aec7943b6a1d6f24f71cb73d928f3101cd2aa4fca3dea397dca4252d04b9a95a", checked := Try.checked }
namespace Rows
def none {H : Type} : Left H := { results := [], args := [] }

/-- 'valancelaw04.RectSides': WHATEVER THE INPUT: true; the input reads as it did. -/
def rectSidesSpec : ChangeSpec := { name := "rectSides", fn := fun _ => fun
  | [d1, d2] => { results := [.lit (.bool true)], args := [d1, d2] }
  | _ => none }
def rectSidesRow : OpenClaim := { program := "ytnmcefpnpfaklae", sum := "aec7943b6a1d6f24f71cb73d928f3101cd2aa4fca3dea397dca4252d04b9a95a", func := "valance/valancelaw04.RectSides", spec := "rectSides", inPlace := ["math.Float64bits", "math.Float64frombits", "math.archTrunc"], apart := false }
def RectSidesSaid : Prop := rectSidesRow.holds Try.pinned (OpenSpec.ofChange rectSidesSpec)

/-- ITS FALSE NEIGHBOUR: 'it returns false'. Refute it at one input. -/
def rectSidesWrong : ChangeSpec := { name := "rectSides", fn := fun _ => fun
  | [d1, d2] => { results := [.lit (.bool false)], args := [d1, d2] }
  | _ => none }
def RectSidesWrongFalsely : Prop := rectSidesRow.holds Try.pinned (OpenSpec.ofChange rectSidesWrong)

/-- 'valancelaw04.RectCorners': WHATEVER THE INPUT: true; the input reads as it did. -/
def rectCornersSpec : ChangeSpec := { name := "rectCorners", fn := fun _ => fun
  | [d1, d2, d3, d4, d5] => { results := [.lit (.bool true)], args := [d1, d2, d3, d4, d5] }
  | _ => none }
def rectCornersRow : OpenClaim := { program := "ytnmcefpnpfaklae", sum := "aec7943b6a1d6f24f71cb73d928f3101cd2aa4fca3dea397dca4252d04b9a95a", func := "valance/valancelaw04.RectCorners", spec := "rectCorners", inPlace := ["math.Float64bits", "math.Float64frombits", "math.archTrunc"], apart := false }
def RectCornersSaid : Prop := rectCornersRow.holds Try.pinned (OpenSpec.ofChange rectCornersSpec)

/-- ITS FALSE NEIGHBOUR: 'it returns false'. Refute it at one input. -/
def rectCornersWrong : ChangeSpec := { name := "rectCorners", fn := fun _ => fun
  | [d1, d2, d3, d4, d5] => { results := [.lit (.bool false)], args := [d1, d2, d3, d4, d5] }
  | _ => none }
def RectCornersWrongFalsely : Prop := rectCornersRow.holds Try.pinned (OpenSpec.ofChange rectCornersWrong)

/-- 'valancelaw04.RectFar': WHATEVER THE INPUT: true; the input reads as it did. -/
def rectFarSpec : ChangeSpec := { name := "rectFar", fn := fun _ => fun
  | [d1, d2, d3, d4] => { results := [.lit (.bool true)], args := [d1, d2, d3, d4] }
  | _ => none }
def rectFarRow : OpenClaim := { program := "ytnmcefpnpfaklae", sum := "aec7943b6a1d6f24f71cb73d928f3101cd2aa4fca3dea397dca4252d04b9a95a", func := "valance/valancelaw04.RectFar", spec := "rectFar", inPlace := ["math.Float64bits", "math.Float64frombits", "math.archTrunc"], apart := false }
def RectFarSaid : Prop := rectFarRow.holds Try.pinned (OpenSpec.ofChange rectFarSpec)

/-- ITS FALSE NEIGHBOUR: 'it returns false'. Refute it at one input. -/
def rectFarWrong : ChangeSpec := { name := "rectFar", fn := fun _ => fun
  | [d1, d2, d3, d4] => { results := [.lit (.bool false)], args := [d1, d2, d3, d4] }
  | _ => none }
def RectFarWrongFalsely : Prop := rectFarRow.holds Try.pinned (OpenSpec.ofChange rectFarWrong)

/- THE SECOND FORM. 'bulk': how many values and letters a reading holds, each counted each time it is reached (what is shared counts as often as it is met; a slice's spare places count too). A statement '..UptoSaid' is the law's where the arguments, and the package variables that the reading takes, are together of bulk at most 1048576: NARROWER than '..Said'. Prove '..Said' where nothing that the law and all that it calls make is longer than what came in: it says more and counts as full. Else prove '..UptoSaid'. A law counts once. -/
mutual
def uptoBulk {H : Type} : DataW H → Nat
  | .lit (.string bytes) => bytes.length + 1
  | .lit _ => 1
  | .nil => 1
  | .ptr d => uptoBulk d + 1
  | .slice elems spare => uptoBulkAll elems + uptoBulkAll spare + 1
  | .agg parts => uptoBulkAll parts + 1
  | .iface _ d => uptoBulk d + 1
  | .map entries => uptoBulkEntries entries + 1
  | .held _ => 1
def uptoBulkAll {H : Type} : List (DataW H) → Nat
  | [] => 0
  | d :: r => uptoBulk d + uptoBulkAll r
def uptoBulkEntries {H : Type} : List (Lit × DataW H) → Nat
  | [] => 0
  | x :: r => uptoBulkEntry x + uptoBulkEntries r
def uptoBulkEntry {H : Type} : Lit × DataW H → Nat
  | (.string bytes, d) => bytes.length + uptoBulk d + 1
  | (_, d) => uptoBulk d + 1
 end
def uptoSmall : (H : Type) → List (DataW H) → Bool := fun _ ds => decide (uptoBulkAll ds ≤ 1048576)
def OpenSpec.upto (s : _root_.Go.ChangeSpec) : _root_.Go.OpenSpec := { _root_.Go.OpenSpec.ofChange s with cond := some uptoSmall }

/-- 'valancelaw04.RectSides', WHERE WHAT IT READS IS OF BULK AT MOST 1048576: true; the input reads as it did. -/
def rectSidesUptoRow : OpenClaim := { program := "ytnmcefpnpfaklae", sum := "aec7943b6a1d6f24f71cb73d928f3101cd2aa4fca3dea397dca4252d04b9a95a", func := "valance/valancelaw04.RectSides", spec := "rectSides", inPlace := ["math.Float64bits", "math.Float64frombits", "math.archTrunc"], apart := false, narrowed := true }
def RectSidesUptoSaid : Prop := rectSidesUptoRow.holds Try.pinned (OpenSpec.upto rectSidesSpec)

/-- 'valancelaw04.RectCorners', WHERE WHAT IT READS IS OF BULK AT MOST 1048576: true; the input reads as it did. -/
def rectCornersUptoRow : OpenClaim := { program := "ytnmcefpnpfaklae", sum := "aec7943b6a1d6f24f71cb73d928f3101cd2aa4fca3dea397dca4252d04b9a95a", func := "valance/valancelaw04.RectCorners", spec := "rectCorners", inPlace := ["math.Float64bits", "math.Float64frombits", "math.archTrunc"], apart := false, narrowed := true }
def RectCornersUptoSaid : Prop := rectCornersUptoRow.holds Try.pinned (OpenSpec.upto rectCornersSpec)

/-- 'valancelaw04.RectFar', WHERE WHAT IT READS IS OF BULK AT MOST 1048576: true; the input reads as it did. -/
def rectFarUptoRow : OpenClaim := { program := "ytnmcefpnpfaklae", sum := "aec7943b6a1d6f24f71cb73d928f3101cd2aa4fca3dea397dca4252d04b9a95a", func := "valance/valancelaw04.RectFar", spec := "rectFar", inPlace := ["math.Float64bits", "math.Float64frombits", "math.archTrunc"], apart := false, narrowed := true }
def RectFarUptoSaid : Prop := rectFarUptoRow.holds Try.pinned (OpenSpec.upto rectFarSpec)

end Rows
end Go.Proofs.Ytnmcefpnpfaklae
