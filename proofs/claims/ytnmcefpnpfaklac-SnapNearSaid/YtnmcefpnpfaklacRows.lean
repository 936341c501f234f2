/-
  No cell of these rows narrows 'for every input' (looked for: loops, veiled, ifaces, maps, wideKeys, modest, calm, conditions, laid).
  DERIVED. THE GIVEN ROWS OF THIS SEAT. 12 by the template 'for every input the law returns true; each argument reads behind the call as it read before'; 0 by the template 'total and deterministic' (their statements: YtnmcefpnpfaklacTotals.lean).
  GIVEN WITH THE SEED: the statements are not yours to turn. If you find one false, say at which input.
  Laid BY PROGRAM, IN A SANDBOX (cutbox-rows.mjs): the forced cells as the released guide's own fill.sh prints them over the translation 2f07ab58c8d47d6b… (all of the seat's roots in one cut). By AI agents, Wed Nov 11 2026. No macro, syntax, notation, axiom, sorry.
-/
import Derived.Test.YtnmcefpnpfaklacChecked
import GoSem.Claim
import GoSem.ClaimJoined
import GoSem.ClaimMapViews
import Derived.JoinedTies
import Derived.KernelRfl
namespace Go.Proofs.Ytnmcefpnpfaklac
/- THE CELL 'sum', in the pinned program and in every row, IS THE sha256 OF THE DUMP (.gsa) THAT YtnmcefpnpfaklacProg.lean LOADS. Nothing in Lean hashes anything: it is a label: what it is worth is what the hold of that sum in a sandbox is worth. -/
noncomputable def Try.pinned : Pinned := { name := "ytnmcefpnpfaklac", sum := "2f07ab58c8d47d6b6b07a0d1fae3d933b0e946dc47653a22066a26aae2caf57e", checked := Try.checked }
namespace Rows
def none {H : Type} : Left H := { results := [], args := [] }

/-- 'valancelaw11.SnapRests': WHATEVER THE INPUT: true; the input reads as it did. -/
def snapRestsSpec : ChangeSpec := { name := "snapRests", fn := fun _ => fun
  | [d1, d2, d3, d4, d5] => { results := [.lit (.bool true)], args := [d1, d2, d3, d4, d5] }
  | _ => none }
def snapRestsRow : OpenClaim := { program := "ytnmcefpnpfaklac", sum := "2f07ab58c8d47d6b6b07a0d1fae3d933b0e946dc47653a22066a26aae2caf57e", func := "valance/valancelaw11.SnapRests", spec := "snapRests", unfollowed := true, recurses := true, apart := false }
def SnapRestsSaid : Prop := snapRestsRow.holds Try.pinned (OpenSpec.ofChange snapRestsSpec)

/-- ITS FALSE NEIGHBOUR: 'it returns false'. Refute it at one input. -/
def snapRestsWrong : ChangeSpec := { name := "snapRests", fn := fun _ => fun
  | [d1, d2, d3, d4, d5] => { results := [.lit (.bool false)], args := [d1, d2, d3, d4, d5] }
  | _ => none }
def SnapRestsWrongFalsely : Prop := snapRestsRow.holds Try.pinned (OpenSpec.ofChange snapRestsWrong)

/-- 'valancelaw11.SnapBest': WHATEVER THE INPUT: true; the input reads as it did. -/
def snapBestSpec : ChangeSpec := { name := "snapBest", fn := fun _ => fun
  | [d1, d2] => { results := [.lit (.bool true)], args := [d1, d2] }
  | _ => none }
def snapBestRow : OpenClaim := { program := "ytnmcefpnpfaklac", sum := "2f07ab58c8d47d6b6b07a0d1fae3d933b0e946dc47653a22066a26aae2caf57e", func := "valance/valancelaw11.SnapBest", spec := "snapBest", unfollowed := true, recurses := true, apart := false }
def SnapBestSaid : Prop := snapBestRow.holds Try.pinned (OpenSpec.ofChange snapBestSpec)

/-- ITS FALSE NEIGHBOUR: 'it returns false'. Refute it at one input. -/
def snapBestWrong : ChangeSpec := { name := "snapBest", fn := fun _ => fun
  | [d1, d2] => { results := [.lit (.bool false)], args := [d1, d2] }
  | _ => none }
def SnapBestWrongFalsely : Prop := snapBestRow.holds Try.pinned (OpenSpec.ofChange snapBestWrong)

/-- 'valancelaw11.SnapWithin': WHATEVER THE INPUT: true; the input reads as it did. -/
def snapWithinSpec : ChangeSpec := { name := "snapWithin", fn := fun _ => fun
  | [d1, d2, d3, d4, d5] => { results := [.lit (.bool true)], args := [d1, d2, d3, d4, d5] }
  | _ => none }
def snapWithinRow : OpenClaim := { program := "ytnmcefpnpfaklac", sum := "2f07ab58c8d47d6b6b07a0d1fae3d933b0e946dc47653a22066a26aae2caf57e", func := "valance/valancelaw11.SnapWithin", spec := "snapWithin", unfollowed := true, recurses := true, apart := false }
def SnapWithinSaid : Prop := snapWithinRow.holds Try.pinned (OpenSpec.ofChange snapWithinSpec)

/-- ITS FALSE NEIGHBOUR: 'it returns false'. Refute it at one input. -/
def snapWithinWrong : ChangeSpec := { name := "snapWithin", fn := fun _ => fun
  | [d1, d2, d3, d4, d5] => { results := [.lit (.bool false)], args := [d1, d2, d3, d4, d5] }
  | _ => none }
def SnapWithinWrongFalsely : Prop := snapWithinRow.holds Try.pinned (OpenSpec.ofChange snapWithinWrong)

/-- 'valancelaw11.SnapOrder': WHATEVER THE INPUT: true; the input reads as it did. -/
def snapOrderSpec : ChangeSpec := { name := "snapOrder", fn := fun _ => fun
  | [d1, d2, d3, d4, d5, d6] => { results := [.lit (.bool true)], args := [d1, d2, d3, d4, d5, d6] }
  | _ => none }
def snapOrderRow : OpenClaim := { program := "ytnmcefpnpfaklac", sum := "2f07ab58c8d47d6b6b07a0d1fae3d933b0e946dc47653a22066a26aae2caf57e", func := "valance/valancelaw11.SnapOrder", spec := "snapOrder", unfollowed := true, recurses := true, apart := false }
def SnapOrderSaid : Prop := snapOrderRow.holds Try.pinned (OpenSpec.ofChange snapOrderSpec)

/-- ITS FALSE NEIGHBOUR: 'it returns false'. Refute it at one input. -/
def snapOrderWrong : ChangeSpec := { name := "snapOrder", fn := fun _ => fun
  | [d1, d2, d3, d4, d5, d6] => { results := [.lit (.bool false)], args := [d1, d2, d3, d4, d5, d6] }
  | _ => none }
def SnapOrderWrongFalsely : Prop := snapOrderRow.holds Try.pinned (OpenSpec.ofChange snapOrderWrong)

/-- 'valancelaw11.SnapEdges': WHATEVER THE INPUT: true; the input reads as it did. -/
def snapEdgesSpec : ChangeSpec := { name := "snapEdges", fn := fun _ => fun
  | [d1, d2] => { results := [.lit (.bool true)], args := [d1, d2] }
  | _ => none }
def snapEdgesRow : OpenClaim := { program := "ytnmcefpnpfaklac", sum := "2f07ab58c8d47d6b6b07a0d1fae3d933b0e946dc47653a22066a26aae2caf57e", func := "valance/valancelaw11.SnapEdges", spec := "snapEdges", unfollowed := true, recurses := true, apart := false }
def SnapEdgesSaid : Prop := snapEdgesRow.holds Try.pinned (OpenSpec.ofChange snapEdgesSpec)

/-- ITS FALSE NEIGHBOUR: 'it returns false'. Refute it at one input. -/
def snapEdgesWrong : ChangeSpec := { name := "snapEdges", fn := fun _ => fun
  | [d1, d2] => { results := [.lit (.bool false)], args := [d1, d2] }
  | _ => none }
def SnapEdgesWrongFalsely : Prop := snapEdgesRow.holds Try.pinned (OpenSpec.ofChange snapEdgesWrong)

/-- 'valancelaw11.SnapNear': WHATEVER THE INPUT: true; the input reads as it did. -/
def snapNearSpec : ChangeSpec := { name := "snapNear", fn := fun _ => fun
  | [d1, d2, d3, d4] => { results := [.lit (.bool true)], args := [d1, d2, d3, d4] }
  | _ => none }
def snapNearRow : OpenClaim := { program := "ytnmcefpnpfaklac", sum := "2f07ab58c8d47d6b6b07a0d1fae3d933b0e946dc47653a22066a26aae2caf57e", func := "valance/valancelaw11.SnapNear", spec := "snapNear", unfollowed := true, recurses := true, apart := false }
def SnapNearSaid : Prop := snapNearRow.holds Try.pinned (OpenSpec.ofChange snapNearSpec)

/-- ITS FALSE NEIGHBOUR: 'it returns false'. Refute it at one input. -/
def snapNearWrong : ChangeSpec := { name := "snapNear", fn := fun _ => fun
  | [d1, d2, d3, d4] => { results := [.lit (.bool false)], args := [d1, d2, d3, d4] }
  | _ => none }
def SnapNearWrongFalsely : Prop := snapNearRow.holds Try.pinned (OpenSpec.ofChange snapNearWrong)

/-- 'valancelaw11.SnapFew': WHATEVER THE INPUT: true; the input reads as it did. -/
def snapFewSpec : ChangeSpec := { name := "snapFew", fn := fun _ => fun
  | [d1, d2, d3] => { results := [.lit (.bool true)], args := [d1, d2, d3] }
  | _ => none }
def snapFewRow : OpenClaim := { program := "ytnmcefpnpfaklac", sum := "2f07ab58c8d47d6b6b07a0d1fae3d933b0e946dc47653a22066a26aae2caf57e", func := "valance/valancelaw11.SnapFew", spec := "snapFew", unfollowed := true, recurses := true, apart := false }
def SnapFewSaid : Prop := snapFewRow.holds Try.pinned (OpenSpec.ofChange snapFewSpec)

/-- ITS FALSE NEIGHBOUR: 'it returns false'. Refute it at one input. -/
def snapFewWrong : ChangeSpec := { name := "snapFew", fn := fun _ => fun
  | [d1, d2, d3] => { results := [.lit (.bool false)], args := [d1, d2, d3] }
  | _ => none }
def SnapFewWrongFalsely : Prop := snapFewRow.holds Try.pinned (OpenSpec.ofChange snapFewWrong)

/-- 'valancelaw06.MarginTells': WHATEVER THE INPUT: true; the input reads as it did. -/
def marginTellsSpec : ChangeSpec := { name := "marginTells", fn := fun _ => fun
  | [d1, d2, d3, d4, d5, d6] => { results := [.lit (.bool true)], args := [d1, d2, d3, d4, d5, d6] }
  | _ => none }
def marginTellsRow : OpenClaim := { program := "ytnmcefpnpfaklac", sum := "2f07ab58c8d47d6b6b07a0d1fae3d933b0e946dc47653a22066a26aae2caf57e", func := "valance/valancelaw06.MarginTells", spec := "marginTells", apart := false }
def MarginTellsSaid : Prop := marginTellsRow.holds Try.pinned (OpenSpec.ofChange marginTellsSpec)

/-- ITS FALSE NEIGHBOUR: 'it returns false'. Refute it at one input. -/
def marginTellsWrong : ChangeSpec := { name := "marginTells", fn := fun _ => fun
  | [d1, d2, d3, d4, d5, d6] => { results := [.lit (.bool false)], args := [d1, d2, d3, d4, d5, d6] }
  | _ => none }
def MarginTellsWrongFalsely : Prop := marginTellsRow.holds Try.pinned (OpenSpec.ofChange marginTellsWrong)

/-- 'valancelaw06.MarginStacks': WHATEVER THE INPUT: true; the input reads as it did. -/
def marginStacksSpec : ChangeSpec := { name := "marginStacks", fn := fun _ => fun
  | [d1, d2, d3] => { results := [.lit (.bool true)], args := [d1, d2, d3] }
  | _ => none }
def marginStacksRow : OpenClaim := { program := "ytnmcefpnpfaklac", sum := "2f07ab58c8d47d6b6b07a0d1fae3d933b0e946dc47653a22066a26aae2caf57e", func := "valance/valancelaw06.MarginStacks", spec := "marginStacks", apart := false }
def MarginStacksSaid : Prop := marginStacksRow.holds Try.pinned (OpenSpec.ofChange marginStacksSpec)

/-- ITS FALSE NEIGHBOUR: 'it returns false'. Refute it at one input. -/
def marginStacksWrong : ChangeSpec := { name := "marginStacks", fn := fun _ => fun
  | [d1, d2, d3] => { results := [.lit (.bool false)], args := [d1, d2, d3] }
  | _ => none }
def MarginStacksWrongFalsely : Prop := marginStacksRow.holds Try.pinned (OpenSpec.ofChange marginStacksWrong)

/-- 'valancelaw06.MarginRoom': WHATEVER THE INPUT: true; the input reads as it did. -/
def marginRoomSpec : ChangeSpec := { name := "marginRoom", fn := fun _ => fun
  | [d1, d2, d3, d4, d5] => { results := [.lit (.bool true)], args := [d1, d2, d3, d4, d5] }
  | _ => none }
def marginRoomRow : OpenClaim := { program := "ytnmcefpnpfaklac", sum := "2f07ab58c8d47d6b6b07a0d1fae3d933b0e946dc47653a22066a26aae2caf57e", func := "valance/valancelaw06.MarginRoom", spec := "marginRoom", apart := false }
def MarginRoomSaid : Prop := marginRoomRow.holds Try.pinned (OpenSpec.ofChange marginRoomSpec)

/-- ITS FALSE NEIGHBOUR: 'it returns false'. Refute it at one input. -/
def marginRoomWrong : ChangeSpec := { name := "marginRoom", fn := fun _ => fun
  | [d1, d2, d3, d4, d5] => { results := [.lit (.bool false)], args := [d1, d2, d3, d4, d5] }
  | _ => none }
def MarginRoomWrongFalsely : Prop := marginRoomRow.holds Try.pinned (OpenSpec.ofChange marginRoomWrong)

/-- 'valancelaw06.MarginPairs': WHATEVER THE INPUT: true; the input reads as it did. -/
def marginPairsSpec : ChangeSpec := { name := "marginPairs", fn := fun _ => fun
  | [d1, d2] => { results := [.lit (.bool true)], args := [d1, d2] }
  | _ => none }
def marginPairsRow : OpenClaim := { program := "ytnmcefpnpfaklac", sum := "2f07ab58c8d47d6b6b07a0d1fae3d933b0e946dc47653a22066a26aae2caf57e", func := "valance/valancelaw06.MarginPairs", spec := "marginPairs", apart := false }
def MarginPairsSaid : Prop := marginPairsRow.holds Try.pinned (OpenSpec.ofChange marginPairsSpec)

/-- ITS FALSE NEIGHBOUR: 'it returns false'. Refute it at one input. -/
def marginPairsWrong : ChangeSpec := { name := "marginPairs", fn := fun _ => fun
  | [d1, d2] => { results := [.lit (.bool false)], args := [d1, d2] }
  | _ => none }
def MarginPairsWrongFalsely : Prop := marginPairsRow.holds Try.pinned (OpenSpec.ofChange marginPairsWrong)

/-- 'valancelaw06.MarginStep': WHATEVER THE INPUT: true; the input reads as it did. -/
def marginStepSpec : ChangeSpec := { name := "marginStep", fn := fun _ => fun
  | [d1, d2, d3, d4, d5, d6] => { results := [.lit (.bool true)], args := [d1, d2, d3, d4, d5, d6] }
  | _ => none }
def marginStepRow : OpenClaim := { program := "ytnmcefpnpfaklac", sum := "2f07ab58c8d47d6b6b07a0d1fae3d933b0e946dc47653a22066a26aae2caf57e", func := "valance/valancelaw06.MarginStep", spec := "marginStep", apart := false }
def MarginStepSaid : Prop := marginStepRow.holds Try.pinned (OpenSpec.ofChange marginStepSpec)

/-- ITS FALSE NEIGHBOUR: 'it returns false'. Refute it at one input. -/
def marginStepWrong : ChangeSpec := { name := "marginStep", fn := fun _ => fun
  | [d1, d2, d3, d4, d5, d6] => { results := [.lit (.bool false)], args := [d1, d2, d3, d4, d5, d6] }
  | _ => none }
def MarginStepWrongFalsely : Prop := marginStepRow.holds Try.pinned (OpenSpec.ofChange marginStepWrong)

/- THE SECOND FORM. 'bulk': how many values and letters a reading holds, each counted each time it is reached (what is shared counts as often as it is met; a slice's spare places count too). A statement '..UptoSaid' is the law's where the arguments, and the package variables that the reading takes, are together of bulk at most 1048576: NARROWER than '..Said'. Prove '..Said' where nothing that the law and all that it calls make is longer than what came in: it says more and counts as full. Else prove '..UptoSaid'. A law counts once. -/
mutual
def uptoBulk {H : Type} : DataW H → Nat
  | .lit (.string bytes) => bytes.length + 1
  | .lit _ => 1
  | .nil => 1
  | .ptr d => uptoBulk d + 1
  | .slice elems spare => uptoBulkAll elems + uptoBulkAll spare + 1
  | .agg parts => uptoBulkAll parts + 1
  | .iface _ d => uptoBulk d + 1
  | .map entries => uptoBulkEntries entries + 1
  | .held _ => 1
def uptoBulkAll {H : Type} : List (DataW H) → Nat
  | [] => 0
  | d :: r => uptoBulk d + uptoBulkAll r
def uptoBulkEntries {H : Type} : List (Lit × DataW H) → Nat
  | [] => 0
  | x :: r => uptoBulkEntry x + uptoBulkEntries r
def uptoBulkEntry {H : Type} : Lit × DataW H → Nat
  | (.string bytes, d) => bytes.length + uptoBulk d + 1
  | (_, d) => uptoBulk d + 1
 end
def uptoSmall : (H : Type) → List (DataW H) → Bool := fun _ ds => decide (uptoBulkAll ds ≤ 1048576)
def OpenSpec.upto (s : _root_.Go.ChangeSpec) : _root_.Go.OpenSpec := { _root_.Go.OpenSpec.ofChange s with cond := some uptoSmall }

/-- 'valancelaw11.SnapRests', WHERE WHAT IT READS IS OF BULK AT MOST 1048576: true; the input reads as it did. -/
def snapRestsUptoRow : OpenClaim := { program := "ytnmcefpnpfaklac", sum := "2f07ab58c8d47d6b6b07a0d1fae3d933b0e946dc47653a22066a26aae2caf57e", func := "valance/valancelaw11.SnapRests", spec := "snapRests", unfollowed := true, recurses := true, apart := false, narrowed := true }
def SnapRestsUptoSaid : Prop := snapRestsUptoRow.holds Try.pinned (OpenSpec.upto snapRestsSpec)

/-- 'valancelaw11.SnapBest', WHERE WHAT IT READS IS OF BULK AT MOST 1048576: true; the input reads as it did. -/
def snapBestUptoRow : OpenClaim := { program := "ytnmcefpnpfaklac", sum := "2f07ab58c8d47d6b6b07a0d1fae3d933b0e946dc47653a22066a26aae2caf57e", func := "valance/valancelaw11.SnapBest", spec := "snapBest", unfollowed := true, recurses := true, apart := false, narrowed := true }
def SnapBestUptoSaid : Prop := snapBestUptoRow.holds Try.pinned (OpenSpec.upto snapBestSpec)

/-- 'valancelaw11.SnapWithin', WHERE WHAT IT READS IS OF BULK AT MOST 1048576: true; the input reads as it did. -/
def snapWithinUptoRow : OpenClaim := { program := "ytnmcefpnpfaklac", sum := "2f07ab58c8d47d6b6b07a0d1fae3d933b0e946dc47653a22066a26aae2caf57e", func := "valance/valancelaw11.SnapWithin", spec := "snapWithin", unfollowed := true, recurses := true, apart := false, narrowed := true }
def SnapWithinUptoSaid : Prop := snapWithinUptoRow.holds Try.pinned (OpenSpec.upto snapWithinSpec)

/-- 'valancelaw11.SnapOrder', WHERE WHAT IT READS IS OF BULK AT MOST 1048576: true; the input reads as it did. -/
def snapOrderUptoRow : OpenClaim := { program := "ytnmcefpnpfaklac", sum := "2f07ab58c8d47d6b6b07a0d1fae3d933b0e946dc47653a22066a26aae2caf57e", func := "valance/valancelaw11.SnapOrder", spec := "snapOrder", unfollowed := true, recurses := true, apart := false, narrowed := true }
def SnapOrderUptoSaid : Prop := snapOrderUptoRow.holds Try.pinned (OpenSpec.upto snapOrderSpec)

/-- 'valancelaw11.SnapEdges', WHERE WHAT IT READS IS OF BULK AT MOST 1048576: true; the input reads as it did. -/
def snapEdgesUptoRow : OpenClaim := { program := "ytnmcefpnpfaklac", sum := "2f07ab58c8d47d6b6b07a0d1fae3d933b0e946dc47653a22066a26aae2caf57e", func := "valance/valancelaw11.SnapEdges", spec := "snapEdges", unfollowed := true, recurses := true, apart := false, narrowed := true }
def SnapEdgesUptoSaid : Prop := snapEdgesUptoRow.holds Try.pinned (OpenSpec.upto snapEdgesSpec)

/-- 'valancelaw11.SnapNear', WHERE WHAT IT READS IS OF BULK AT MOST 1048576: true; the input reads as it did. -/
def snapNearUptoRow : OpenClaim := { program := "ytnmcefpnpfaklac", sum := "2f07ab58c8d47d6b6b07a0d1fae3d933b0e946dc47653a22066a26aae2caf57e", func := "valance/valancelaw11.SnapNear", spec := "snapNear", unfollowed := true, recurses := true, apart := false, narrowed := true }
def SnapNearUptoSaid : Prop := snapNearUptoRow.holds Try.pinned (OpenSpec.upto snapNearSpec)

/-- 'valancelaw11.SnapFew', WHERE WHAT IT READS IS OF BULK AT MOST 1048576: true; the input reads as it did. -/
def snapFewUptoRow : OpenClaim := { program := "ytnmcefpnpfaklac", sum := "2f07ab58c8d47d6b6b07a0d1fae3d933b0e946dc47653a22066a26aae2caf57e", func := "valance/valancelaw11.SnapFew", spec := "snapFew", unfollowed := true, recurses := true, apart := false, narrowed := true }
def SnapFewUptoSaid : Prop := snapFewUptoRow.holds Try.pinned (OpenSpec.upto snapFewSpec)

/-- 'valancelaw06.MarginTells', WHERE WHAT IT READS IS OF BULK AT MOST 1048576: true; the input reads as it did. -/
def marginTellsUptoRow : OpenClaim := { program := "ytnmcefpnpfaklac", sum := "2f07ab58c8d47d6b6b07a0d1fae3d933b0e946dc47653a22066a26aae2caf57e", func := "valance/valancelaw06.MarginTells", spec := "marginTells", apart := false, narrowed := true }
def MarginTellsUptoSaid : Prop := marginTellsUptoRow.holds Try.pinned (OpenSpec.upto marginTellsSpec)

/-- 'valancelaw06.MarginStacks', WHERE WHAT IT READS IS OF BULK AT MOST 1048576: true; the input reads as it did. -/
def marginStacksUptoRow : OpenClaim := { program := "ytnmcefpnpfaklac", sum := "2f07ab58c8d47d6b6b07a0d1fae3d933b0e946dc47653a22066a26aae2caf57e", func := "valance/valancelaw06.MarginStacks", spec := "marginStacks", apart := false, narrowed := true }
def MarginStacksUptoSaid : Prop := marginStacksUptoRow.holds Try.pinned (OpenSpec.upto marginStacksSpec)

/-- 'valancelaw06.MarginRoom', WHERE WHAT IT READS IS OF BULK AT MOST 1048576: true; the input reads as it did. -/
def marginRoomUptoRow : OpenClaim := { program := "ytnmcefpnpfaklac", sum := "2f07ab58c8d47d6b6b07a0d1fae3d933b0e946dc47653a22066a26aae2caf57e", func := "valance/valancelaw06.MarginRoom", spec := "marginRoom", apart := false, narrowed := true }
def MarginRoomUptoSaid : Prop := marginRoomUptoRow.holds Try.pinned (OpenSpec.upto marginRoomSpec)

/-- 'valancelaw06.MarginPairs', WHERE WHAT IT READS IS OF BULK AT MOST 1048576: true; the input reads as it did. -/
def marginPairsUptoRow : OpenClaim := { program := "ytnmcefpnpfaklac", sum := "2f07ab58c8d47d6b6b07a0d1fae3d933b0e946dc47653a22066a26aae2caf57e", func := "valance/valancelaw06.MarginPairs", spec := "marginPairs", apart := false, narrowed := true }
def MarginPairsUptoSaid : Prop := marginPairsUptoRow.holds Try.pinned (OpenSpec.upto marginPairsSpec)

/-- 'valancelaw06.MarginStep', WHERE WHAT IT READS IS OF BULK AT MOST 1048576: true; the input reads as it did. -/
def marginStepUptoRow : OpenClaim := { program := "ytnmcefpnpfaklac", sum := "2f07ab58c8d47d6b6b07a0d1fae3d933b0e946dc47653a22066a26aae2caf57e", func := "valance/valancelaw06.MarginStep", spec := "marginStep", apart := false, narrowed := true }
def MarginStepUptoSaid : Prop := marginStepUptoRow.holds Try.pinned (OpenSpec.upto marginStepSpec)

end Rows
end Go.Proofs.Ytnmcefpnpfaklac
