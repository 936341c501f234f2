/-
  No cell of these rows narrows 'for every input' (looked for: loops, veiled, ifaces, maps, wideKeys, modest, calm, conditions, laid).
  DERIVED. THE GIVEN ROWS OF THIS SEAT. 12 by the template 'for every input the law returns true; each argument reads behind the call as it read before'; 0 by the template 'total and deterministic' (their statements: YtnmcefpnpfaklabTotals.lean).
  GIVEN WITH THE SEED: the statements are not yours to turn. If you find one false, say at which input.
  Laid BY PROGRAM, IN A SANDBOX (cutbox-rows.mjs): the forced cells as the released guide's own fill.sh prints them over the translation db472d12033f0853… (all of the seat's roots in one cut). By AI agents, Wed Nov 11 2026. No macro, syntax, notation, axiom, sorry.
-/
import Derived.Test.YtnmcefpnpfaklabChecked
import GoSem.Claim
import GoSem.ClaimJoined
import GoSem.ClaimMapViews
import Derived.JoinedTies
import Derived.KernelRfl
namespace Go.Proofs.Ytnmcefpnpfaklab
/- THE CELL 'sum', in the pinned program and in every row, IS THE sha256 OF THE DUMP (.gsa) THAT YtnmcefpnpfaklabProg.lean LOADS. Nothing in Lean hashes anything: it is a label: what it is worth is what the hold of that sum in a sandbox is worth. -/
noncomputable def Try.pinned : Pinned := { name := "ytnmcefpnpfaklab", sum := "db472d12033f08530c9ce75100e855ba4a3e543b3d66f157613b01a069a7c8f2", checked := Try.checked }
namespace Rows
def none {H : Type} : Left H := { results := [], args := [] }

/-- 'valancelaw10.StickShifts': WHATEVER THE INPUT: true; the input reads as it did. -/
def stickShiftsSpec : ChangeSpec := { name := "stickShifts", fn := fun _ => fun
  | [d1, d2, d3, d4, d5] => { results := [.lit (.bool true)], args := [d1, d2, d3, d4, d5] }
  | _ => none }
def stickShiftsRow : OpenClaim := { program := "ytnmcefpnpfaklab", sum := "db472d12033f08530c9ce75100e855ba4a3e543b3d66f157613b01a069a7c8f2", func := "valance/valancelaw10.StickShifts", spec := "stickShifts", unfollowed := true, recurses := true, apart := false }
def StickShiftsSaid : Prop := stickShiftsRow.holds Try.pinned (OpenSpec.ofChange stickShiftsSpec)

/-- ITS FALSE NEIGHBOUR: 'it returns false'. Refute it at one input. -/
def stickShiftsWrong : ChangeSpec := { name := "stickShifts", fn := fun _ => fun
  | [d1, d2, d3, d4, d5] => { results := [.lit (.bool false)], args := [d1, d2, d3, d4, d5] }
  | _ => none }
def StickShiftsWrongFalsely : Prop := stickShiftsRow.holds Try.pinned (OpenSpec.ofChange stickShiftsWrong)

/-- 'valancelaw10.StickBoth': WHATEVER THE INPUT: true; the input reads as it did. -/
def stickBothSpec : ChangeSpec := { name := "stickBoth", fn := fun _ => fun
  | [d1, d2, d3, d4, d5, d6] => { results := [.lit (.bool true)], args := [d1, d2, d3, d4, d5, d6] }
  | _ => none }
def stickBothRow : OpenClaim := { program := "ytnmcefpnpfaklab", sum := "db472d12033f08530c9ce75100e855ba4a3e543b3d66f157613b01a069a7c8f2", func := "valance/valancelaw10.StickBoth", spec := "stickBoth", unfollowed := true, recurses := true, apart := false }
def StickBothSaid : Prop := stickBothRow.holds Try.pinned (OpenSpec.ofChange stickBothSpec)

/-- ITS FALSE NEIGHBOUR: 'it returns false'. Refute it at one input. -/
def stickBothWrong : ChangeSpec := { name := "stickBoth", fn := fun _ => fun
  | [d1, d2, d3, d4, d5, d6] => { results := [.lit (.bool false)], args := [d1, d2, d3, d4, d5, d6] }
  | _ => none }
def StickBothWrongFalsely : Prop := stickBothRow.holds Try.pinned (OpenSpec.ofChange stickBothWrong)

/-- 'valancelaw10.StickWithin': WHATEVER THE INPUT: true; the input reads as it did. -/
def stickWithinSpec : ChangeSpec := { name := "stickWithin", fn := fun _ => fun
  | [d1, d2, d3, d4, d5] => { results := [.lit (.bool true)], args := [d1, d2, d3, d4, d5] }
  | _ => none }
def stickWithinRow : OpenClaim := { program := "ytnmcefpnpfaklab", sum := "db472d12033f08530c9ce75100e855ba4a3e543b3d66f157613b01a069a7c8f2", func := "valance/valancelaw10.StickWithin", spec := "stickWithin", unfollowed := true, recurses := true, apart := false }
def StickWithinSaid : Prop := stickWithinRow.holds Try.pinned (OpenSpec.ofChange stickWithinSpec)

/-- ITS FALSE NEIGHBOUR: 'it returns false'. Refute it at one input. -/
def stickWithinWrong : ChangeSpec := { name := "stickWithin", fn := fun _ => fun
  | [d1, d2, d3, d4, d5] => { results := [.lit (.bool false)], args := [d1, d2, d3, d4, d5] }
  | _ => none }
def StickWithinWrongFalsely : Prop := stickWithinRow.holds Try.pinned (OpenSpec.ofChange stickWithinWrong)

/-- 'valancelaw10.StickLeast': WHATEVER THE INPUT: true; the input reads as it did. -/
def stickLeastSpec : ChangeSpec := { name := "stickLeast", fn := fun _ => fun
  | [d1, d2, d3, d4, d5] => { results := [.lit (.bool true)], args := [d1, d2, d3, d4, d5] }
  | _ => none }
def stickLeastRow : OpenClaim := { program := "ytnmcefpnpfaklab", sum := "db472d12033f08530c9ce75100e855ba4a3e543b3d66f157613b01a069a7c8f2", func := "valance/valancelaw10.StickLeast", spec := "stickLeast", unfollowed := true, recurses := true, apart := false }
def StickLeastSaid : Prop := stickLeastRow.holds Try.pinned (OpenSpec.ofChange stickLeastSpec)

/-- ITS FALSE NEIGHBOUR: 'it returns false'. Refute it at one input. -/
def stickLeastWrong : ChangeSpec := { name := "stickLeast", fn := fun _ => fun
  | [d1, d2, d3, d4, d5] => { results := [.lit (.bool false)], args := [d1, d2, d3, d4, d5] }
  | _ => none }
def StickLeastWrongFalsely : Prop := stickLeastRow.holds Try.pinned (OpenSpec.ofChange stickLeastWrong)

/-- 'valancelaw10.StickMore': WHATEVER THE INPUT: true; the input reads as it did. -/
def stickMoreSpec : ChangeSpec := { name := "stickMore", fn := fun _ => fun
  | [d1, d2, d3, d4, d5] => { results := [.lit (.bool true)], args := [d1, d2, d3, d4, d5] }
  | _ => none }
def stickMoreRow : OpenClaim := { program := "ytnmcefpnpfaklab", sum := "db472d12033f08530c9ce75100e855ba4a3e543b3d66f157613b01a069a7c8f2", func := "valance/valancelaw10.StickMore", spec := "stickMore", unfollowed := true, recurses := true, apart := false }
def StickMoreSaid : Prop := stickMoreRow.holds Try.pinned (OpenSpec.ofChange stickMoreSpec)

/-- ITS FALSE NEIGHBOUR: 'it returns false'. Refute it at one input. -/
def stickMoreWrong : ChangeSpec := { name := "stickMore", fn := fun _ => fun
  | [d1, d2, d3, d4, d5] => { results := [.lit (.bool false)], args := [d1, d2, d3, d4, d5] }
  | _ => none }
def StickMoreWrongFalsely : Prop := stickMoreRow.holds Try.pinned (OpenSpec.ofChange stickMoreWrong)

/-- 'valancelaw10.StickMoves': WHATEVER THE INPUT: true; the input reads as it did. -/
def stickMovesSpec : ChangeSpec := { name := "stickMoves", fn := fun _ => fun
  | [d1, d2, d3, d4, d5, d6] => { results := [.lit (.bool true)], args := [d1, d2, d3, d4, d5, d6] }
  | _ => none }
def stickMovesRow : OpenClaim := { program := "ytnmcefpnpfaklab", sum := "db472d12033f08530c9ce75100e855ba4a3e543b3d66f157613b01a069a7c8f2", func := "valance/valancelaw10.StickMoves", spec := "stickMoves", unfollowed := true, recurses := true, apart := false }
def StickMovesSaid : Prop := stickMovesRow.holds Try.pinned (OpenSpec.ofChange stickMovesSpec)

/-- ITS FALSE NEIGHBOUR: 'it returns false'. Refute it at one input. -/
def stickMovesWrong : ChangeSpec := { name := "stickMoves", fn := fun _ => fun
  | [d1, d2, d3, d4, d5, d6] => { results := [.lit (.bool false)], args := [d1, d2, d3, d4, d5, d6] }
  | _ => none }
def StickMovesWrongFalsely : Prop := stickMovesRow.holds Try.pinned (OpenSpec.ofChange stickMovesWrong)

/-- 'valancelaw12.AnchorPicks': WHATEVER THE INPUT: true; the input reads as it did. -/
def anchorPicksSpec : ChangeSpec := { name := "anchorPicks", fn := fun _ => fun
  | [d1, d2, d3, d4, d5, d6] => { results := [.lit (.bool true)], args := [d1, d2, d3, d4, d5, d6] }
  | _ => none }
def anchorPicksRow : OpenClaim := { program := "ytnmcefpnpfaklab", sum := "db472d12033f08530c9ce75100e855ba4a3e543b3d66f157613b01a069a7c8f2", func := "valance/valancelaw12.AnchorPicks", spec := "anchorPicks", recurses := true, apart := false }
def AnchorPicksSaid : Prop := anchorPicksRow.holds Try.pinned (OpenSpec.ofChange anchorPicksSpec)

/-- ITS FALSE NEIGHBOUR: 'it returns false'. Refute it at one input. -/
def anchorPicksWrong : ChangeSpec := { name := "anchorPicks", fn := fun _ => fun
  | [d1, d2, d3, d4, d5, d6] => { results := [.lit (.bool false)], args := [d1, d2, d3, d4, d5, d6] }
  | _ => none }
def AnchorPicksWrongFalsely : Prop := anchorPicksRow.holds Try.pinned (OpenSpec.ofChange anchorPicksWrong)

/-- 'valancelaw12.AnchorSeen': WHATEVER THE INPUT: true; the input reads as it did. -/
def anchorSeenSpec : ChangeSpec := { name := "anchorSeen", fn := fun _ => fun
  | [d1, d2] => { results := [.lit (.bool true)], args := [d1, d2] }
  | _ => none }
def anchorSeenRow : OpenClaim := { program := "ytnmcefpnpfaklab", sum := "db472d12033f08530c9ce75100e855ba4a3e543b3d66f157613b01a069a7c8f2", func := "valance/valancelaw12.AnchorSeen", spec := "anchorSeen", apart := false }
def AnchorSeenSaid : Prop := anchorSeenRow.holds Try.pinned (OpenSpec.ofChange anchorSeenSpec)

/-- ITS FALSE NEIGHBOUR: 'it returns false'. Refute it at one input. -/
def anchorSeenWrong : ChangeSpec := { name := "anchorSeen", fn := fun _ => fun
  | [d1, d2] => { results := [.lit (.bool false)], args := [d1, d2] }
  | _ => none }
def AnchorSeenWrongFalsely : Prop := anchorSeenRow.holds Try.pinned (OpenSpec.ofChange anchorSeenWrong)

/-- 'valancelaw12.AnchorKeeps': WHATEVER THE INPUT: true; the input reads as it did. -/
def anchorKeepsSpec : ChangeSpec := { name := "anchorKeeps", fn := fun _ => fun
  | [d1, d2, d3, d4] => { results := [.lit (.bool true)], args := [d1, d2, d3, d4] }
  | _ => none }
def anchorKeepsRow : OpenClaim := { program := "ytnmcefpnpfaklab", sum := "db472d12033f08530c9ce75100e855ba4a3e543b3d66f157613b01a069a7c8f2", func := "valance/valancelaw12.AnchorKeeps", spec := "anchorKeeps", apart := false }
def AnchorKeepsSaid : Prop := anchorKeepsRow.holds Try.pinned (OpenSpec.ofChange anchorKeepsSpec)

/-- ITS FALSE NEIGHBOUR: 'it returns false'. Refute it at one input. -/
def anchorKeepsWrong : ChangeSpec := { name := "anchorKeeps", fn := fun _ => fun
  | [d1, d2, d3, d4] => { results := [.lit (.bool false)], args := [d1, d2, d3, d4] }
  | _ => none }
def AnchorKeepsWrongFalsely : Prop := anchorKeepsRow.holds Try.pinned (OpenSpec.ofChange anchorKeepsWrong)

/-- 'valancelaw12.AnchorAgain': WHATEVER THE INPUT: true; the input reads as it did. -/
def anchorAgainSpec : ChangeSpec := { name := "anchorAgain", fn := fun _ => fun
  | [d1, d2, d3, d4] => { results := [.lit (.bool true)], args := [d1, d2, d3, d4] }
  | _ => none }
def anchorAgainRow : OpenClaim := { program := "ytnmcefpnpfaklab", sum := "db472d12033f08530c9ce75100e855ba4a3e543b3d66f157613b01a069a7c8f2", func := "valance/valancelaw12.AnchorAgain", spec := "anchorAgain", apart := false }
def AnchorAgainSaid : Prop := anchorAgainRow.holds Try.pinned (OpenSpec.ofChange anchorAgainSpec)

/-- ITS FALSE NEIGHBOUR: 'it returns false'. Refute it at one input. -/
def anchorAgainWrong : ChangeSpec := { name := "anchorAgain", fn := fun _ => fun
  | [d1, d2, d3, d4] => { results := [.lit (.bool false)], args := [d1, d2, d3, d4] }
  | _ => none }
def AnchorAgainWrongFalsely : Prop := anchorAgainRow.holds Try.pinned (OpenSpec.ofChange anchorAgainWrong)

/-- 'valancelaw12.AnchorSkips': WHATEVER THE INPUT: true; the input reads as it did. -/
def anchorSkipsSpec : ChangeSpec := { name := "anchorSkips", fn := fun _ => fun
  | [d1, d2] => { results := [.lit (.bool true)], args := [d1, d2] }
  | _ => none }
def anchorSkipsRow : OpenClaim := { program := "ytnmcefpnpfaklab", sum := "db472d12033f08530c9ce75100e855ba4a3e543b3d66f157613b01a069a7c8f2", func := "valance/valancelaw12.AnchorSkips", spec := "anchorSkips", apart := false }
def AnchorSkipsSaid : Prop := anchorSkipsRow.holds Try.pinned (OpenSpec.ofChange anchorSkipsSpec)

/-- ITS FALSE NEIGHBOUR: 'it returns false'. Refute it at one input. -/
def anchorSkipsWrong : ChangeSpec := { name := "anchorSkips", fn := fun _ => fun
  | [d1, d2] => { results := [.lit (.bool false)], args := [d1, d2] }
  | _ => none }
def AnchorSkipsWrongFalsely : Prop := anchorSkipsRow.holds Try.pinned (OpenSpec.ofChange anchorSkipsWrong)

/-- 'valancelaw12.AnchorSights': WHATEVER THE INPUT: true; the input reads as it did. -/
def anchorSightsSpec : ChangeSpec := { name := "anchorSights", fn := fun _ => fun
  | [d1, d2] => { results := [.lit (.bool true)], args := [d1, d2] }
  | _ => none }
def anchorSightsRow : OpenClaim := { program := "ytnmcefpnpfaklab", sum := "db472d12033f08530c9ce75100e855ba4a3e543b3d66f157613b01a069a7c8f2", func := "valance/valancelaw12.AnchorSights", spec := "anchorSights", apart := false }
def AnchorSightsSaid : Prop := anchorSightsRow.holds Try.pinned (OpenSpec.ofChange anchorSightsSpec)

/-- ITS FALSE NEIGHBOUR: 'it returns false'. Refute it at one input. -/
def anchorSightsWrong : ChangeSpec := { name := "anchorSights", fn := fun _ => fun
  | [d1, d2] => { results := [.lit (.bool false)], args := [d1, d2] }
  | _ => none }
def AnchorSightsWrongFalsely : Prop := anchorSightsRow.holds Try.pinned (OpenSpec.ofChange anchorSightsWrong)

/- THE SECOND FORM. 'bulk': how many values and letters a reading holds, each counted each time it is reached (what is shared counts as often as it is met; a slice's spare places count too). A statement '..UptoSaid' is the law's where the arguments, and the package variables that the reading takes, are together of bulk at most 1048576: NARROWER than '..Said'. Prove '..Said' where nothing that the law and all that it calls make is longer than what came in: it says more and counts as full. Else prove '..UptoSaid'. A law counts once. -/
mutual
def uptoBulk {H : Type} : DataW H → Nat
  | .lit (.string bytes) => bytes.length + 1
  | .lit _ => 1
  | .nil => 1
  | .ptr d => uptoBulk d + 1
  | .slice elems spare => uptoBulkAll elems + uptoBulkAll spare + 1
  | .agg parts => uptoBulkAll parts + 1
  | .iface _ d => uptoBulk d + 1
  | .map entries => uptoBulkEntries entries + 1
  | .held _ => 1
def uptoBulkAll {H : Type} : List (DataW H) → Nat
  | [] => 0
  | d :: r => uptoBulk d + uptoBulkAll r
def uptoBulkEntries {H : Type} : List (Lit × DataW H) → Nat
  | [] => 0
  | x :: r => uptoBulkEntry x + uptoBulkEntries r
def uptoBulkEntry {H : Type} : Lit × DataW H → Nat
  | (.string bytes, d) => bytes.length + uptoBulk d + 1
  | (_, d) => uptoBulk d + 1
 end
def uptoSmall : (H : Type) → List (DataW H) → Bool := fun _ ds => decide (uptoBulkAll ds ≤ 1048576)
def OpenSpec.upto (s : _root_.Go.ChangeSpec) : _root_.Go.OpenSpec := { _root_.Go.OpenSpec.ofChange s with cond := some uptoSmall }

/-- 'valancelaw10.StickShifts', WHERE WHAT IT READS IS OF BULK AT MOST 1048576: true; the input reads as it did. -/
def stickShiftsUptoRow : OpenClaim := { program := "ytnmcefpnpfaklab", sum := "db472d12033f08530c9ce75100e855ba4a3e543b3d66f157613b01a069a7c8f2", func := "valance/valancelaw10.StickShifts", spec := "stickShifts", unfollowed := true, recurses := true, apart := false, narrowed := true }
def StickShiftsUptoSaid : Prop := stickShiftsUptoRow.holds Try.pinned (OpenSpec.upto stickShiftsSpec)

/-- 'valancelaw10.StickBoth', WHERE WHAT IT READS IS OF BULK AT MOST 1048576: true; the input reads as it did. -/
def stickBothUptoRow : OpenClaim := { program := "ytnmcefpnpfaklab", sum := "db472d12033f08530c9ce75100e855ba4a3e543b3d66f157613b01a069a7c8f2", func := "valance/valancelaw10.StickBoth", spec := "stickBoth", unfollowed := true, recurses := true, apart := false, narrowed := true }
def StickBothUptoSaid : Prop := stickBothUptoRow.holds Try.pinned (OpenSpec.upto stickBothSpec)

/-- 'valancelaw10.StickWithin', WHERE WHAT IT READS IS OF BULK AT MOST 1048576: true; the input reads as it did. -/
def stickWithinUptoRow : OpenClaim := { program := "ytnmcefpnpfaklab", sum := "db472d12033f08530c9ce75100e855ba4a3e543b3d66f157613b01a069a7c8f2", func := "valance/valancelaw10.StickWithin", spec := "stickWithin", unfollowed := true, recurses := true, apart := false, narrowed := true }
def StickWithinUptoSaid : Prop := stickWithinUptoRow.holds Try.pinned (OpenSpec.upto stickWithinSpec)

/-- 'valancelaw10.StickLeast', WHERE WHAT IT READS IS OF BULK AT MOST 1048576: true; the input reads as it did. -/
def stickLeastUptoRow : OpenClaim := { program := "ytnmcefpnpfaklab", sum := "db472d12033f08530c9ce75100e855ba4a3e543b3d66f157613b01a069a7c8f2", func := "valance/valancelaw10.StickLeast", spec := "stickLeast", unfollowed := true, recurses := true, apart := false, narrowed := true }
def StickLeastUptoSaid : Prop := stickLeastUptoRow.holds Try.pinned (OpenSpec.upto stickLeastSpec)

/-- 'valancelaw10.StickMore', WHERE WHAT IT READS IS OF BULK AT MOST 1048576: true; the input reads as it did. -/
def stickMoreUptoRow : OpenClaim := { program := "ytnmcefpnpfaklab", sum := "db472d12033f08530c9ce75100e855ba4a3e543b3d66f157613b01a069a7c8f2", func := "valance/valancelaw10.StickMore", spec := "stickMore", unfollowed := true, recurses := true, apart := false, narrowed := true }
def StickMoreUptoSaid : Prop := stickMoreUptoRow.holds Try.pinned (OpenSpec.upto stickMoreSpec)

/-- 'valancelaw10.StickMoves', WHERE WHAT IT READS IS OF BULK AT MOST 1048576: true; the input reads as it did. -/
def stickMovesUptoRow : OpenClaim := { program := "ytnmcefpnpfaklab", sum := "db472d12033f08530c9ce75100e855ba4a3e543b3d66f157613b01a069a7c8f2", func := "valance/valancelaw10.StickMoves", spec := "stickMoves", unfollowed := true, recurses := true, apart := false, narrowed := true }
def StickMovesUptoSaid : Prop := stickMovesUptoRow.holds Try.pinned (OpenSpec.upto stickMovesSpec)

/-- 'valancelaw12.AnchorPicks', WHERE WHAT IT READS IS OF BULK AT MOST 1048576: true; the input reads as it did. -/
def anchorPicksUptoRow : OpenClaim := { program := "ytnmcefpnpfaklab", sum := "db472d12033f08530c9ce75100e855ba4a3e543b3d66f157613b01a069a7c8f2", func := "valance/valancelaw12.AnchorPicks", spec := "anchorPicks", recurses := true, apart := false, narrowed := true }
def AnchorPicksUptoSaid : Prop := anchorPicksUptoRow.holds Try.pinned (OpenSpec.upto anchorPicksSpec)

/-- 'valancelaw12.AnchorSeen', WHERE WHAT IT READS IS OF BULK AT MOST 1048576: true; the input reads as it did. -/
def anchorSeenUptoRow : OpenClaim := { program := "ytnmcefpnpfaklab", sum := "db472d12033f08530c9ce75100e855ba4a3e543b3d66f157613b01a069a7c8f2", func := "valance/valancelaw12.AnchorSeen", spec := "anchorSeen", apart := false, narrowed := true }
def AnchorSeenUptoSaid : Prop := anchorSeenUptoRow.holds Try.pinned (OpenSpec.upto anchorSeenSpec)

/-- 'valancelaw12.AnchorKeeps', WHERE WHAT IT READS IS OF BULK AT MOST 1048576: true; the input reads as it did. -/
def anchorKeepsUptoRow : OpenClaim := { program := "ytnmcefpnpfaklab", sum := "db472d12033f08530c9ce75100e855ba4a3e543b3d66f157613b01a069a7c8f2", func := "valance/valancelaw12.AnchorKeeps", spec := "anchorKeeps", apart := false, narrowed := true }
def AnchorKeepsUptoSaid : Prop := anchorKeepsUptoRow.holds Try.pinned (OpenSpec.upto anchorKeepsSpec)

/-- 'valancelaw12.AnchorAgain', WHERE WHAT IT READS IS OF BULK AT MOST 1048576: true; the input reads as it did. -/
def anchorAgainUptoRow : OpenClaim := { program := "ytnmcefpnpfaklab", sum := "db472d12033f08530c9ce75100e855ba4a3e543b3d66f157613b01a069a7c8f2", func := "valance/valancelaw12.AnchorAgain", spec := "anchorAgain", apart := false, narrowed := true }
def AnchorAgainUptoSaid : Prop := anchorAgainUptoRow.holds Try.pinned (OpenSpec.upto anchorAgainSpec)

/-- 'valancelaw12.AnchorSkips', WHERE WHAT IT READS IS OF BULK AT MOST 1048576: true; the input reads as it did. -/
def anchorSkipsUptoRow : OpenClaim := { program := "ytnmcefpnpfaklab", sum := "db472d12033f08530c9ce75100e855ba4a3e543b3d66f157613b01a069a7c8f2", func := "valance/valancelaw12.AnchorSkips", spec := "anchorSkips", apart := false, narrowed := true }
def AnchorSkipsUptoSaid : Prop := anchorSkipsUptoRow.holds Try.pinned (OpenSpec.upto anchorSkipsSpec)

/-- 'valancelaw12.AnchorSights', WHERE WHAT IT READS IS OF BULK AT MOST 1048576: true; the input reads as it did. -/
def anchorSightsUptoRow : OpenClaim := { program := "ytnmcefpnpfaklab", sum := "db472d12033f08530c9ce75100e855ba4a3e543b3d66f157613b01a069a7c8f2", func := "valance/valancelaw12.AnchorSights", spec := "anchorSights", apart := false, narrowed := true }
def AnchorSightsUptoSaid : Prop := anchorSightsUptoRow.holds Try.pinned (OpenSpec.upto anchorSightsSpec)

end Rows
end Go.Proofs.Ytnmcefpnpfaklab
