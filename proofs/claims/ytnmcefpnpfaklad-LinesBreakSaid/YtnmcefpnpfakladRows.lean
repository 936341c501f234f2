/-
  No cell of these rows narrows 'for every input' (looked for: loops, veiled, ifaces, maps, wideKeys, modest, calm, conditions, laid).
  DERIVED. THE GIVEN ROWS OF THIS SEAT. 12 by the template 'for every input the law returns true; each argument reads behind the call as it read before'; 0 by the template 'total and deterministic' (their statements: YtnmcefpnpfakladTotals.lean).
  GIVEN WITH THE SEED: the statements are not yours to turn. If you find one false, say at which input.
  Laid BY PROGRAM, IN A SANDBOX (cutbox-rows.mjs): the forced cells as the released guide's own fill.sh prints them over the translation c25f9eb71e9f94fc… (all of the seat's roots in one cut). By AI agents, Wed Nov 11 2026. No macro, syntax, notation, axiom, sorry.
-/
import Derived.Test.YtnmcefpnpfakladChecked
import GoSem.Claim
import GoSem.ClaimJoined
import GoSem.ClaimMapViews
import Derived.JoinedTies
import Derived.KernelRfl
namespace Go.Proofs.Ytnmcefpnpfaklad
/- THE CELL 'sum', in the pinned program and in every row, IS THE sha256 OF THE DUMP (.gsa) THAT YtnmcefpnpfakladProg.lean LOADS. Nothing in Lean hashes anything: it is a label: what it is worth is what the hold of that sum in a sandbox is worth. -/
noncomputable def Try.pinned : Pinned := { name := "ytnmcefpnpfaklad", sum := "c25f9eb71e9f94fcee81790f11e260a62bf1ccfea72a1f15986685f3407c5ad8", checked := Try.checked }
namespace Rows
def none {H : Type} : Left H := { results := [], args := [] }

/-- 'valancelaw09.JustifyStarts': WHATEVER THE INPUT: true; the input reads as it did. -/
def justifyStartsSpec : ChangeSpec := { name := "justifyStarts", fn := fun _ => fun
  | [d1, d2, d3, d4, d5] => { results := [.lit (.bool true)], args := [d1, d2, d3, d4, d5] }
  | _ => none }
def justifyStartsRow : OpenClaim := { program := "ytnmcefpnpfaklad", sum := "c25f9eb71e9f94fcee81790f11e260a62bf1ccfea72a1f15986685f3407c5ad8", func := "valance/valancelaw09.JustifyStarts", spec := "justifyStarts", unfollowed := true, recurses := true, apart := false }
def JustifyStartsSaid : Prop := justifyStartsRow.holds Try.pinned (OpenSpec.ofChange justifyStartsSpec)

/-- ITS FALSE NEIGHBOUR: 'it returns false'. Refute it at one input. -/
def justifyStartsWrong : ChangeSpec := { name := "justifyStarts", fn := fun _ => fun
  | [d1, d2, d3, d4, d5] => { results := [.lit (.bool false)], args := [d1, d2, d3, d4, d5] }
  | _ => none }
def JustifyStartsWrongFalsely : Prop := justifyStartsRow.holds Try.pinned (OpenSpec.ofChange justifyStartsWrong)

/-- 'valancelaw09.JustifyApart': WHATEVER THE INPUT: true; the input reads as it did. -/
def justifyApartSpec : ChangeSpec := { name := "justifyApart", fn := fun _ => fun
  | [d1, d2, d3, d4] => { results := [.lit (.bool true)], args := [d1, d2, d3, d4] }
  | _ => none }
def justifyApartRow : OpenClaim := { program := "ytnmcefpnpfaklad", sum := "c25f9eb71e9f94fcee81790f11e260a62bf1ccfea72a1f15986685f3407c5ad8", func := "valance/valancelaw09.JustifyApart", spec := "justifyApart", unfollowed := true, recurses := true, apart := false }
def JustifyApartSaid : Prop := justifyApartRow.holds Try.pinned (OpenSpec.ofChange justifyApartSpec)

/-- ITS FALSE NEIGHBOUR: 'it returns false'. Refute it at one input. -/
def justifyApartWrong : ChangeSpec := { name := "justifyApart", fn := fun _ => fun
  | [d1, d2, d3, d4] => { results := [.lit (.bool false)], args := [d1, d2, d3, d4] }
  | _ => none }
def JustifyApartWrongFalsely : Prop := justifyApartRow.holds Try.pinned (OpenSpec.ofChange justifyApartWrong)

/-- 'valancelaw09.JustifyFlips': WHATEVER THE INPUT: true; the input reads as it did. -/
def justifyFlipsSpec : ChangeSpec := { name := "justifyFlips", fn := fun _ => fun
  | [d1, d2, d3, d4] => { results := [.lit (.bool true)], args := [d1, d2, d3, d4] }
  | _ => none }
def justifyFlipsRow : OpenClaim := { program := "ytnmcefpnpfaklad", sum := "c25f9eb71e9f94fcee81790f11e260a62bf1ccfea72a1f15986685f3407c5ad8", func := "valance/valancelaw09.JustifyFlips", spec := "justifyFlips", unfollowed := true, recurses := true, apart := false }
def JustifyFlipsSaid : Prop := justifyFlipsRow.holds Try.pinned (OpenSpec.ofChange justifyFlipsSpec)

/-- ITS FALSE NEIGHBOUR: 'it returns false'. Refute it at one input. -/
def justifyFlipsWrong : ChangeSpec := { name := "justifyFlips", fn := fun _ => fun
  | [d1, d2, d3, d4] => { results := [.lit (.bool false)], args := [d1, d2, d3, d4] }
  | _ => none }
def JustifyFlipsWrongFalsely : Prop := justifyFlipsRow.holds Try.pinned (OpenSpec.ofChange justifyFlipsWrong)

/-- 'valancelaw09.JustifyCenter': WHATEVER THE INPUT: true; the input reads as it did. -/
def justifyCenterSpec : ChangeSpec := { name := "justifyCenter", fn := fun _ => fun
  | [d1, d2, d3, d4] => { results := [.lit (.bool true)], args := [d1, d2, d3, d4] }
  | _ => none }
def justifyCenterRow : OpenClaim := { program := "ytnmcefpnpfaklad", sum := "c25f9eb71e9f94fcee81790f11e260a62bf1ccfea72a1f15986685f3407c5ad8", func := "valance/valancelaw09.JustifyCenter", spec := "justifyCenter", unfollowed := true, recurses := true, apart := false }
def JustifyCenterSaid : Prop := justifyCenterRow.holds Try.pinned (OpenSpec.ofChange justifyCenterSpec)

/-- ITS FALSE NEIGHBOUR: 'it returns false'. Refute it at one input. -/
def justifyCenterWrong : ChangeSpec := { name := "justifyCenter", fn := fun _ => fun
  | [d1, d2, d3, d4] => { results := [.lit (.bool false)], args := [d1, d2, d3, d4] }
  | _ => none }
def JustifyCenterWrongFalsely : Prop := justifyCenterRow.holds Try.pinned (OpenSpec.ofChange justifyCenterWrong)

/-- 'valancelaw09.JustifyEven': WHATEVER THE INPUT: true; the input reads as it did. -/
def justifyEvenSpec : ChangeSpec := { name := "justifyEven", fn := fun _ => fun
  | [d1, d2] => { results := [.lit (.bool true)], args := [d1, d2] }
  | _ => none }
def justifyEvenRow : OpenClaim := { program := "ytnmcefpnpfaklad", sum := "c25f9eb71e9f94fcee81790f11e260a62bf1ccfea72a1f15986685f3407c5ad8", func := "valance/valancelaw09.JustifyEven", spec := "justifyEven", unfollowed := true, recurses := true, apart := false }
def JustifyEvenSaid : Prop := justifyEvenRow.holds Try.pinned (OpenSpec.ofChange justifyEvenSpec)

/-- ITS FALSE NEIGHBOUR: 'it returns false'. Refute it at one input. -/
def justifyEvenWrong : ChangeSpec := { name := "justifyEven", fn := fun _ => fun
  | [d1, d2] => { results := [.lit (.bool false)], args := [d1, d2] }
  | _ => none }
def JustifyEvenWrongFalsely : Prop := justifyEvenRow.holds Try.pinned (OpenSpec.ofChange justifyEvenWrong)

/-- 'valancelaw09.JustifyMore': WHATEVER THE INPUT: true; the input reads as it did. -/
def justifyMoreSpec : ChangeSpec := { name := "justifyMore", fn := fun _ => fun
  | [d1, d2, d3, d4, d5] => { results := [.lit (.bool true)], args := [d1, d2, d3, d4, d5] }
  | _ => none }
def justifyMoreRow : OpenClaim := { program := "ytnmcefpnpfaklad", sum := "c25f9eb71e9f94fcee81790f11e260a62bf1ccfea72a1f15986685f3407c5ad8", func := "valance/valancelaw09.JustifyMore", spec := "justifyMore", unfollowed := true, recurses := true, apart := false }
def JustifyMoreSaid : Prop := justifyMoreRow.holds Try.pinned (OpenSpec.ofChange justifyMoreSpec)

/-- ITS FALSE NEIGHBOUR: 'it returns false'. Refute it at one input. -/
def justifyMoreWrong : ChangeSpec := { name := "justifyMore", fn := fun _ => fun
  | [d1, d2, d3, d4, d5] => { results := [.lit (.bool false)], args := [d1, d2, d3, d4, d5] }
  | _ => none }
def JustifyMoreWrongFalsely : Prop := justifyMoreRow.holds Try.pinned (OpenSpec.ofChange justifyMoreWrong)

/-- 'valancelaw07.LinesBreak': WHATEVER THE INPUT: true; the input reads as it did. -/
def linesBreakSpec : ChangeSpec := { name := "linesBreak", fn := fun _ => fun
  | [d1, d2, d3, d4] => { results := [.lit (.bool true)], args := [d1, d2, d3, d4] }
  | _ => none }
def linesBreakRow : OpenClaim := { program := "ytnmcefpnpfaklad", sum := "c25f9eb71e9f94fcee81790f11e260a62bf1ccfea72a1f15986685f3407c5ad8", func := "valance/valancelaw07.LinesBreak", spec := "linesBreak", unfollowed := true, recurses := true, apart := false }
def LinesBreakSaid : Prop := linesBreakRow.holds Try.pinned (OpenSpec.ofChange linesBreakSpec)

/-- ITS FALSE NEIGHBOUR: 'it returns false'. Refute it at one input. -/
def linesBreakWrong : ChangeSpec := { name := "linesBreak", fn := fun _ => fun
  | [d1, d2, d3, d4] => { results := [.lit (.bool false)], args := [d1, d2, d3, d4] }
  | _ => none }
def LinesBreakWrongFalsely : Prop := linesBreakRow.holds Try.pinned (OpenSpec.ofChange linesBreakWrong)

/-- 'valancelaw07.LinesAll': WHATEVER THE INPUT: true; the input reads as it did. -/
def linesAllSpec : ChangeSpec := { name := "linesAll", fn := fun _ => fun
  | [d1, d2, d3, d4] => { results := [.lit (.bool true)], args := [d1, d2, d3, d4] }
  | _ => none }
def linesAllRow : OpenClaim := { program := "ytnmcefpnpfaklad", sum := "c25f9eb71e9f94fcee81790f11e260a62bf1ccfea72a1f15986685f3407c5ad8", func := "valance/valancelaw07.LinesAll", spec := "linesAll", unfollowed := true, recurses := true, apart := false }
def LinesAllSaid : Prop := linesAllRow.holds Try.pinned (OpenSpec.ofChange linesAllSpec)

/-- ITS FALSE NEIGHBOUR: 'it returns false'. Refute it at one input. -/
def linesAllWrong : ChangeSpec := { name := "linesAll", fn := fun _ => fun
  | [d1, d2, d3, d4] => { results := [.lit (.bool false)], args := [d1, d2, d3, d4] }
  | _ => none }
def LinesAllWrongFalsely : Prop := linesAllRow.holds Try.pinned (OpenSpec.ofChange linesAllWrong)

/-- 'valancelaw07.LinesOrder': WHATEVER THE INPUT: true; the input reads as it did. -/
def linesOrderSpec : ChangeSpec := { name := "linesOrder", fn := fun _ => fun
  | [d] => { results := [.lit (.bool true)], args := [d] }
  | _ => none }
def linesOrderRow : OpenClaim := { program := "ytnmcefpnpfaklad", sum := "c25f9eb71e9f94fcee81790f11e260a62bf1ccfea72a1f15986685f3407c5ad8", func := "valance/valancelaw07.LinesOrder", spec := "linesOrder", unfollowed := true, recurses := true, apart := false }
def LinesOrderSaid : Prop := linesOrderRow.holds Try.pinned (OpenSpec.ofChange linesOrderSpec)

/-- ITS FALSE NEIGHBOUR: 'it returns false'. Refute it at one input. -/
def linesOrderWrong : ChangeSpec := { name := "linesOrder", fn := fun _ => fun
  | [d] => { results := [.lit (.bool false)], args := [d] }
  | _ => none }
def LinesOrderWrongFalsely : Prop := linesOrderRow.holds Try.pinned (OpenSpec.ofChange linesOrderWrong)

/-- 'valancelaw07.LinesMore': WHATEVER THE INPUT: true; the input reads as it did. -/
def linesMoreSpec : ChangeSpec := { name := "linesMore", fn := fun _ => fun
  | [d1, d2, d3, d4] => { results := [.lit (.bool true)], args := [d1, d2, d3, d4] }
  | _ => none }
def linesMoreRow : OpenClaim := { program := "ytnmcefpnpfaklad", sum := "c25f9eb71e9f94fcee81790f11e260a62bf1ccfea72a1f15986685f3407c5ad8", func := "valance/valancelaw07.LinesMore", spec := "linesMore", unfollowed := true, recurses := true, apart := false }
def LinesMoreSaid : Prop := linesMoreRow.holds Try.pinned (OpenSpec.ofChange linesMoreSpec)

/-- ITS FALSE NEIGHBOUR: 'it returns false'. Refute it at one input. -/
def linesMoreWrong : ChangeSpec := { name := "linesMore", fn := fun _ => fun
  | [d1, d2, d3, d4] => { results := [.lit (.bool false)], args := [d1, d2, d3, d4] }
  | _ => none }
def LinesMoreWrongFalsely : Prop := linesMoreRow.holds Try.pinned (OpenSpec.ofChange linesMoreWrong)

/-- 'valancelaw07.LinesLong': WHATEVER THE INPUT: true; the input reads as it did. -/
def linesLongSpec : ChangeSpec := { name := "linesLong", fn := fun _ => fun
  | [d1, d2, d3] => { results := [.lit (.bool true)], args := [d1, d2, d3] }
  | _ => none }
def linesLongRow : OpenClaim := { program := "ytnmcefpnpfaklad", sum := "c25f9eb71e9f94fcee81790f11e260a62bf1ccfea72a1f15986685f3407c5ad8", func := "valance/valancelaw07.LinesLong", spec := "linesLong", unfollowed := true, recurses := true, apart := false }
def LinesLongSaid : Prop := linesLongRow.holds Try.pinned (OpenSpec.ofChange linesLongSpec)

/-- ITS FALSE NEIGHBOUR: 'it returns false'. Refute it at one input. -/
def linesLongWrong : ChangeSpec := { name := "linesLong", fn := fun _ => fun
  | [d1, d2, d3] => { results := [.lit (.bool false)], args := [d1, d2, d3] }
  | _ => none }
def LinesLongWrongFalsely : Prop := linesLongRow.holds Try.pinned (OpenSpec.ofChange linesLongWrong)

/-- 'valancelaw07.LinesAgain': WHATEVER THE INPUT: true; the input reads as it did. -/
def linesAgainSpec : ChangeSpec := { name := "linesAgain", fn := fun _ => fun
  | [d1, d2, d3, d4, d5] => { results := [.lit (.bool true)], args := [d1, d2, d3, d4, d5] }
  | _ => none }
def linesAgainRow : OpenClaim := { program := "ytnmcefpnpfaklad", sum := "c25f9eb71e9f94fcee81790f11e260a62bf1ccfea72a1f15986685f3407c5ad8", func := "valance/valancelaw07.LinesAgain", spec := "linesAgain", unfollowed := true, recurses := true, apart := false }
def LinesAgainSaid : Prop := linesAgainRow.holds Try.pinned (OpenSpec.ofChange linesAgainSpec)

/-- ITS FALSE NEIGHBOUR: 'it returns false'. Refute it at one input. -/
def linesAgainWrong : ChangeSpec := { name := "linesAgain", fn := fun _ => fun
  | [d1, d2, d3, d4, d5] => { results := [.lit (.bool false)], args := [d1, d2, d3, d4, d5] }
  | _ => none }
def LinesAgainWrongFalsely : Prop := linesAgainRow.holds Try.pinned (OpenSpec.ofChange linesAgainWrong)

/- THE SECOND FORM. 'bulk': how many values and letters a reading holds, each counted each time it is reached (what is shared counts as often as it is met; a slice's spare places count too). A statement '..UptoSaid' is the law's where the arguments, and the package variables that the reading takes, are together of bulk at most 1048576: NARROWER than '..Said'. Prove '..Said' where nothing that the law and all that it calls make is longer than what came in: it says more and counts as full. Else prove '..UptoSaid'. A law counts once. -/
mutual
def uptoBulk {H : Type} : DataW H → Nat
  | .lit (.string bytes) => bytes.length + 1
  | .lit _ => 1
  | .nil => 1
  | .ptr d => uptoBulk d + 1
  | .slice elems spare => uptoBulkAll elems + uptoBulkAll spare + 1
  | .agg parts => uptoBulkAll parts + 1
  | .iface _ d => uptoBulk d + 1
  | .map entries => uptoBulkEntries entries + 1
  | .held _ => 1
def uptoBulkAll {H : Type} : List (DataW H) → Nat
  | [] => 0
  | d :: r => uptoBulk d + uptoBulkAll r
def uptoBulkEntries {H : Type} : List (Lit × DataW H) → Nat
  | [] => 0
  | x :: r => uptoBulkEntry x + uptoBulkEntries r
def uptoBulkEntry {H : Type} : Lit × DataW H → Nat
  | (.string bytes, d) => bytes.length + uptoBulk d + 1
  | (_, d) => uptoBulk d + 1
 end
def uptoSmall : (H : Type) → List (DataW H) → Bool := fun _ ds => decide (uptoBulkAll ds ≤ 1048576)
def OpenSpec.upto (s : _root_.Go.ChangeSpec) : _root_.Go.OpenSpec := { _root_.Go.OpenSpec.ofChange s with cond := some uptoSmall }

/-- 'valancelaw09.JustifyStarts', WHERE WHAT IT READS IS OF BULK AT MOST 1048576: true; the input reads as it did. -/
def justifyStartsUptoRow : OpenClaim := { program := "ytnmcefpnpfaklad", sum := "c25f9eb71e9f94fcee81790f11e260a62bf1ccfea72a1f15986685f3407c5ad8", func := "valance/valancelaw09.JustifyStarts", spec := "justifyStarts", unfollowed := true, recurses := true, apart := false, narrowed := true }
def JustifyStartsUptoSaid : Prop := justifyStartsUptoRow.holds Try.pinned (OpenSpec.upto justifyStartsSpec)

/-- 'valancelaw09.JustifyApart', WHERE WHAT IT READS IS OF BULK AT MOST 1048576: true; the input reads as it did. -/
def justifyApartUptoRow : OpenClaim := { program := "ytnmcefpnpfaklad", sum := "c25f9eb71e9f94fcee81790f11e260a62bf1ccfea72a1f15986685f3407c5ad8", func := "valance/valancelaw09.JustifyApart", spec := "justifyApart", unfollowed := true, recurses := true, apart := false, narrowed := true }
def JustifyApartUptoSaid : Prop := justifyApartUptoRow.holds Try.pinned (OpenSpec.upto justifyApartSpec)

/-- 'valancelaw09.JustifyFlips', WHERE WHAT IT READS IS OF BULK AT MOST 1048576: true; the input reads as it did. -/
def justifyFlipsUptoRow : OpenClaim := { program := "ytnmcefpnpfaklad", sum := "c25f9eb71e9f94fcee81790f11e260a62bf1ccfea72a1f15986685f3407c5ad8", func := "valance/valancelaw09.JustifyFlips", spec := "justifyFlips", unfollowed := true, recurses := true, apart := false, narrowed := true }
def JustifyFlipsUptoSaid : Prop := justifyFlipsUptoRow.holds Try.pinned (OpenSpec.upto justifyFlipsSpec)

/-- 'valancelaw09.JustifyCenter', WHERE WHAT IT READS IS OF BULK AT MOST 1048576: true; the input reads as it did. -/
def justifyCenterUptoRow : OpenClaim := { program := "ytnmcefpnpfaklad", sum := "c25f9eb71e9f94fcee81790f11e260a62bf1ccfea72a1f15986685f3407c5ad8", func := "valance/valancelaw09.JustifyCenter", spec := "justifyCenter", unfollowed := true, recurses := true, apart := false, narrowed := true }
def JustifyCenterUptoSaid : Prop := justifyCenterUptoRow.holds Try.pinned (OpenSpec.upto justifyCenterSpec)

/-- 'valancelaw09.JustifyEven', WHERE WHAT IT READS IS OF BULK AT MOST 1048576: true; the input reads as it did. -/
def justifyEvenUptoRow : OpenClaim := { program := "ytnmcefpnpfaklad", sum := "c25f9eb71e9f94fcee81790f11e260a62bf1ccfea72a1f15986685f3407c5ad8", func := "valance/valancelaw09.JustifyEven", spec := "justifyEven", unfollowed := true, recurses := true, apart := false, narrowed := true }
def JustifyEvenUptoSaid : Prop := justifyEvenUptoRow.holds Try.pinned (OpenSpec.upto justifyEvenSpec)

/-- 'valancelaw09.JustifyMore', WHERE WHAT IT READS IS OF BULK AT MOST 1048576: true; the input reads as it did. -/
def justifyMoreUptoRow : OpenClaim := { program := "ytnmcefpnpfaklad", sum := "c25f9eb71e9f94fcee81790f11e260a62bf1ccfea72a1f15986685f3407c5ad8", func := "valance/valancelaw09.JustifyMore", spec := "justifyMore", unfollowed := true, recurses := true, apart := false, narrowed := true }
def JustifyMoreUptoSaid : Prop := justifyMoreUptoRow.holds Try.pinned (OpenSpec.upto justifyMoreSpec)

/-- 'valancelaw07.LinesBreak', WHERE WHAT IT READS IS OF BULK AT MOST 1048576: true; the input reads as it did. -/
def linesBreakUptoRow : OpenClaim := { program := "ytnmcefpnpfaklad", sum := "c25f9eb71e9f94fcee81790f11e260a62bf1ccfea72a1f15986685f3407c5ad8", func := "valance/valancelaw07.LinesBreak", spec := "linesBreak", unfollowed := true, recurses := true, apart := false, narrowed := true }
def LinesBreakUptoSaid : Prop := linesBreakUptoRow.holds Try.pinned (OpenSpec.upto linesBreakSpec)

/-- 'valancelaw07.LinesAll', WHERE WHAT IT READS IS OF BULK AT MOST 1048576: true; the input reads as it did. -/
def linesAllUptoRow : OpenClaim := { program := "ytnmcefpnpfaklad", sum := "c25f9eb71e9f94fcee81790f11e260a62bf1ccfea72a1f15986685f3407c5ad8", func := "valance/valancelaw07.LinesAll", spec := "linesAll", unfollowed := true, recurses := true, apart := false, narrowed := true }
def LinesAllUptoSaid : Prop := linesAllUptoRow.holds Try.pinned (OpenSpec.upto linesAllSpec)

/-- 'valancelaw07.LinesOrder', WHERE WHAT IT READS IS OF BULK AT MOST 1048576: true; the input reads as it did. -/
def linesOrderUptoRow : OpenClaim := { program := "ytnmcefpnpfaklad", sum := "c25f9eb71e9f94fcee81790f11e260a62bf1ccfea72a1f15986685f3407c5ad8", func := "valance/valancelaw07.LinesOrder", spec := "linesOrder", unfollowed := true, recurses := true, apart := false, narrowed := true }
def LinesOrderUptoSaid : Prop := linesOrderUptoRow.holds Try.pinned (OpenSpec.upto linesOrderSpec)

/-- 'valancelaw07.LinesMore', WHERE WHAT IT READS IS OF BULK AT MOST 1048576: true; the input reads as it did. -/
def linesMoreUptoRow : OpenClaim := { program := "ytnmcefpnpfaklad", sum := "c25f9eb71e9f94fcee81790f11e260a62bf1ccfea72a1f15986685f3407c5ad8", func := "valance/valancelaw07.LinesMore", spec := "linesMore", unfollowed := true, recurses := true, apart := false, narrowed := true }
def LinesMoreUptoSaid : Prop := linesMoreUptoRow.holds Try.pinned (OpenSpec.upto linesMoreSpec)

/-- 'valancelaw07.LinesLong', WHERE WHAT IT READS IS OF BULK AT MOST 1048576: true; the input reads as it did. -/
def linesLongUptoRow : OpenClaim := { program := "ytnmcefpnpfaklad", sum := "c25f9eb71e9f94fcee81790f11e260a62bf1ccfea72a1f15986685f3407c5ad8", func := "valance/valancelaw07.LinesLong", spec := "linesLong", unfollowed := true, recurses := true, apart := false, narrowed := true }
def LinesLongUptoSaid : Prop := linesLongUptoRow.holds Try.pinned (OpenSpec.upto linesLongSpec)

/-- 'valancelaw07.LinesAgain', WHERE WHAT IT READS IS OF BULK AT MOST 1048576: true; the input reads as it did. -/
def linesAgainUptoRow : OpenClaim := { program := "ytnmcefpnpfaklad", sum := "c25f9eb71e9f94fcee81790f11e260a62bf1ccfea72a1f15986685f3407c5ad8", func := "valance/valancelaw07.LinesAgain", spec := "linesAgain", unfollowed := true, recurses := true, apart := false, narrowed := true }
def LinesAgainUptoSaid : Prop := linesAgainUptoRow.holds Try.pinned (OpenSpec.upto linesAgainSpec)

end Rows
end Go.Proofs.Ytnmcefpnpfaklad
