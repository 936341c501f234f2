/-
  No cell of these rows narrows 'for every input' (looked for: loops, veiled, ifaces, maps, wideKeys, modest, calm, conditions, laid).
  DERIVED. THE GIVEN ROWS OF THIS SEAT. 12 by the template 'for every input the law returns true; each argument reads behind the call as it read before'; 0 by the template 'total and deterministic' (their statements: YtcadddijlgcnbaaTotals.lean).
  GIVEN WITH THE SEED: the statements are not yours to turn. If you find one false, say at which input.
  Laid BY PROGRAM, IN A SANDBOX (cutbox-rows.mjs): the forced cells as the released guide's own fill.sh prints them over the translation 9ce718bad7628c4e… (all of the seat's roots in one cut). By AI agents, Wed Nov 11 2026. No macro, syntax, notation, axiom, sorry.
-/
import Derived.Test.YtcadddijlgcnbaaChecked
import GoSem.Claim
import GoSem.ClaimJoined
import GoSem.ClaimMapViews
import Derived.JoinedTies
import Derived.KernelRfl
namespace Go.Proofs.Ytcadddijlgcnbaa
/- THE CELL 'sum', in the pinned program and in every row, IS THE sha256 OF THE DUMP (.gsa) THAT YtcadddijlgcnbaaProg.lean LOADS. Nothing in Lean hashes anything: it is a label: what it is worth is what the hold of that sum in a sandbox is worth. -/
noncomputable def Try.pinned : Pinned := { name := "ytcadddijlgcnbaa", sum := "9ce718bad7628c4ebf943c382f1a851154b13d83cfcd558322980370696ce45c", checked := Try.checked }
namespace Rows
def none {H : Type} : Left H := { results := [], args := [] }

/-- 'valancelaw03.SpanTells': WHATEVER THE INPUT: true; the input reads as it did. -/
def spanTellsSpec : ChangeSpec := { name := "spanTells", fn := fun _ => fun
  | [d1, d2, d3, d4] => { results := [.lit (.bool true)], args := [d1, d2, d3, d4] }
  | _ => none }
def spanTellsRow : OpenClaim := { program := "ytcadddijlgcnbaa", sum := "9ce718bad7628c4ebf943c382f1a851154b13d83cfcd558322980370696ce45c", func := "valance/valancelaw03.SpanTells", spec := "spanTells", apart := false }
def SpanTellsSaid : Prop := spanTellsRow.holds Try.pinned (OpenSpec.ofChange spanTellsSpec)

/-- ITS FALSE NEIGHBOUR: 'it returns false'. Refute it at one input. -/
def spanTellsWrong : ChangeSpec := { name := "spanTells", fn := fun _ => fun
  | [d1, d2, d3, d4] => { results := [.lit (.bool false)], args := [d1, d2, d3, d4] }
  | _ => none }
def SpanTellsWrongFalsely : Prop := spanTellsRow.holds Try.pinned (OpenSpec.ofChange spanTellsWrong)

/-- 'valancelaw03.SpanMeets': WHATEVER THE INPUT: true; the input reads as it did. -/
def spanMeetsSpec : ChangeSpec := { name := "spanMeets", fn := fun _ => fun
  | [d1, d2, d3, d4] => { results := [.lit (.bool true)], args := [d1, d2, d3, d4] }
  | _ => none }
def spanMeetsRow : OpenClaim := { program := "ytcadddijlgcnbaa", sum := "9ce718bad7628c4ebf943c382f1a851154b13d83cfcd558322980370696ce45c", func := "valance/valancelaw03.SpanMeets", spec := "spanMeets", apart := false }
def SpanMeetsSaid : Prop := spanMeetsRow.holds Try.pinned (OpenSpec.ofChange spanMeetsSpec)

/-- ITS FALSE NEIGHBOUR: 'it returns false'. Refute it at one input. -/
def spanMeetsWrong : ChangeSpec := { name := "spanMeets", fn := fun _ => fun
  | [d1, d2, d3, d4] => { results := [.lit (.bool false)], args := [d1, d2, d3, d4] }
  | _ => none }
def SpanMeetsWrongFalsely : Prop := spanMeetsRow.holds Try.pinned (OpenSpec.ofChange spanMeetsWrong)

/-- 'valancelaw03.SpanFits': WHATEVER THE INPUT: true; the input reads as it did. -/
def spanFitsSpec : ChangeSpec := { name := "spanFits", fn := fun _ => fun
  | [d1, d2, d3, d4] => { results := [.lit (.bool true)], args := [d1, d2, d3, d4] }
  | _ => none }
def spanFitsRow : OpenClaim := { program := "ytcadddijlgcnbaa", sum := "9ce718bad7628c4ebf943c382f1a851154b13d83cfcd558322980370696ce45c", func := "valance/valancelaw03.SpanFits", spec := "spanFits", apart := false }
def SpanFitsSaid : Prop := spanFitsRow.holds Try.pinned (OpenSpec.ofChange spanFitsSpec)

/-- ITS FALSE NEIGHBOUR: 'it returns false'. Refute it at one input. -/
def spanFitsWrong : ChangeSpec := { name := "spanFits", fn := fun _ => fun
  | [d1, d2, d3, d4] => { results := [.lit (.bool false)], args := [d1, d2, d3, d4] }
  | _ => none }
def SpanFitsWrongFalsely : Prop := spanFitsRow.holds Try.pinned (OpenSpec.ofChange spanFitsWrong)

/-- 'valancelaw03.SpanMoves': WHATEVER THE INPUT: true; the input reads as it did. -/
def spanMovesSpec : ChangeSpec := { name := "spanMoves", fn := fun _ => fun
  | [d1, d2, d3, d4] => { results := [.lit (.bool true)], args := [d1, d2, d3, d4] }
  | _ => none }
def spanMovesRow : OpenClaim := { program := "ytcadddijlgcnbaa", sum := "9ce718bad7628c4ebf943c382f1a851154b13d83cfcd558322980370696ce45c", func := "valance/valancelaw03.SpanMoves", spec := "spanMoves", apart := false }
def SpanMovesSaid : Prop := spanMovesRow.holds Try.pinned (OpenSpec.ofChange spanMovesSpec)

/-- ITS FALSE NEIGHBOUR: 'it returns false'. Refute it at one input. -/
def spanMovesWrong : ChangeSpec := { name := "spanMoves", fn := fun _ => fun
  | [d1, d2, d3, d4] => { results := [.lit (.bool false)], args := [d1, d2, d3, d4] }
  | _ => none }
def SpanMovesWrongFalsely : Prop := spanMovesRow.holds Try.pinned (OpenSpec.ofChange spanMovesWrong)

/-- 'valancelaw03.SpanNear': WHATEVER THE INPUT: true; the input reads as it did. -/
def spanNearSpec : ChangeSpec := { name := "spanNear", fn := fun _ => fun
  | [d1, d2, d3, d4] => { results := [.lit (.bool true)], args := [d1, d2, d3, d4] }
  | _ => none }
def spanNearRow : OpenClaim := { program := "ytcadddijlgcnbaa", sum := "9ce718bad7628c4ebf943c382f1a851154b13d83cfcd558322980370696ce45c", func := "valance/valancelaw03.SpanNear", spec := "spanNear", apart := false }
def SpanNearSaid : Prop := spanNearRow.holds Try.pinned (OpenSpec.ofChange spanNearSpec)

/-- ITS FALSE NEIGHBOUR: 'it returns false'. Refute it at one input. -/
def spanNearWrong : ChangeSpec := { name := "spanNear", fn := fun _ => fun
  | [d1, d2, d3, d4] => { results := [.lit (.bool false)], args := [d1, d2, d3, d4] }
  | _ => none }
def SpanNearWrongFalsely : Prop := spanNearRow.holds Try.pinned (OpenSpec.ofChange spanNearWrong)

/-- 'valancelaw01.FixReckons': WHATEVER THE INPUT: true; the input reads as it did. -/
def fixReckonsSpec : ChangeSpec := { name := "fixReckons", fn := fun _ => fun
  | [d1, d2, d3] => { results := [.lit (.bool true)], args := [d1, d2, d3] }
  | _ => none }
def fixReckonsRow : OpenClaim := { program := "ytcadddijlgcnbaa", sum := "9ce718bad7628c4ebf943c382f1a851154b13d83cfcd558322980370696ce45c", func := "valance/valancelaw01.FixReckons", spec := "fixReckons", apart := false }
def FixReckonsSaid : Prop := fixReckonsRow.holds Try.pinned (OpenSpec.ofChange fixReckonsSpec)

/-- ITS FALSE NEIGHBOUR: 'it returns false'. Refute it at one input. -/
def fixReckonsWrong : ChangeSpec := { name := "fixReckons", fn := fun _ => fun
  | [d1, d2, d3] => { results := [.lit (.bool false)], args := [d1, d2, d3] }
  | _ => none }
def FixReckonsWrongFalsely : Prop := fixReckonsRow.holds Try.pinned (OpenSpec.ofChange fixReckonsWrong)

/-- 'valancelaw01.FixSums': WHATEVER THE INPUT: true; the input reads as it did. -/
def fixSumsSpec : ChangeSpec := { name := "fixSums", fn := fun _ => fun
  | [d] => { results := [.lit (.bool true)], args := [d] }
  | _ => none }
def fixSumsRow : OpenClaim := { program := "ytcadddijlgcnbaa", sum := "9ce718bad7628c4ebf943c382f1a851154b13d83cfcd558322980370696ce45c", func := "valance/valancelaw01.FixSums", spec := "fixSums", apart := false }
def FixSumsSaid : Prop := fixSumsRow.holds Try.pinned (OpenSpec.ofChange fixSumsSpec)

/-- ITS FALSE NEIGHBOUR: 'it returns false'. Refute it at one input. -/
def fixSumsWrong : ChangeSpec := { name := "fixSums", fn := fun _ => fun
  | [d] => { results := [.lit (.bool false)], args := [d] }
  | _ => none }
def FixSumsWrongFalsely : Prop := fixSumsRow.holds Try.pinned (OpenSpec.ofChange fixSumsWrong)

/-- 'valancelaw01.FixLimits': WHATEVER THE INPUT: true; the input reads as it did. -/
def fixLimitsSpec : ChangeSpec := { name := "fixLimits", fn := fun _ => fun
  | [d1, d2, d3] => { results := [.lit (.bool true)], args := [d1, d2, d3] }
  | _ => none }
def fixLimitsRow : OpenClaim := { program := "ytcadddijlgcnbaa", sum := "9ce718bad7628c4ebf943c382f1a851154b13d83cfcd558322980370696ce45c", func := "valance/valancelaw01.FixLimits", spec := "fixLimits", apart := false }
def FixLimitsSaid : Prop := fixLimitsRow.holds Try.pinned (OpenSpec.ofChange fixLimitsSpec)

/-- ITS FALSE NEIGHBOUR: 'it returns false'. Refute it at one input. -/
def fixLimitsWrong : ChangeSpec := { name := "fixLimits", fn := fun _ => fun
  | [d1, d2, d3] => { results := [.lit (.bool false)], args := [d1, d2, d3] }
  | _ => none }
def FixLimitsWrongFalsely : Prop := fixLimitsRow.holds Try.pinned (OpenSpec.ofChange fixLimitsWrong)

/-- 'valancelaw01.FixOrder': WHATEVER THE INPUT: true; the input reads as it did. -/
def fixOrderSpec : ChangeSpec := { name := "fixOrder", fn := fun _ => fun
  | [d1, d2, d3, d4] => { results := [.lit (.bool true)], args := [d1, d2, d3, d4] }
  | _ => none }
def fixOrderRow : OpenClaim := { program := "ytcadddijlgcnbaa", sum := "9ce718bad7628c4ebf943c382f1a851154b13d83cfcd558322980370696ce45c", func := "valance/valancelaw01.FixOrder", spec := "fixOrder", apart := false }
def FixOrderSaid : Prop := fixOrderRow.holds Try.pinned (OpenSpec.ofChange fixOrderSpec)

/-- ITS FALSE NEIGHBOUR: 'it returns false'. Refute it at one input. -/
def fixOrderWrong : ChangeSpec := { name := "fixOrder", fn := fun _ => fun
  | [d1, d2, d3, d4] => { results := [.lit (.bool false)], args := [d1, d2, d3, d4] }
  | _ => none }
def FixOrderWrongFalsely : Prop := fixOrderRow.holds Try.pinned (OpenSpec.ofChange fixOrderWrong)

/-- 'valancelaw01.FixParts': WHATEVER THE INPUT: true; the input reads as it did. -/
def fixPartsSpec : ChangeSpec := { name := "fixParts", fn := fun _ => fun
  | [d1, d2] => { results := [.lit (.bool true)], args := [d1, d2] }
  | _ => none }
def fixPartsRow : OpenClaim := { program := "ytcadddijlgcnbaa", sum := "9ce718bad7628c4ebf943c382f1a851154b13d83cfcd558322980370696ce45c", func := "valance/valancelaw01.FixParts", spec := "fixParts", apart := false }
def FixPartsSaid : Prop := fixPartsRow.holds Try.pinned (OpenSpec.ofChange fixPartsSpec)

/-- ITS FALSE NEIGHBOUR: 'it returns false'. Refute it at one input. -/
def fixPartsWrong : ChangeSpec := { name := "fixParts", fn := fun _ => fun
  | [d1, d2] => { results := [.lit (.bool false)], args := [d1, d2] }
  | _ => none }
def FixPartsWrongFalsely : Prop := fixPartsRow.holds Try.pinned (OpenSpec.ofChange fixPartsWrong)

/-- 'valancelaw01.FixSigns': WHATEVER THE INPUT: true; the input reads as it did. -/
def fixSignsSpec : ChangeSpec := { name := "fixSigns", fn := fun _ => fun
  | [d1, d2] => { results := [.lit (.bool true)], args := [d1, d2] }
  | _ => none }
def fixSignsRow : OpenClaim := { program := "ytcadddijlgcnbaa", sum := "9ce718bad7628c4ebf943c382f1a851154b13d83cfcd558322980370696ce45c", func := "valance/valancelaw01.FixSigns", spec := "fixSigns", apart := false }
def FixSignsSaid : Prop := fixSignsRow.holds Try.pinned (OpenSpec.ofChange fixSignsSpec)

/-- ITS FALSE NEIGHBOUR: 'it returns false'. Refute it at one input. -/
def fixSignsWrong : ChangeSpec := { name := "fixSigns", fn := fun _ => fun
  | [d1, d2] => { results := [.lit (.bool false)], args := [d1, d2] }
  | _ => none }
def FixSignsWrongFalsely : Prop := fixSignsRow.holds Try.pinned (OpenSpec.ofChange fixSignsWrong)

/-- 'valancelaw01.FixSteps': WHATEVER THE INPUT: true; the input reads as it did. -/
def fixStepsSpec : ChangeSpec := { name := "fixSteps", fn := fun _ => fun
  | [d1, d2] => { results := [.lit (.bool true)], args := [d1, d2] }
  | _ => none }
def fixStepsRow : OpenClaim := { program := "ytcadddijlgcnbaa", sum := "9ce718bad7628c4ebf943c382f1a851154b13d83cfcd558322980370696ce45c", func := "valance/valancelaw01.FixSteps", spec := "fixSteps", apart := false }
def FixStepsSaid : Prop := fixStepsRow.holds Try.pinned (OpenSpec.ofChange fixStepsSpec)

/-- ITS FALSE NEIGHBOUR: 'it returns false'. Refute it at one input. -/
def fixStepsWrong : ChangeSpec := { name := "fixSteps", fn := fun _ => fun
  | [d1, d2] => { results := [.lit (.bool false)], args := [d1, d2] }
  | _ => none }
def FixStepsWrongFalsely : Prop := fixStepsRow.holds Try.pinned (OpenSpec.ofChange fixStepsWrong)

/- THE SECOND FORM. 'bulk': how many values and letters a reading holds, each counted each time it is reached (what is shared counts as often as it is met; a slice's spare places count too). A statement '..UptoSaid' is the law's where the arguments, and the package variables that the reading takes, are together of bulk at most 1048576: NARROWER than '..Said'. Prove '..Said' where nothing that the law and all that it calls make is longer than what came in: it says more and counts as full. Else prove '..UptoSaid'. A law counts once. -/
mutual
def uptoBulk {H : Type} : DataW H → Nat
  | .lit (.string bytes) => bytes.length + 1
  | .lit _ => 1
  | .nil => 1
  | .ptr d => uptoBulk d + 1
  | .slice elems spare => uptoBulkAll elems + uptoBulkAll spare + 1
  | .agg parts => uptoBulkAll parts + 1
  | .iface _ d => uptoBulk d + 1
  | .map entries => uptoBulkEntries entries + 1
  | .held _ => 1
def uptoBulkAll {H : Type} : List (DataW H) → Nat
  | [] => 0
  | d :: r => uptoBulk d + uptoBulkAll r
def uptoBulkEntries {H : Type} : List (Lit × DataW H) → Nat
  | [] => 0
  | x :: r => uptoBulkEntry x + uptoBulkEntries r
def uptoBulkEntry {H : Type} : Lit × DataW H → Nat
  | (.string bytes, d) => bytes.length + uptoBulk d + 1
  | (_, d) => uptoBulk d + 1
 end
def uptoSmall : (H : Type) → List (DataW H) → Bool := fun _ ds => decide (uptoBulkAll ds ≤ 1048576)
def OpenSpec.upto (s : _root_.Go.ChangeSpec) : _root_.Go.OpenSpec := { _root_.Go.OpenSpec.ofChange s with cond := some uptoSmall }

/-- 'valancelaw03.SpanTells', WHERE WHAT IT READS IS OF BULK AT MOST 1048576: true; the input reads as it did. -/
def spanTellsUptoRow : OpenClaim := { program := "ytcadddijlgcnbaa", sum := "9ce718bad7628c4ebf943c382f1a851154b13d83cfcd558322980370696ce45c", func := "valance/valancelaw03.SpanTells", spec := "spanTells", apart := false, narrowed := true }
def SpanTellsUptoSaid : Prop := spanTellsUptoRow.holds Try.pinned (OpenSpec.upto spanTellsSpec)

/-- 'valancelaw03.SpanMeets', WHERE WHAT IT READS IS OF BULK AT MOST 1048576: true; the input reads as it did. -/
def spanMeetsUptoRow : OpenClaim := { program := "ytcadddijlgcnbaa", sum := "9ce718bad7628c4ebf943c382f1a851154b13d83cfcd558322980370696ce45c", func := "valance/valancelaw03.SpanMeets", spec := "spanMeets", apart := false, narrowed := true }
def SpanMeetsUptoSaid : Prop := spanMeetsUptoRow.holds Try.pinned (OpenSpec.upto spanMeetsSpec)

/-- 'valancelaw03.SpanFits', WHERE WHAT IT READS IS OF BULK AT MOST 1048576: true; the input reads as it did. -/
def spanFitsUptoRow : OpenClaim := { program := "ytcadddijlgcnbaa", sum := "9ce718bad7628c4ebf943c382f1a851154b13d83cfcd558322980370696ce45c", func := "valance/valancelaw03.SpanFits", spec := "spanFits", apart := false, narrowed := true }
def SpanFitsUptoSaid : Prop := spanFitsUptoRow.holds Try.pinned (OpenSpec.upto spanFitsSpec)

/-- 'valancelaw03.SpanMoves', WHERE WHAT IT READS IS OF BULK AT MOST 1048576: true; the input reads as it did. -/
def spanMovesUptoRow : OpenClaim := { program := "ytcadddijlgcnbaa", sum := "9ce718bad7628c4ebf943c382f1a851154b13d83cfcd558322980370696ce45c", func := "valance/valancelaw03.SpanMoves", spec := "spanMoves", apart := false, narrowed := true }
def SpanMovesUptoSaid : Prop := spanMovesUptoRow.holds Try.pinned (OpenSpec.upto spanMovesSpec)

/-- 'valancelaw03.SpanNear', WHERE WHAT IT READS IS OF BULK AT MOST 1048576: true; the input reads as it did. -/
def spanNearUptoRow : OpenClaim := { program := "ytcadddijlgcnbaa", sum := "9ce718bad7628c4ebf943c382f1a851154b13d83cfcd558322980370696ce45c", func := "valance/valancelaw03.SpanNear", spec := "spanNear", apart := false, narrowed := true }
def SpanNearUptoSaid : Prop := spanNearUptoRow.holds Try.pinned (OpenSpec.upto spanNearSpec)

/-- 'valancelaw01.FixReckons', WHERE WHAT IT READS IS OF BULK AT MOST 1048576: true; the input reads as it did. -/
def fixReckonsUptoRow : OpenClaim := { program := "ytcadddijlgcnbaa", sum := "9ce718bad7628c4ebf943c382f1a851154b13d83cfcd558322980370696ce45c", func := "valance/valancelaw01.FixReckons", spec := "fixReckons", apart := false, narrowed := true }
def FixReckonsUptoSaid : Prop := fixReckonsUptoRow.holds Try.pinned (OpenSpec.upto fixReckonsSpec)

/-- 'valancelaw01.FixSums', WHERE WHAT IT READS IS OF BULK AT MOST 1048576: true; the input reads as it did. -/
def fixSumsUptoRow : OpenClaim := { program := "ytcadddijlgcnbaa", sum := "9ce718bad7628c4ebf943c382f1a851154b13d83cfcd558322980370696ce45c", func := "valance/valancelaw01.FixSums", spec := "fixSums", apart := false, narrowed := true }
def FixSumsUptoSaid : Prop := fixSumsUptoRow.holds Try.pinned (OpenSpec.upto fixSumsSpec)

/-- 'valancelaw01.FixLimits', WHERE WHAT IT READS IS OF BULK AT MOST 1048576: true; the input reads as it did. -/
def fixLimitsUptoRow : OpenClaim := { program := "ytcadddijlgcnbaa", sum := "9ce718bad7628c4ebf943c382f1a851154b13d83cfcd558322980370696ce45c", func := "valance/valancelaw01.FixLimits", spec := "fixLimits", apart := false, narrowed := true }
def FixLimitsUptoSaid : Prop := fixLimitsUptoRow.holds Try.pinned (OpenSpec.upto fixLimitsSpec)

/-- 'valancelaw01.FixOrder', WHERE WHAT IT READS IS OF BULK AT MOST 1048576: true; the input reads as it did. -/
def fixOrderUptoRow : OpenClaim := { program := "ytcadddijlgcnbaa", sum := "9ce718bad7628c4ebf943c382f1a851154b13d83cfcd558322980370696ce45c", func := "valance/valancelaw01.FixOrder", spec := "fixOrder", apart := false, narrowed := true }
def FixOrderUptoSaid : Prop := fixOrderUptoRow.holds Try.pinned (OpenSpec.upto fixOrderSpec)

/-- 'valancelaw01.FixParts', WHERE WHAT IT READS IS OF BULK AT MOST 1048576: true; the input reads as it did. -/
def fixPartsUptoRow : OpenClaim := { program := "ytcadddijlgcnbaa", sum := "9ce718bad7628c4ebf943c382f1a851154b13d83cfcd558322980370696ce45c", func := "valance/valancelaw01.FixParts", spec := "fixParts", apart := false, narrowed := true }
def FixPartsUptoSaid : Prop := fixPartsUptoRow.holds Try.pinned (OpenSpec.upto fixPartsSpec)

/-- 'valancelaw01.FixSigns', WHERE WHAT IT READS IS OF BULK AT MOST 1048576: true; the input reads as it did. -/
def fixSignsUptoRow : OpenClaim := { program := "ytcadddijlgcnbaa", sum := "9ce718bad7628c4ebf943c382f1a851154b13d83cfcd558322980370696ce45c", func := "valance/valancelaw01.FixSigns", spec := "fixSigns", apart := false, narrowed := true }
def FixSignsUptoSaid : Prop := fixSignsUptoRow.holds Try.pinned (OpenSpec.upto fixSignsSpec)

/-- 'valancelaw01.FixSteps', WHERE WHAT IT READS IS OF BULK AT MOST 1048576: true; the input reads as it did. -/
def fixStepsUptoRow : OpenClaim := { program := "ytcadddijlgcnbaa", sum := "9ce718bad7628c4ebf943c382f1a851154b13d83cfcd558322980370696ce45c", func := "valance/valancelaw01.FixSteps", spec := "fixSteps", apart := false, narrowed := true }
def FixStepsUptoSaid : Prop := fixStepsUptoRow.holds Try.pinned (OpenSpec.upto fixStepsSpec)

end Rows
end Go.Proofs.Ytcadddijlgcnbaa
