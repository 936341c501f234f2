/-
  No cell of these rows narrows 'for every input' (looked for: loops, veiled, ifaces, maps, wideKeys, modest, calm, conditions, laid).
  DERIVED. THE GIVEN ROWS OF THIS SEAT. 9 by the template 'for every input the law returns true; each argument reads behind the call as it read before'; 0 by the template 'total and deterministic' (their statements: YtnmcefpnpfaklaaTotals.lean).
  GIVEN WITH THE SEED: the statements are not yours to turn. If you find one false, say at which input.
  Laid BY PROGRAM, IN A SANDBOX (cutbox-rows.mjs): the forced cells as the released guide's own fill.sh prints them over the translation ffa738905cadf2c1… (all of the seat's roots in one cut). By AI agents, Wed Nov 11 2026. No macro, syntax, notation, axiom, sorry.
-/
import Derived.Test.YtnmcefpnpfaklaaChecked
import GoSem.Claim
import GoSem.ClaimJoined
import GoSem.ClaimMapViews
import Derived.JoinedTies
import Derived.KernelRfl
namespace Go.Proofs.Ytnmcefpnpfaklaa
/- THE CELL 'sum', in the pinned program and in every row, IS THE sha256 OF THE DUMP (.gsa) THAT YtnmcefpnpfaklaaProg.lean LOADS. Nothing in Lean hashes anything: it is a label: what it is worth is what the hold of that sum in a sandbox is worth. -/
noncomputable def Try.pinned : Pinned := { name := "ytnmcefpnpfaklaa", sum := "ffa738905cadf2c1223c3f88ee5740122538b1a7b20a56ddf1a4bcdffbaeb053", checked := Try.checked }
namespace Rows
def none {H : Type} : Left H := { results := [], args := [] }

/-- 'valancelaw05.LengthTells': WHATEVER THE INPUT: true; the input reads as it did. -/
def lengthTellsSpec : ChangeSpec := { name := "lengthTells", fn := fun _ => fun
  | [d1, d2, d3, d4] => { results := [.lit (.bool true)], args := [d1, d2, d3, d4] }
  | _ => none }
def lengthTellsRow : OpenClaim := { program := "ytnmcefpnpfaklaa", sum := "ffa738905cadf2c1223c3f88ee5740122538b1a7b20a56ddf1a4bcdffbaeb053", func := "valance/valancelaw05.LengthTells", spec := "lengthTells", unfollowed := true, recurses := true, apart := false }
def LengthTellsSaid : Prop := lengthTellsRow.holds Try.pinned (OpenSpec.ofChange lengthTellsSpec)

/-- ITS FALSE NEIGHBOUR: 'it returns false'. Refute it at one input. -/
def lengthTellsWrong : ChangeSpec := { name := "lengthTells", fn := fun _ => fun
  | [d1, d2, d3, d4] => { results := [.lit (.bool false)], args := [d1, d2, d3, d4] }
  | _ => none }
def LengthTellsWrongFalsely : Prop := lengthTellsRow.holds Try.pinned (OpenSpec.ofChange lengthTellsWrong)

/-- 'valancelaw05.LengthLimits': WHATEVER THE INPUT: true; the input reads as it did. -/
def lengthLimitsSpec : ChangeSpec := { name := "lengthLimits", fn := fun _ => fun
  | [d1, d2, d3, d4] => { results := [.lit (.bool true)], args := [d1, d2, d3, d4] }
  | _ => none }
def lengthLimitsRow : OpenClaim := { program := "ytnmcefpnpfaklaa", sum := "ffa738905cadf2c1223c3f88ee5740122538b1a7b20a56ddf1a4bcdffbaeb053", func := "valance/valancelaw05.LengthLimits", spec := "lengthLimits", unfollowed := true, recurses := true, apart := false }
def LengthLimitsSaid : Prop := lengthLimitsRow.holds Try.pinned (OpenSpec.ofChange lengthLimitsSpec)

/-- ITS FALSE NEIGHBOUR: 'it returns false'. Refute it at one input. -/
def lengthLimitsWrong : ChangeSpec := { name := "lengthLimits", fn := fun _ => fun
  | [d1, d2, d3, d4] => { results := [.lit (.bool false)], args := [d1, d2, d3, d4] }
  | _ => none }
def LengthLimitsWrongFalsely : Prop := lengthLimitsRow.holds Try.pinned (OpenSpec.ofChange lengthLimitsWrong)

/-- 'valancelaw05.LengthWithin': WHATEVER THE INPUT: true; the input reads as it did. -/
def lengthWithinSpec : ChangeSpec := { name := "lengthWithin", fn := fun _ => fun
  | [d1, d2, d3, d4, d5] => { results := [.lit (.bool true)], args := [d1, d2, d3, d4, d5] }
  | _ => none }
def lengthWithinRow : OpenClaim := { program := "ytnmcefpnpfaklaa", sum := "ffa738905cadf2c1223c3f88ee5740122538b1a7b20a56ddf1a4bcdffbaeb053", func := "valance/valancelaw05.LengthWithin", spec := "lengthWithin", unfollowed := true, recurses := true, apart := false }
def LengthWithinSaid : Prop := lengthWithinRow.holds Try.pinned (OpenSpec.ofChange lengthWithinSpec)

/-- ITS FALSE NEIGHBOUR: 'it returns false'. Refute it at one input. -/
def lengthWithinWrong : ChangeSpec := { name := "lengthWithin", fn := fun _ => fun
  | [d1, d2, d3, d4, d5] => { results := [.lit (.bool false)], args := [d1, d2, d3, d4, d5] }
  | _ => none }
def LengthWithinWrongFalsely : Prop := lengthWithinRow.holds Try.pinned (OpenSpec.ofChange lengthWithinWrong)

/-- 'valancelaw05.LengthParts': WHATEVER THE INPUT: true; the input reads as it did. -/
def lengthPartsSpec : ChangeSpec := { name := "lengthParts", fn := fun _ => fun
  | [d1, d2, d3, d4] => { results := [.lit (.bool true)], args := [d1, d2, d3, d4] }
  | _ => none }
def lengthPartsRow : OpenClaim := { program := "ytnmcefpnpfaklaa", sum := "ffa738905cadf2c1223c3f88ee5740122538b1a7b20a56ddf1a4bcdffbaeb053", func := "valance/valancelaw05.LengthParts", spec := "lengthParts", unfollowed := true, recurses := true, apart := false }
def LengthPartsSaid : Prop := lengthPartsRow.holds Try.pinned (OpenSpec.ofChange lengthPartsSpec)

/-- ITS FALSE NEIGHBOUR: 'it returns false'. Refute it at one input. -/
def lengthPartsWrong : ChangeSpec := { name := "lengthParts", fn := fun _ => fun
  | [d1, d2, d3, d4] => { results := [.lit (.bool false)], args := [d1, d2, d3, d4] }
  | _ => none }
def LengthPartsWrongFalsely : Prop := lengthPartsRow.holds Try.pinned (OpenSpec.ofChange lengthPartsWrong)

/-- 'valancelaw05.LengthSides': WHATEVER THE INPUT: true; the input reads as it did. -/
def lengthSidesSpec : ChangeSpec := { name := "lengthSides", fn := fun _ => fun
  | [d1, d2, d3] => { results := [.lit (.bool true)], args := [d1, d2, d3] }
  | _ => none }
def lengthSidesRow : OpenClaim := { program := "ytnmcefpnpfaklaa", sum := "ffa738905cadf2c1223c3f88ee5740122538b1a7b20a56ddf1a4bcdffbaeb053", func := "valance/valancelaw05.LengthSides", spec := "lengthSides", unfollowed := true, recurses := true, apart := false }
def LengthSidesSaid : Prop := lengthSidesRow.holds Try.pinned (OpenSpec.ofChange lengthSidesSpec)

/-- ITS FALSE NEIGHBOUR: 'it returns false'. Refute it at one input. -/
def lengthSidesWrong : ChangeSpec := { name := "lengthSides", fn := fun _ => fun
  | [d1, d2, d3] => { results := [.lit (.bool false)], args := [d1, d2, d3] }
  | _ => none }
def LengthSidesWrongFalsely : Prop := lengthSidesRow.holds Try.pinned (OpenSpec.ofChange lengthSidesWrong)

/-- 'valancelaw05.LengthValid': WHATEVER THE INPUT: true; the input reads as it did. -/
def lengthValidSpec : ChangeSpec := { name := "lengthValid", fn := fun _ => fun
  | [d1, d2] => { results := [.lit (.bool true)], args := [d1, d2] }
  | _ => none }
def lengthValidRow : OpenClaim := { program := "ytnmcefpnpfaklaa", sum := "ffa738905cadf2c1223c3f88ee5740122538b1a7b20a56ddf1a4bcdffbaeb053", func := "valance/valancelaw05.LengthValid", spec := "lengthValid", unfollowed := true, recurses := true, apart := false }
def LengthValidSaid : Prop := lengthValidRow.holds Try.pinned (OpenSpec.ofChange lengthValidSpec)

/-- ITS FALSE NEIGHBOUR: 'it returns false'. Refute it at one input. -/
def lengthValidWrong : ChangeSpec := { name := "lengthValid", fn := fun _ => fun
  | [d1, d2] => { results := [.lit (.bool false)], args := [d1, d2] }
  | _ => none }
def LengthValidWrongFalsely : Prop := lengthValidRow.holds Try.pinned (OpenSpec.ofChange lengthValidWrong)

/-- 'valancelaw05.LengthMore': WHATEVER THE INPUT: true; the input reads as it did. -/
def lengthMoreSpec : ChangeSpec := { name := "lengthMore", fn := fun _ => fun
  | [d1, d2, d3, d4, d5] => { results := [.lit (.bool true)], args := [d1, d2, d3, d4, d5] }
  | _ => none }
def lengthMoreRow : OpenClaim := { program := "ytnmcefpnpfaklaa", sum := "ffa738905cadf2c1223c3f88ee5740122538b1a7b20a56ddf1a4bcdffbaeb053", func := "valance/valancelaw05.LengthMore", spec := "lengthMore", unfollowed := true, recurses := true, apart := false }
def LengthMoreSaid : Prop := lengthMoreRow.holds Try.pinned (OpenSpec.ofChange lengthMoreSpec)

/-- ITS FALSE NEIGHBOUR: 'it returns false'. Refute it at one input. -/
def lengthMoreWrong : ChangeSpec := { name := "lengthMore", fn := fun _ => fun
  | [d1, d2, d3, d4, d5] => { results := [.lit (.bool false)], args := [d1, d2, d3, d4, d5] }
  | _ => none }
def LengthMoreWrongFalsely : Prop := lengthMoreRow.holds Try.pinned (OpenSpec.ofChange lengthMoreWrong)

/-- 'valancelaw02.PointSums': WHATEVER THE INPUT: true; the input reads as it did. -/
def pointSumsSpec : ChangeSpec := { name := "pointSums", fn := fun _ => fun
  | [d1, d2, d3, d4] => { results := [.lit (.bool true)], args := [d1, d2, d3, d4] }
  | _ => none }
def pointSumsRow : OpenClaim := { program := "ytnmcefpnpfaklaa", sum := "ffa738905cadf2c1223c3f88ee5740122538b1a7b20a56ddf1a4bcdffbaeb053", func := "valance/valancelaw02.PointSums", spec := "pointSums", inPlace := ["math.Float64bits", "math.Float64frombits", "math.archTrunc"], apart := false }
def PointSumsSaid : Prop := pointSumsRow.holds Try.pinned (OpenSpec.ofChange pointSumsSpec)

/-- ITS FALSE NEIGHBOUR: 'it returns false'. Refute it at one input. -/
def pointSumsWrong : ChangeSpec := { name := "pointSums", fn := fun _ => fun
  | [d1, d2, d3, d4] => { results := [.lit (.bool false)], args := [d1, d2, d3, d4] }
  | _ => none }
def PointSumsWrongFalsely : Prop := pointSumsRow.holds Try.pinned (OpenSpec.ofChange pointSumsWrong)

/-- 'valancelaw02.PointAxes': WHATEVER THE INPUT: true; the input reads as it did. -/
def pointAxesSpec : ChangeSpec := { name := "pointAxes", fn := fun _ => fun
  | [d1, d2] => { results := [.lit (.bool true)], args := [d1, d2] }
  | _ => none }
def pointAxesRow : OpenClaim := { program := "ytnmcefpnpfaklaa", sum := "ffa738905cadf2c1223c3f88ee5740122538b1a7b20a56ddf1a4bcdffbaeb053", func := "valance/valancelaw02.PointAxes", spec := "pointAxes", inPlace := ["math.Float64bits", "math.Float64frombits", "math.archTrunc"], apart := false }
def PointAxesSaid : Prop := pointAxesRow.holds Try.pinned (OpenSpec.ofChange pointAxesSpec)

/-- ITS FALSE NEIGHBOUR: 'it returns false'. Refute it at one input. -/
def pointAxesWrong : ChangeSpec := { name := "pointAxes", fn := fun _ => fun
  | [d1, d2] => { results := [.lit (.bool false)], args := [d1, d2] }
  | _ => none }
def PointAxesWrongFalsely : Prop := pointAxesRow.holds Try.pinned (OpenSpec.ofChange pointAxesWrong)

/- THE SECOND FORM. 'bulk': how many values and letters a reading holds, each counted each time it is reached (what is shared counts as often as it is met; a slice's spare places count too). A statement '..UptoSaid' is the law's where the arguments, and the package variables that the reading takes, are together of bulk at most 1048576: NARROWER than '..Said'. Prove '..Said' where nothing that the law and all that it calls make is longer than what came in: it says more and counts as full. Else prove '..UptoSaid'. A law counts once. -/
mutual
def uptoBulk {H : Type} : DataW H → Nat
  | .lit (.string bytes) => bytes.length + 1
  | .lit _ => 1
  | .nil => 1
  | .ptr d => uptoBulk d + 1
  | .slice elems spare => uptoBulkAll elems + uptoBulkAll spare + 1
  | .agg parts => uptoBulkAll parts + 1
  | .iface _ d => uptoBulk d + 1
  | .map entries => uptoBulkEntries entries + 1
  | .held _ => 1
def uptoBulkAll {H : Type} : List (DataW H) → Nat
  | [] => 0
  | d :: r => uptoBulk d + uptoBulkAll r
def uptoBulkEntries {H : Type} : List (Lit × DataW H) → Nat
  | [] => 0
  | x :: r => uptoBulkEntry x + uptoBulkEntries r
def uptoBulkEntry {H : Type} : Lit × DataW H → Nat
  | (.string bytes, d) => bytes.length + uptoBulk d + 1
  | (_, d) => uptoBulk d + 1
 end
def uptoSmall : (H : Type) → List (DataW H) → Bool := fun _ ds => decide (uptoBulkAll ds ≤ 1048576)
def OpenSpec.upto (s : _root_.Go.ChangeSpec) : _root_.Go.OpenSpec := { _root_.Go.OpenSpec.ofChange s with cond := some uptoSmall }

/-- 'valancelaw05.LengthTells', WHERE WHAT IT READS IS OF BULK AT MOST 1048576: true; the input reads as it did. -/
def lengthTellsUptoRow : OpenClaim := { program := "ytnmcefpnpfaklaa", sum := "ffa738905cadf2c1223c3f88ee5740122538b1a7b20a56ddf1a4bcdffbaeb053", func := "valance/valancelaw05.LengthTells", spec := "lengthTells", unfollowed := true, recurses := true, apart := false, narrowed := true }
def LengthTellsUptoSaid : Prop := lengthTellsUptoRow.holds Try.pinned (OpenSpec.upto lengthTellsSpec)

/-- 'valancelaw05.LengthLimits', WHERE WHAT IT READS IS OF BULK AT MOST 1048576: true; the input reads as it did. -/
def lengthLimitsUptoRow : OpenClaim := { program := "ytnmcefpnpfaklaa", sum := "ffa738905cadf2c1223c3f88ee5740122538b1a7b20a56ddf1a4bcdffbaeb053", func := "valance/valancelaw05.LengthLimits", spec := "lengthLimits", unfollowed := true, recurses := true, apart := false, narrowed := true }
def LengthLimitsUptoSaid : Prop := lengthLimitsUptoRow.holds Try.pinned (OpenSpec.upto lengthLimitsSpec)

/-- 'valancelaw05.LengthWithin', WHERE WHAT IT READS IS OF BULK AT MOST 1048576: true; the input reads as it did. -/
def lengthWithinUptoRow : OpenClaim := { program := "ytnmcefpnpfaklaa", sum := "ffa738905cadf2c1223c3f88ee5740122538b1a7b20a56ddf1a4bcdffbaeb053", func := "valance/valancelaw05.LengthWithin", spec := "lengthWithin", unfollowed := true, recurses := true, apart := false, narrowed := true }
def LengthWithinUptoSaid : Prop := lengthWithinUptoRow.holds Try.pinned (OpenSpec.upto lengthWithinSpec)

/-- 'valancelaw05.LengthParts', WHERE WHAT IT READS IS OF BULK AT MOST 1048576: true; the input reads as it did. -/
def lengthPartsUptoRow : OpenClaim := { program := "ytnmcefpnpfaklaa", sum := "ffa738905cadf2c1223c3f88ee5740122538b1a7b20a56ddf1a4bcdffbaeb053", func := "valance/valancelaw05.LengthParts", spec := "lengthParts", unfollowed := true, recurses := true, apart := false, narrowed := true }
def LengthPartsUptoSaid : Prop := lengthPartsUptoRow.holds Try.pinned (OpenSpec.upto lengthPartsSpec)

/-- 'valancelaw05.LengthSides', WHERE WHAT IT READS IS OF BULK AT MOST 1048576: true; the input reads as it did. -/
def lengthSidesUptoRow : OpenClaim := { program := "ytnmcefpnpfaklaa", sum := "ffa738905cadf2c1223c3f88ee5740122538b1a7b20a56ddf1a4bcdffbaeb053", func := "valance/valancelaw05.LengthSides", spec := "lengthSides", unfollowed := true, recurses := true, apart := false, narrowed := true }
def LengthSidesUptoSaid : Prop := lengthSidesUptoRow.holds Try.pinned (OpenSpec.upto lengthSidesSpec)

/-- 'valancelaw05.LengthValid', WHERE WHAT IT READS IS OF BULK AT MOST 1048576: true; the input reads as it did. -/
def lengthValidUptoRow : OpenClaim := { program := "ytnmcefpnpfaklaa", sum := "ffa738905cadf2c1223c3f88ee5740122538b1a7b20a56ddf1a4bcdffbaeb053", func := "valance/valancelaw05.LengthValid", spec := "lengthValid", unfollowed := true, recurses := true, apart := false, narrowed := true }
def LengthValidUptoSaid : Prop := lengthValidUptoRow.holds Try.pinned (OpenSpec.upto lengthValidSpec)

/-- 'valancelaw05.LengthMore', WHERE WHAT IT READS IS OF BULK AT MOST 1048576: true; the input reads as it did. -/
def lengthMoreUptoRow : OpenClaim := { program := "ytnmcefpnpfaklaa", sum := "ffa738905cadf2c1223c3f88ee5740122538b1a7b20a56ddf1a4bcdffbaeb053", func := "valance/valancelaw05.LengthMore", spec := "lengthMore", unfollowed := true, recurses := true, apart := false, narrowed := true }
def LengthMoreUptoSaid : Prop := lengthMoreUptoRow.holds Try.pinned (OpenSpec.upto lengthMoreSpec)

/-- 'valancelaw02.PointSums', WHERE WHAT IT READS IS OF BULK AT MOST 1048576: true; the input reads as it did. -/
def pointSumsUptoRow : OpenClaim := { program := "ytnmcefpnpfaklaa", sum := "ffa738905cadf2c1223c3f88ee5740122538b1a7b20a56ddf1a4bcdffbaeb053", func := "valance/valancelaw02.PointSums", spec := "pointSums", inPlace := ["math.Float64bits", "math.Float64frombits", "math.archTrunc"], apart := false, narrowed := true }
def PointSumsUptoSaid : Prop := pointSumsUptoRow.holds Try.pinned (OpenSpec.upto pointSumsSpec)

/-- 'valancelaw02.PointAxes', WHERE WHAT IT READS IS OF BULK AT MOST 1048576: true; the input reads as it did. -/
def pointAxesUptoRow : OpenClaim := { program := "ytnmcefpnpfaklaa", sum := "ffa738905cadf2c1223c3f88ee5740122538b1a7b20a56ddf1a4bcdffbaeb053", func := "valance/valancelaw02.PointAxes", spec := "pointAxes", inPlace := ["math.Float64bits", "math.Float64frombits", "math.archTrunc"], apart := false, narrowed := true }
def PointAxesUptoSaid : Prop := pointAxesUptoRow.holds Try.pinned (OpenSpec.upto pointAxesSpec)

end Rows
end Go.Proofs.Ytnmcefpnpfaklaa
