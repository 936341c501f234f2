/- What the functions of this seat answer, as plain Lean functions, and that the calls come to just that (written by a program of this repo, over the kit's printer; Lean checks it). -/
import Derived.Test.YtcadddijlgcnbaaProg
import Derived.Below
import Derived.Deep.Draws
import Derived.Deep.AppendLies
import Derived.Maps.AppendAt
import Derived.OwnWalk
import Derived.Laws.BytesArg
import Derived.Laws.MakeOwn
import Derived.Laws.OwnMore
import Derived.Deep.OwnRows
import Derived.Tactics
import Derived.Lib.ConvBytes
import Derived.Laws.Slices
import Derived.WalkKit
import Derived.KernelRfl
import Derived.RowKit3
import Derived.Deep.LoopGhost
import Derived.Deep.QuietTactic
import Derived.BigQuiet
import Derived.WideLaws
import Derived.Deep.DeepCutAuto
import Derived.Deep.CutBlock
import Derived.Deep.RegionHeld3
import Derived.Laws.Rows
import Derived.Lib.AppendStr
import Derived.ArgAppend
import Derived.Laws.IdiomCopy
import Derived.OrdersHeld
import Derived.Laws.BitsLemmas
import Derived.RowKit
import Derived.WalkMore
import Derived.ScopeJumps
import Derived.WalkLawsBesides
import Derived.Laws.EntriesVeiled
import Derived.Test.YtcadddijlgcnbaaWWords
import Derived.Test.YtcadddijlgcnbaaWLast
import Derived.Test.YtcadddijlgcnbaaWTab
import Derived.Test.YtcadddijlgcnbaaWFour
import Derived.Test.YtcadddijlgcnbaaWQPut
import Derived.Test.YtcadddijlgcnbaaWApart
import Derived.Test.YtcadddijlgcnbaaWArr
import Derived.Test.YtcadddijlgcnbaaWZeros
import Derived.Test.YtcadddijlgcnbaaWFoot
import Derived.Test.YtcadddijlgcnbaaWKept
import Derived.Test.YtcadddijlgcnbaaWShare
import Derived.Test.YtcadddijlgcnbaaWN
import Derived.Test.YtcadddijlgcnbaaWFootNe
import Derived.Test.YtcadddijlgcnbaaWAt
import Derived.Test.YtcadddijlgcnbaaWEqStruct
import Derived.Test.YtcadddijlgcnbaaWRepsOne
import Derived.Test.YtcadddijlgcnbaaWInv
import Derived.Test.YtcadddijlgcnbaaWInvWords
import Derived.Test.YtcadddijlgcnbaaWGuard
import Derived.Test.YtcadddijlgcnbaaWNEv
import Derived.Test.YtcadddijlgcnbaaWMore
namespace Go.Proofs.Ytcadddijlgcnbaa.V
open Go.RowKit Go.Proofs.YtcadddijlgcnbaaW.PrintWords Go.Proofs.YtcadddijlgcnbaaW.PrintLast Go.Proofs.YtcadddijlgcnbaaW.PrintMore
attribute [local go_sem] max2_int min2_int max_two min_two max_three min_three max_four min_four   -- for this text's walks alone
set_option linter.unusedVariables false
set_option linter.unusedSimpArgs false



def errW : Option Int → Value
  | none => .nilIface
  | some c => .iface 0 (.int .i64 c)
theorem errW_none : errW none = .nilIface := rfl
theorem errW_some (c : Int) : errW (some c) = .iface 0 (.int .i64 c) := rfl

theorem info3 : (Try.prog.info? 3).map (fun i => (i.zero, i.size, i.bytes)) = some (some (.int .i64 0), 1, 8) := by kernel_rfl
-- the values' own types

end Go.Proofs.Ytcadddijlgcnbaa.V
