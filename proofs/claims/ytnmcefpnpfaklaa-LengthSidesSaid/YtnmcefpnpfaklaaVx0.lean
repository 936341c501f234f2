/- What the functions of this seat answer, as plain Lean functions, and that the calls come to just that (written by a program of this repo, over the kit's printer; Lean checks it). -/
import Derived.Test.YtnmcefpnpfaklaaProg
import Derived.Below
import Derived.Deep.Draws
import Derived.Deep.AppendLies
import Derived.Maps.AppendAt
import Derived.OwnWalk
import Derived.Laws.BytesArg
import Derived.Laws.MakeOwn
import Derived.Laws.OwnMore
import Derived.Deep.OwnRows
import Derived.Tactics
import Derived.Lib.ConvBytes
import Derived.Laws.Slices
import Derived.WalkKit
import Derived.KernelRfl
import Derived.RowKit3
import Derived.Deep.LoopGhost
import Derived.Deep.QuietTactic
import Derived.BigQuiet
import Derived.WideLaws
import Derived.Deep.DeepCutAuto
import Derived.Deep.CutBlock
import Derived.Deep.RegionHeld3
import Derived.Laws.Rows
import Derived.Lib.AppendStr
import Derived.ArgAppend
import Derived.Laws.IdiomCopy
import Derived.OrdersHeld
import Derived.Laws.BitsLemmas
import Derived.RowKit
import Derived.WalkMore
import Derived.ScopeJumps
import Derived.WalkLawsBesides
import Derived.Laws.EntriesVeiled
import Derived.BigFrame
import Derived.Laws.Cover2
import Derived.Laws.Cover3
import Derived.Laws.FloatArith
import Derived.Laws.ComplexArith
import Derived.Laws.Externs
import Derived.Laws.BitsAllLaws
import Derived.Test.YtnmcefpnpfaklaaPlainFlt
import Derived.Test.YtnmcefpnpfaklaaWWords
import Derived.Test.YtnmcefpnpfaklaaWLast
import Derived.Test.YtnmcefpnpfaklaaWTab
import Derived.Test.YtnmcefpnpfaklaaWFour
import Derived.Test.YtnmcefpnpfaklaaWQPut
import Derived.Test.YtnmcefpnpfaklaaWApart
import Derived.Test.YtnmcefpnpfaklaaWArr
import Derived.Test.YtnmcefpnpfaklaaWZeros
import Derived.Test.YtnmcefpnpfaklaaWFoot
import Derived.Test.YtnmcefpnpfaklaaWKept
import Derived.Test.YtnmcefpnpfaklaaWShare
import Derived.Test.YtnmcefpnpfaklaaWN
import Derived.Test.YtnmcefpnpfaklaaWFootNe
import Derived.Test.YtnmcefpnpfaklaaWAt
import Derived.Test.YtnmcefpnpfaklaaWEqStruct
import Derived.Test.YtnmcefpnpfaklaaWRepsOne
import Derived.Test.YtnmcefpnpfaklaaWInv
import Derived.Test.YtnmcefpnpfaklaaWInvWords
import Derived.Test.YtnmcefpnpfaklaaWGuard
import Derived.Test.YtnmcefpnpfaklaaWNEv
import Derived.Test.YtnmcefpnpfaklaaWMore
namespace Go.Proofs.Ytnmcefpnpfaklaa.V
open Go.RowKit Go.Proofs.Ytnmcefpnpfaklaa.Flt Go.Proofs.YtnmcefpnpfaklaaW.PrintWords Go.Proofs.YtnmcefpnpfaklaaW.PrintLast Go.Proofs.YtnmcefpnpfaklaaW.PrintMore
attribute [local go_sem high] run_eql_vpt2 run_neq_vpt2 eqGuard_vpt2 vpt2_zero run_add_vpt2
attribute [local go_sem] max2_int min2_int max_two min_two max_three min_three max_four min_four   -- for this text's walks alone
set_option linter.unusedVariables false
set_option linter.unusedSimpArgs false



def errW : Option Int → Value
  | none => .nilIface
  | some c => .iface 0 (.int .i64 c)
theorem errW_none : errW none = .nilIface := rfl
theorem errW_some (c : Int) : errW (some c) = .iface 0 (.int .i64 c) := rfl

-- the values' own types

end Go.Proofs.Ytnmcefpnpfaklaa.V
