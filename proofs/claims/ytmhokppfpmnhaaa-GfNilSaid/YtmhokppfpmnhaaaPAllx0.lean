/- Contracts of Go functions that a law reaches: written by a program of this session (a changed copy of the kit's print: wip/tools). -/
import Derived.Test.YtmhokppfpmnhaaaProg
import Derived.Below
import Derived.Deep.Draws
import Derived.Deep.AppendLies
import Derived.Maps.AppendAt
import Derived.OwnWalk
import Derived.Laws.BytesArg
import Derived.Laws.MakeOwn
import Derived.Laws.OwnMore
import Derived.Deep.OwnRows
import Derived.Tactics
import Derived.Lib.ConvBytes
import Derived.Laws.Slices
import Derived.WalkKit
import Derived.KernelRfl
import Derived.RowKit3
import Derived.Deep.LoopGhost
import Derived.Deep.QuietTactic
import Derived.BigQuiet
import Derived.WideLaws
import Derived.Deep.DeepCutAuto
import Derived.Deep.CutBlock
import Derived.Deep.RegionHeld3
import Derived.Laws.Rows
import Derived.Lib.AppendStr
import Derived.ArgAppend
import Derived.Laws.IdiomCopy
import Derived.OrdersHeld
import Derived.Laws.BitsLemmas
import Derived.RowKit
import Derived.Test.YtmhokppfpmnhaaaOwn
import Derived.Test.YtmhokppfpmnhaaaWWords
import Derived.Test.YtmhokppfpmnhaaaWLast
import Derived.Test.YtmhokppfpmnhaaaWTab
import Derived.Test.YtmhokppfpmnhaaaWFour
import Derived.Test.YtmhokppfpmnhaaaWQPut
import Derived.Test.YtmhokppfpmnhaaaWApart
import Derived.Test.YtmhokppfpmnhaaaWArr
import Derived.Test.YtmhokppfpmnhaaaWZeros
import Derived.Test.YtmhokppfpmnhaaaWFoot
import Derived.Test.YtmhokppfpmnhaaaWKept
import Derived.Test.YtmhokppfpmnhaaaWShare
import Derived.Test.YtmhokppfpmnhaaaWN
import Derived.Test.YtmhokppfpmnhaaaWFootNe
import Derived.Test.YtmhokppfpmnhaaaWAt
import Derived.Test.YtmhokppfpmnhaaaWEqStruct
import Derived.Test.YtmhokppfpmnhaaaWRepsOne
import Derived.Test.YtmhokppfpmnhaaaWInv
import Derived.Test.YtmhokppfpmnhaaaWInvWords
import Derived.Test.YtmhokppfpmnhaaaWGuard
import Derived.Test.YtmhokppfpmnhaaaWNEv
import Derived.Test.YtmhokppfpmnhaaaWMore
namespace Go.Proofs.Ytmhokppfpmnhaaa.PAll
open Go.RowKit Go.Proofs.YtmhokppfpmnhaaaOwn Go.Proofs.YtmhokppfpmnhaaaW.PrintWords Go.Proofs.YtmhokppfpmnhaaaW.PrintLast Go.Proofs.YtmhokppfpmnhaaaW.PrintMore
attribute [local go_sem] max2_int min2_int max_two min_two max_three min_three max_four min_four   -- for this text's walks alone
set_option linter.unusedVariables false
set_option linter.unusedSimpArgs false



def errW : Option Int → Value
  | none => .nilIface
  | some c => .iface 0 (.int .i64 c)
theorem errW_none : errW none = .nilIface := rfl
theorem errW_some (c : Int) : errW (some c) = .iface 0 (.int .i64 c) := rfl

-- the values' own types

end Go.Proofs.Ytmhokppfpmnhaaa.PAll
