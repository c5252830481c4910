/- Contracts of Go functions that a law reaches: written by a program of this session (a changed copy of the kit's print: wip/tools). -/
import Derived.Test.YtfipefngcbnlkaaProg
import Derived.Below
import Derived.Deep.Draws
import Derived.Deep.AppendLies
import Derived.Maps.AppendAt
import Derived.OwnWalk
import Derived.Laws.BytesArg
import Derived.Laws.MakeOwn
import Derived.Laws.OwnMore
import Derived.Deep.OwnRows
import Derived.Tactics
import Derived.Lib.ConvBytes
import Derived.Laws.Slices
import Derived.WalkKit
import Derived.KernelRfl
import Derived.RowKit3
import Derived.Deep.LoopGhost
import Derived.Deep.QuietTactic
import Derived.BigQuiet
import Derived.WideLaws
import Derived.Deep.DeepCutAuto
import Derived.Deep.CutBlock
import Derived.Deep.RegionHeld3
import Derived.Laws.Rows
import Derived.Lib.AppendStr
import Derived.ArgAppend
import Derived.Laws.IdiomCopy
import Derived.OrdersHeld
import Derived.Laws.BitsLemmas
import Derived.RowKit
import Derived.Test.YtfipefngcbnlkaaOwn
import Derived.Test.YtfipefngcbnlkaaWWords
import Derived.Test.YtfipefngcbnlkaaWLast
import Derived.Test.YtfipefngcbnlkaaWTab
import Derived.Test.YtfipefngcbnlkaaWFour
import Derived.Test.YtfipefngcbnlkaaWQPut
import Derived.Test.YtfipefngcbnlkaaWApart
import Derived.Test.YtfipefngcbnlkaaWArr
import Derived.Test.YtfipefngcbnlkaaWZeros
import Derived.Test.YtfipefngcbnlkaaWFoot
import Derived.Test.YtfipefngcbnlkaaWKept
import Derived.Test.YtfipefngcbnlkaaWShare
import Derived.Test.YtfipefngcbnlkaaWN
import Derived.Test.YtfipefngcbnlkaaWFootNe
import Derived.Test.YtfipefngcbnlkaaWAt
import Derived.Test.YtfipefngcbnlkaaWEqStruct
import Derived.Test.YtfipefngcbnlkaaWRepsOne
import Derived.Test.YtfipefngcbnlkaaWInv
import Derived.Test.YtfipefngcbnlkaaWInvWords
import Derived.Test.YtfipefngcbnlkaaWGuard
import Derived.Test.YtfipefngcbnlkaaWNEv
import Derived.Test.YtfipefngcbnlkaaWMore
namespace Go.Proofs.Ytfipefngcbnlkaa.PAll
open Go.RowKit Go.Proofs.YtfipefngcbnlkaaOwn Go.Proofs.YtfipefngcbnlkaaW.PrintWords Go.Proofs.YtfipefngcbnlkaaW.PrintLast Go.Proofs.YtfipefngcbnlkaaW.PrintMore
attribute [local go_sem] max2_int min2_int max_two min_two max_three min_three max_four min_four   -- for this text's walks alone
set_option linter.unusedVariables false
set_option linter.unusedSimpArgs false



def errW : Option Int → Value
  | none => .nilIface
  | some c => .iface 0 (.int .i64 c)
theorem errW_none : errW none = .nilIface := rfl
theorem errW_some (c : Int) : errW (some c) = .iface 0 (.int .i64 c) := rfl

theorem info5 : (Try.prog.info? 5).map (fun i => (i.zero, i.size, i.bytes)) = some (some (.int .u8 0), 1, 1) := by kernel_rfl
theorem info39 : (Try.prog.info? 39).map (fun i => (i.zero, i.size, i.bytes)) = some (some (.agg #[(.int .u8 0), (.int .u8 0)]), 2, 2) := by kernel_rfl
-- the values' own types

end Go.Proofs.Ytfipefngcbnlkaa.PAll
