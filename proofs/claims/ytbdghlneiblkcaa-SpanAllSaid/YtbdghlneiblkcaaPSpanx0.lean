-- Written by wip/pr.py, a program of this session's own that drives the kit's printer: not a text of print.sh.
import Derived.Test.YtbdghlneiblkcaaProg
import Derived.Below
import Derived.Deep.Draws
import Derived.Deep.AppendLies
import Derived.Maps.AppendAt
import Derived.OwnWalk
import Derived.Laws.BytesArg
import Derived.Laws.MakeOwn
import Derived.Laws.OwnMore
import Derived.Deep.OwnRows
import Derived.Tactics
import Derived.Lib.ConvBytes
import Derived.Laws.Slices
import Derived.WalkKit
import Derived.KernelRfl
import Derived.RowKit3
import Derived.Deep.LoopGhost
import Derived.Deep.QuietTactic
import Derived.BigQuiet
import Derived.WideLaws
import Derived.Deep.DeepCutAuto
import Derived.Deep.CutBlock
import Derived.Deep.RegionHeld3
import Derived.Laws.Rows
import Derived.Lib.AppendStr
import Derived.ArgAppend
import Derived.Laws.IdiomCopy
import Derived.OrdersHeld
import Derived.Laws.BitsLemmas
import Derived.RowKit
import Derived.Test.YtbdghlneiblkcaaWWords
import Derived.Test.YtbdghlneiblkcaaWLast
import Derived.Test.YtbdghlneiblkcaaWTab
import Derived.Test.YtbdghlneiblkcaaWFour
import Derived.Test.YtbdghlneiblkcaaWQPut
import Derived.Test.YtbdghlneiblkcaaWApart
import Derived.Test.YtbdghlneiblkcaaWArr
import Derived.Test.YtbdghlneiblkcaaWZeros
import Derived.Test.YtbdghlneiblkcaaWFoot
import Derived.Test.YtbdghlneiblkcaaWKept
import Derived.Test.YtbdghlneiblkcaaWShare
import Derived.Test.YtbdghlneiblkcaaWN
import Derived.Test.YtbdghlneiblkcaaWFootNe
import Derived.Test.YtbdghlneiblkcaaWAt
import Derived.Test.YtbdghlneiblkcaaWEqStruct
import Derived.Test.YtbdghlneiblkcaaWRepsOne
import Derived.Test.YtbdghlneiblkcaaWInv
import Derived.Test.YtbdghlneiblkcaaWInvWords
import Derived.Test.YtbdghlneiblkcaaWGuard
import Derived.Test.YtbdghlneiblkcaaWNEv
import Derived.Test.YtbdghlneiblkcaaWMore
namespace Go.Proofs.Ytbdghlneiblkcaa.PSpan
open Go.RowKit Go.Proofs.YtbdghlneiblkcaaW.PrintWords Go.Proofs.YtbdghlneiblkcaaW.PrintLast Go.Proofs.YtbdghlneiblkcaaW.PrintMore
attribute [local go_sem] max2_int min2_int max_two min_two max_three min_three max_four min_four   -- for this text's walks alone
set_option linter.unusedVariables false
set_option linter.unusedSimpArgs false



def errW : Option Int → Value
  | none => .nilIface
  | some c => .iface 0 (.int .i64 c)
theorem errW_none : errW none = .nilIface := rfl
theorem errW_some (c : Int) : errW (some c) = .iface 0 (.int .i64 c) := rfl

theorem info3 : (Try.prog.info? 3).map (fun i => (i.zero, i.size, i.bytes)) = some (some (.int .i64 0), 1, 8) := by kernel_rfl
theorem info5 : (Try.prog.info? 5).map (fun i => (i.zero, i.size, i.bytes)) = some (some (.int .u8 0), 1, 1) := by kernel_rfl
-- the values' own types

end Go.Proofs.Ytbdghlneiblkcaa.PSpan
