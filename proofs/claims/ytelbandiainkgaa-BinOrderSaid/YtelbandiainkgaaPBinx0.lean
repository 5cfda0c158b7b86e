-- Written by wip/pr.py, a program of this session's own that drives the kit's printer: not a text of print.sh.
import Derived.Test.YtelbandiainkgaaProg
import Derived.Below
import Derived.Deep.Draws
import Derived.Deep.AppendLies
import Derived.Maps.AppendAt
import Derived.OwnWalk
import Derived.Laws.BytesArg
import Derived.Laws.MakeOwn
import Derived.Laws.OwnMore
import Derived.Deep.OwnRows
import Derived.Tactics
import Derived.Lib.ConvBytes
import Derived.Laws.Slices
import Derived.WalkKit
import Derived.KernelRfl
import Derived.RowKit3
import Derived.Deep.LoopGhost
import Derived.Deep.QuietTactic
import Derived.BigQuiet
import Derived.WideLaws
import Derived.Deep.DeepCutAuto
import Derived.Deep.CutBlock
import Derived.Deep.RegionHeld3
import Derived.Laws.Rows
import Derived.Lib.AppendStr
import Derived.ArgAppend
import Derived.Laws.IdiomCopy
import Derived.OrdersHeld
import Derived.Laws.BitsLemmas
import Derived.RowKit
import Derived.Test.YtelbandiainkgaaWWords
import Derived.Test.YtelbandiainkgaaWLast
import Derived.Test.YtelbandiainkgaaWTab
import Derived.Test.YtelbandiainkgaaWFour
import Derived.Test.YtelbandiainkgaaWQPut
import Derived.Test.YtelbandiainkgaaWApart
import Derived.Test.YtelbandiainkgaaWArr
import Derived.Test.YtelbandiainkgaaWZeros
import Derived.Test.YtelbandiainkgaaWFoot
import Derived.Test.YtelbandiainkgaaWKept
import Derived.Test.YtelbandiainkgaaWShare
import Derived.Test.YtelbandiainkgaaWN
import Derived.Test.YtelbandiainkgaaWFootNe
import Derived.Test.YtelbandiainkgaaWAt
import Derived.Test.YtelbandiainkgaaWEqStruct
import Derived.Test.YtelbandiainkgaaWRepsOne
import Derived.Test.YtelbandiainkgaaWInv
import Derived.Test.YtelbandiainkgaaWInvWords
import Derived.Test.YtelbandiainkgaaWGuard
import Derived.Test.YtelbandiainkgaaWNEv
import Derived.Test.YtelbandiainkgaaWMore
namespace Go.Proofs.Ytelbandiainkgaa.PBin
open Go.RowKit Go.Proofs.YtelbandiainkgaaW.PrintWords Go.Proofs.YtelbandiainkgaaW.PrintLast Go.Proofs.YtelbandiainkgaaW.PrintMore
attribute [local go_sem] max2_int min2_int max_two min_two max_three min_three max_four min_four   -- for this text's walks alone
set_option linter.unusedVariables false
set_option linter.unusedSimpArgs false



def errW : Option Int → Value
  | none => .nilIface
  | some c => .iface 0 (.int .i64 c)
theorem errW_none : errW none = .nilIface := rfl
theorem errW_some (c : Int) : errW (some c) = .iface 0 (.int .i64 c) := rfl

theorem info3 : (Try.prog.info? 3).map (fun i => (i.zero, i.size, i.bytes)) = some (some (.int .i64 0), 1, 8) := by kernel_rfl
theorem info5 : (Try.prog.info? 5).map (fun i => (i.zero, i.size, i.bytes)) = some (some (.int .u8 0), 1, 1) := by kernel_rfl
-- the values' own types

end Go.Proofs.Ytelbandiainkgaa.PBin
