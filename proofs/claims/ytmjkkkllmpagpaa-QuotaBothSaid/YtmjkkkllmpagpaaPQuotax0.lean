-- Written by wip/pr.py, a program of this session's own that drives the kit's printer: not a text of print.sh.
import Derived.Test.YtmjkkkllmpagpaaProg
import Derived.Below
import Derived.Deep.Draws
import Derived.Deep.AppendLies
import Derived.Maps.AppendAt
import Derived.OwnWalk
import Derived.Laws.BytesArg
import Derived.Laws.MakeOwn
import Derived.Laws.OwnMore
import Derived.Deep.OwnRows
import Derived.Tactics
import Derived.Lib.ConvBytes
import Derived.Laws.Slices
import Derived.WalkKit
import Derived.KernelRfl
import Derived.RowKit3
import Derived.Deep.LoopGhost
import Derived.Deep.QuietTactic
import Derived.BigQuiet
import Derived.WideLaws
import Derived.Deep.DeepCutAuto
import Derived.Deep.CutBlock
import Derived.Deep.RegionHeld3
import Derived.Laws.Rows
import Derived.Lib.AppendStr
import Derived.ArgAppend
import Derived.Laws.IdiomCopy
import Derived.OrdersHeld
import Derived.Laws.BitsLemmas
import Derived.RowKit
import Derived.Test.YtmjkkkllmpagpaaWWords
import Derived.Test.YtmjkkkllmpagpaaWLast
import Derived.Test.YtmjkkkllmpagpaaWTab
import Derived.Test.YtmjkkkllmpagpaaWFour
import Derived.Test.YtmjkkkllmpagpaaWQPut
import Derived.Test.YtmjkkkllmpagpaaWApart
import Derived.Test.YtmjkkkllmpagpaaWArr
import Derived.Test.YtmjkkkllmpagpaaWZeros
import Derived.Test.YtmjkkkllmpagpaaWFoot
import Derived.Test.YtmjkkkllmpagpaaWKept
import Derived.Test.YtmjkkkllmpagpaaWShare
import Derived.Test.YtmjkkkllmpagpaaWN
import Derived.Test.YtmjkkkllmpagpaaWFootNe
import Derived.Test.YtmjkkkllmpagpaaWAt
import Derived.Test.YtmjkkkllmpagpaaWEqStruct
import Derived.Test.YtmjkkkllmpagpaaWRepsOne
import Derived.Test.YtmjkkkllmpagpaaWInv
import Derived.Test.YtmjkkkllmpagpaaWInvWords
import Derived.Test.YtmjkkkllmpagpaaWGuard
import Derived.Test.YtmjkkkllmpagpaaWNEv
import Derived.Test.YtmjkkkllmpagpaaWMore
namespace Go.Proofs.Ytmjkkkllmpagpaa.PQuota
open Go.RowKit Go.Proofs.YtmjkkkllmpagpaaW.PrintWords Go.Proofs.YtmjkkkllmpagpaaW.PrintLast Go.Proofs.YtmjkkkllmpagpaaW.PrintMore
attribute [local go_sem] max2_int min2_int max_two min_two max_three min_three max_four min_four   -- for this text's walks alone
set_option linter.unusedVariables false
set_option linter.unusedSimpArgs false



def errW : Option Int → Value
  | none => .nilIface
  | some c => .iface 0 (.int .i64 c)
theorem errW_none : errW none = .nilIface := rfl
theorem errW_some (c : Int) : errW (some c) = .iface 0 (.int .i64 c) := rfl

-- the values' own types

end Go.Proofs.Ytmjkkkllmpagpaa.PQuota
