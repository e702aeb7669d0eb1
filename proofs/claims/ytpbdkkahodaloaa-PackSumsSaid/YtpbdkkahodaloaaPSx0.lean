-- Written by a program of this session's (wip/tools/myprint.py): a function's plain form and its contract.
import Derived.Test.YtpbdkkahodaloaaProg
import Derived.Below
import Derived.Deep.Draws
import Derived.Deep.AppendLies
import Derived.Maps.AppendAt
import Derived.OwnWalk
import Derived.Laws.BytesArg
import Derived.Laws.MakeOwn
import Derived.Laws.OwnMore
import Derived.Deep.OwnRows
import Derived.Tactics
import Derived.Lib.ConvBytes
import Derived.Laws.Slices
import Derived.WalkKit
import Derived.KernelRfl
import Derived.RowKit3
import Derived.Deep.LoopGhost
import Derived.Deep.QuietTactic
import Derived.BigQuiet
import Derived.WideLaws
import Derived.Deep.DeepCutAuto
import Derived.Deep.CutBlock
import Derived.Deep.RegionHeld3
import Derived.Laws.Rows
import Derived.Lib.AppendStr
import Derived.ArgAppend
import Derived.Laws.IdiomCopy
import Derived.OrdersHeld
import Derived.Laws.BitsLemmas
import Derived.RowKit
import Derived.Test.YtpbdkkahodaloaaZw
import Derived.Test.YtpbdkkahodaloaaWWords
import Derived.Test.YtpbdkkahodaloaaWLast
import Derived.Test.YtpbdkkahodaloaaWTab
import Derived.Test.YtpbdkkahodaloaaWFour
import Derived.Test.YtpbdkkahodaloaaWQPut
import Derived.Test.YtpbdkkahodaloaaWApart
import Derived.Test.YtpbdkkahodaloaaWArr
import Derived.Test.YtpbdkkahodaloaaWZeros
import Derived.Test.YtpbdkkahodaloaaWFoot
import Derived.Test.YtpbdkkahodaloaaWKept
import Derived.Test.YtpbdkkahodaloaaWShare
import Derived.Test.YtpbdkkahodaloaaWN
import Derived.Test.YtpbdkkahodaloaaWFootNe
import Derived.Test.YtpbdkkahodaloaaWAt
import Derived.Test.YtpbdkkahodaloaaWEqStruct
import Derived.Test.YtpbdkkahodaloaaWRepsOne
import Derived.Test.YtpbdkkahodaloaaWInv
import Derived.Test.YtpbdkkahodaloaaWInvWords
import Derived.Test.YtpbdkkahodaloaaWGuard
import Derived.Test.YtpbdkkahodaloaaWNEv
import Derived.Test.YtpbdkkahodaloaaWMore
namespace Go.Proofs.Ytpbdkkahodaloaa.PS
open Go.RowKit Go.Proofs.YtpbdkkahodaloaaW.PrintWords Go.Proofs.YtpbdkkahodaloaaW.PrintLast Go.Proofs.YtpbdkkahodaloaaW.PrintMore
attribute [local go_sem] max2_int min2_int max_two min_two max_three min_three max_four min_four   -- for this text's walks alone
set_option linter.unusedVariables false
set_option linter.unusedSimpArgs false



def errW : Option Int → Value
  | none => .nilIface
  | some c => .iface 0 (.int .i64 c)
theorem errW_none : errW none = .nilIface := rfl
theorem errW_some (c : Int) : errW (some c) = .iface 0 (.int .i64 c) := rfl

theorem info5 : (Try.prog.info? 5).map (fun i => (i.zero, i.size, i.bytes)) = some (some (.int .u8 0), 1, 1) := by kernel_rfl
-- the values' own types

end Go.Proofs.Ytpbdkkahodaloaa.PS
