/- The walk of QueueOrder, part of it: what the Go functions answer; no condition. -/
import Derived.Test.YtpkomlobikmkkaaProg
import Derived.Below
import Derived.Deep.Draws
import Derived.Deep.AppendLies
import Derived.Maps.AppendAt
import Derived.OwnWalk
import Derived.Laws.BytesArg
import Derived.Laws.MakeOwn
import Derived.Laws.OwnMore
import Derived.Deep.OwnRows
import Derived.Tactics
import Derived.Lib.ConvBytes
import Derived.Laws.Slices
import Derived.WalkKit
import Derived.KernelRfl
import Derived.RowKit3
import Derived.Deep.LoopGhost
import Derived.Deep.QuietTactic
import Derived.BigQuiet
import Derived.WideLaws
import Derived.Deep.DeepCutAuto
import Derived.Deep.CutBlock
import Derived.Deep.RegionHeld3
import Derived.Laws.Rows
import Derived.Lib.AppendStr
import Derived.ArgAppend
import Derived.Laws.IdiomCopy
import Derived.OrdersHeld
import Derived.Laws.BitsLemmas
import Derived.RowKit
import Derived.Laws.CopyOwn
import Derived.Lib.Hide
import Derived.ArgAppend
import Derived.Lib.SliceRun
import Derived.Test.YtpkomlobikmkkaaWWords
import Derived.Test.YtpkomlobikmkkaaWLast
import Derived.Test.YtpkomlobikmkkaaWTab
import Derived.Test.YtpkomlobikmkkaaWFour
import Derived.Test.YtpkomlobikmkkaaWQPut
import Derived.Test.YtpkomlobikmkkaaWApart
import Derived.Test.YtpkomlobikmkkaaWArr
import Derived.Test.YtpkomlobikmkkaaWZeros
import Derived.Test.YtpkomlobikmkkaaWFoot
import Derived.Test.YtpkomlobikmkkaaWKept
import Derived.Test.YtpkomlobikmkkaaWShare
import Derived.Test.YtpkomlobikmkkaaWN
import Derived.Test.YtpkomlobikmkkaaWFootNe
import Derived.Test.YtpkomlobikmkkaaWAt
import Derived.Test.YtpkomlobikmkkaaWEqStruct
import Derived.Test.YtpkomlobikmkkaaWRepsOne
import Derived.Test.YtpkomlobikmkkaaWInv
import Derived.Test.YtpkomlobikmkkaaWInvWords
import Derived.Test.YtpkomlobikmkkaaWGuard
import Derived.Test.YtpkomlobikmkkaaWNEv
import Derived.Test.YtpkomlobikmkkaaWMore
namespace Go.Proofs.Ytpkomlobikmkkaa.PQueueOrder
open Go.RowKit Go.Proofs.YtpkomlobikmkkaaW.PrintWords Go.Proofs.YtpkomlobikmkkaaW.PrintLast Go.Proofs.YtpkomlobikmkkaaW.PrintMore
attribute [local go_sem] max2_int min2_int max_two min_two max_three min_three max_four min_four   -- for this text's walks alone
set_option linter.unusedVariables false
set_option linter.unusedSimpArgs false



def errW : Option Int → Value
  | none => .nilIface
  | some c => .iface 0 (.int .i64 c)
theorem errW_none : errW none = .nilIface := rfl
theorem errW_some (c : Int) : errW (some c) = .iface 0 (.int .i64 c) := rfl

theorem info3 : (Try.prog.info? 3).map (fun i => (i.zero, i.size, i.bytes)) = some (some (.int .i64 0), 1, 8) := by kernel_rfl
-- the values' own types

end Go.Proofs.Ytpkomlobikmkkaa.PQueueOrder
