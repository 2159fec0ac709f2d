/- The walk of WordUsable, part of it: what the Go functions answer; no condition. -/
import Derived.Test.YtdbpdpdpabhfbaaProg
import Derived.Below
import Derived.Deep.Draws
import Derived.Deep.AppendLies
import Derived.Maps.AppendAt
import Derived.OwnWalk
import Derived.Laws.BytesArg
import Derived.Laws.MakeOwn
import Derived.Laws.OwnMore
import Derived.Deep.OwnRows
import Derived.Tactics
import Derived.Lib.ConvBytes
import Derived.Laws.Slices
import Derived.WalkKit
import Derived.KernelRfl
import Derived.RowKit3
import Derived.Deep.LoopGhost
import Derived.Deep.QuietTactic
import Derived.BigQuiet
import Derived.WideLaws
import Derived.Deep.DeepCutAuto
import Derived.Deep.CutBlock
import Derived.Deep.RegionHeld3
import Derived.Laws.Rows
import Derived.Lib.AppendStr
import Derived.ArgAppend
import Derived.Laws.IdiomCopy
import Derived.OrdersHeld
import Derived.Laws.BitsLemmas
import Derived.RowKit
import Derived.Laws.CopyOwn
import Derived.Lib.Hide
import Derived.Test.YtdbpdpdpabhfbaaWWords
import Derived.Test.YtdbpdpdpabhfbaaWLast
import Derived.Test.YtdbpdpdpabhfbaaWTab
import Derived.Test.YtdbpdpdpabhfbaaWFour
import Derived.Test.YtdbpdpdpabhfbaaWQPut
import Derived.Test.YtdbpdpdpabhfbaaWApart
import Derived.Test.YtdbpdpdpabhfbaaWArr
import Derived.Test.YtdbpdpdpabhfbaaWZeros
import Derived.Test.YtdbpdpdpabhfbaaWFoot
import Derived.Test.YtdbpdpdpabhfbaaWKept
import Derived.Test.YtdbpdpdpabhfbaaWShare
import Derived.Test.YtdbpdpdpabhfbaaWN
import Derived.Test.YtdbpdpdpabhfbaaWFootNe
import Derived.Test.YtdbpdpdpabhfbaaWAt
import Derived.Test.YtdbpdpdpabhfbaaWEqStruct
import Derived.Test.YtdbpdpdpabhfbaaWRepsOne
import Derived.Test.YtdbpdpdpabhfbaaWInv
import Derived.Test.YtdbpdpdpabhfbaaWInvWords
import Derived.Test.YtdbpdpdpabhfbaaWGuard
import Derived.Test.YtdbpdpdpabhfbaaWNEv
import Derived.Test.YtdbpdpdpabhfbaaWMore
namespace Go.Proofs.Ytdbpdpdpabhfbaa.PWordUsable
open Go.RowKit Go.Proofs.YtdbpdpdpabhfbaaW.PrintWords Go.Proofs.YtdbpdpdpabhfbaaW.PrintLast Go.Proofs.YtdbpdpdpabhfbaaW.PrintMore
attribute [local go_sem] max2_int min2_int max_two min_two max_three min_three max_four min_four   -- for this text's walks alone
set_option linter.unusedVariables false
set_option linter.unusedSimpArgs false



def errW : Option Int → Value
  | none => .nilIface
  | some c => .iface 0 (.int .i64 c)
theorem errW_none : errW none = .nilIface := rfl
theorem errW_some (c : Int) : errW (some c) = .iface 0 (.int .i64 c) := rfl

theorem info3 : (Try.prog.info? 3).map (fun i => (i.zero, i.size, i.bytes)) = some (some (.int .i64 0), 1, 8) := by kernel_rfl
theorem info22 : (Try.prog.info? 22).map (fun i => (i.zero, i.size, i.bytes)) = some (some (.int .u64 0), 1, 8) := by kernel_rfl
-- the values' own types

end Go.Proofs.Ytdbpdpdpabhfbaa.PWordUsable
