/- The walk of BlockParts, part of it: what the Go functions answer; no condition. -/
import Derived.Test.YtibfbbeippamaaaProg
import Derived.Below
import Derived.Deep.Draws
import Derived.Deep.AppendLies
import Derived.Maps.AppendAt
import Derived.OwnWalk
import Derived.Laws.BytesArg
import Derived.Laws.MakeOwn
import Derived.Laws.OwnMore
import Derived.Deep.OwnRows
import Derived.Tactics
import Derived.Lib.ConvBytes
import Derived.Laws.Slices
import Derived.WalkKit
import Derived.KernelRfl
import Derived.RowKit3
import Derived.Deep.LoopGhost
import Derived.Deep.QuietTactic
import Derived.BigQuiet
import Derived.WideLaws
import Derived.Deep.DeepCutAuto
import Derived.Deep.CutBlock
import Derived.Deep.RegionHeld3
import Derived.Laws.Rows
import Derived.Lib.AppendStr
import Derived.ArgAppend
import Derived.Laws.IdiomCopy
import Derived.OrdersHeld
import Derived.Laws.BitsLemmas
import Derived.RowKit
import Derived.Test.YtibfbbeippamaaaWWords
import Derived.Test.YtibfbbeippamaaaWLast
import Derived.Test.YtibfbbeippamaaaWTab
import Derived.Test.YtibfbbeippamaaaWFour
import Derived.Test.YtibfbbeippamaaaWQPut
import Derived.Test.YtibfbbeippamaaaWApart
import Derived.Test.YtibfbbeippamaaaWArr
import Derived.Test.YtibfbbeippamaaaWZeros
import Derived.Test.YtibfbbeippamaaaWFoot
import Derived.Test.YtibfbbeippamaaaWKept
import Derived.Test.YtibfbbeippamaaaWShare
import Derived.Test.YtibfbbeippamaaaWN
import Derived.Test.YtibfbbeippamaaaWFootNe
import Derived.Test.YtibfbbeippamaaaWAt
import Derived.Test.YtibfbbeippamaaaWEqStruct
import Derived.Test.YtibfbbeippamaaaWRepsOne
import Derived.Test.YtibfbbeippamaaaWInv
import Derived.Test.YtibfbbeippamaaaWInvWords
import Derived.Test.YtibfbbeippamaaaWGuard
import Derived.Test.YtibfbbeippamaaaWNEv
import Derived.Test.YtibfbbeippamaaaWMore
namespace Go.Proofs.Ytibfbbeippamaaa.PBlockParts
open Go.RowKit Go.Proofs.YtibfbbeippamaaaW.PrintWords Go.Proofs.YtibfbbeippamaaaW.PrintLast Go.Proofs.YtibfbbeippamaaaW.PrintMore
attribute [local go_sem] max2_int min2_int max_two min_two max_three min_three max_four min_four   -- for this text's walks alone
set_option linter.unusedVariables false
set_option linter.unusedSimpArgs false



def errW : Option Int → Value
  | none => .nilIface
  | some c => .iface 0 (.int .i64 c)
theorem errW_none : errW none = .nilIface := rfl
theorem errW_some (c : Int) : errW (some c) = .iface 0 (.int .i64 c) := rfl

theorem info3 : (Try.prog.info? 3).map (fun i => (i.zero, i.size, i.bytes)) = some (some (.int .i64 0), 1, 8) := by kernel_rfl
theorem info4 : (Try.prog.info? 4).map (fun i => (i.zero, i.size, i.bytes)) = some (some (.bool false), 1, 1) := by kernel_rfl
-- the values' own types

end Go.Proofs.Ytibfbbeippamaaa.PBlockParts
