/- The walk of ModelBack, part of it: what the Go functions answer; no condition. -/
import Derived.Test.YthfcgjmffjmplaaProg
import Derived.Below
import Derived.Deep.Draws
import Derived.Deep.AppendLies
import Derived.Maps.AppendAt
import Derived.OwnWalk
import Derived.Laws.BytesArg
import Derived.Laws.MakeOwn
import Derived.Laws.OwnMore
import Derived.Deep.OwnRows
import Derived.Tactics
import Derived.Lib.ConvBytes
import Derived.Laws.Slices
import Derived.WalkKit
import Derived.KernelRfl
import Derived.RowKit3
import Derived.Deep.LoopGhost
import Derived.Deep.QuietTactic
import Derived.BigQuiet
import Derived.WideLaws
import Derived.Deep.DeepCutAuto
import Derived.Deep.CutBlock
import Derived.Deep.RegionHeld3
import Derived.Laws.Rows
import Derived.Lib.AppendStr
import Derived.ArgAppend
import Derived.Laws.IdiomCopy
import Derived.OrdersHeld
import Derived.Laws.BitsLemmas
import Derived.RowKit
import Derived.Laws.CopyOwn
import Derived.Lib.Hide
import Derived.ArgAppend
import Derived.Lib.SliceRun
import Derived.Test.YthfcgjmffjmplaaWWords
import Derived.Test.YthfcgjmffjmplaaWLast
import Derived.Test.YthfcgjmffjmplaaWTab
import Derived.Test.YthfcgjmffjmplaaWFour
import Derived.Test.YthfcgjmffjmplaaWQPut
import Derived.Test.YthfcgjmffjmplaaWApart
import Derived.Test.YthfcgjmffjmplaaWArr
import Derived.Test.YthfcgjmffjmplaaWZeros
import Derived.Test.YthfcgjmffjmplaaWFoot
import Derived.Test.YthfcgjmffjmplaaWKept
import Derived.Test.YthfcgjmffjmplaaWShare
import Derived.Test.YthfcgjmffjmplaaWN
import Derived.Test.YthfcgjmffjmplaaWFootNe
import Derived.Test.YthfcgjmffjmplaaWAt
import Derived.Test.YthfcgjmffjmplaaWEqStruct
import Derived.Test.YthfcgjmffjmplaaWRepsOne
import Derived.Test.YthfcgjmffjmplaaWInv
import Derived.Test.YthfcgjmffjmplaaWInvWords
import Derived.Test.YthfcgjmffjmplaaWGuard
import Derived.Test.YthfcgjmffjmplaaWNEv
import Derived.Test.YthfcgjmffjmplaaWMore
namespace Go.Proofs.Ythfcgjmffjmplaa.PModelBack
open Go.RowKit Go.Proofs.YthfcgjmffjmplaaW.PrintWords Go.Proofs.YthfcgjmffjmplaaW.PrintLast Go.Proofs.YthfcgjmffjmplaaW.PrintMore
attribute [local go_sem] max2_int min2_int max_two min_two max_three min_three max_four min_four   -- for this text's walks alone
set_option linter.unusedVariables false
set_option linter.unusedSimpArgs false



def errW : Option Int → Value
  | none => .nilIface
  | some c => .iface 0 (.int .i64 c)
theorem errW_none : errW none = .nilIface := rfl
theorem errW_some (c : Int) : errW (some c) = .iface 0 (.int .i64 c) := rfl

theorem info3 : (Try.prog.info? 3).map (fun i => (i.zero, i.size, i.bytes)) = some (some (.int .i64 0), 1, 8) := by kernel_rfl
theorem info22 : (Try.prog.info? 22).map (fun i => (i.zero, i.size, i.bytes)) = some (some (.int .u32 0), 1, 4) := by kernel_rfl
theorem info49 : (Try.prog.info? 49).map (fun i => (i.zero, i.size, i.bytes)) = some (some (.int .u64 0), 1, 8) := by kernel_rfl
-- the values' own types

end Go.Proofs.Ythfcgjmffjmplaa.PModelBack
