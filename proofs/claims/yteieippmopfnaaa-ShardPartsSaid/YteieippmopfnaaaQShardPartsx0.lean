/- The walk of ShardParts, part of it: what the Go functions answer; no condition. -/
import Derived.Test.YteieippmopfnaaaProg
import Derived.Below
import Derived.Deep.Draws
import Derived.Deep.AppendLies
import Derived.Maps.AppendAt
import Derived.OwnWalk
import Derived.Laws.BytesArg
import Derived.Laws.MakeOwn
import Derived.Laws.OwnMore
import Derived.Deep.OwnRows
import Derived.Tactics
import Derived.Lib.ConvBytes
import Derived.Laws.Slices
import Derived.WalkKit
import Derived.KernelRfl
import Derived.RowKit3
import Derived.Deep.LoopGhost
import Derived.Deep.QuietTactic
import Derived.BigQuiet
import Derived.WideLaws
import Derived.Deep.DeepCutAuto
import Derived.Deep.CutBlock
import Derived.Deep.RegionHeld3
import Derived.Laws.Rows
import Derived.Lib.AppendStr
import Derived.ArgAppend
import Derived.Laws.IdiomCopy
import Derived.OrdersHeld
import Derived.Laws.BitsLemmas
import Derived.RowKit
import Derived.Laws.CopyOwn
import Derived.Lib.Hide
import Derived.Test.YteieippmopfnaaaWWords
import Derived.Test.YteieippmopfnaaaWLast
import Derived.Test.YteieippmopfnaaaWTab
import Derived.Test.YteieippmopfnaaaWFour
import Derived.Test.YteieippmopfnaaaWQPut
import Derived.Test.YteieippmopfnaaaWApart
import Derived.Test.YteieippmopfnaaaWArr
import Derived.Test.YteieippmopfnaaaWZeros
import Derived.Test.YteieippmopfnaaaWFoot
import Derived.Test.YteieippmopfnaaaWKept
import Derived.Test.YteieippmopfnaaaWShare
import Derived.Test.YteieippmopfnaaaWN
import Derived.Test.YteieippmopfnaaaWFootNe
import Derived.Test.YteieippmopfnaaaWAt
import Derived.Test.YteieippmopfnaaaWEqStruct
import Derived.Test.YteieippmopfnaaaWRepsOne
import Derived.Test.YteieippmopfnaaaWInv
import Derived.Test.YteieippmopfnaaaWInvWords
import Derived.Test.YteieippmopfnaaaWGuard
import Derived.Test.YteieippmopfnaaaWNEv
import Derived.Test.YteieippmopfnaaaWMore
namespace Go.Proofs.Yteieippmopfnaaa.PShardParts
open Go.RowKit Go.Proofs.YteieippmopfnaaaW.PrintWords Go.Proofs.YteieippmopfnaaaW.PrintLast Go.Proofs.YteieippmopfnaaaW.PrintMore
attribute [local go_sem] max2_int min2_int max_two min_two max_three min_three max_four min_four   -- for this text's walks alone
set_option linter.unusedVariables false
set_option linter.unusedSimpArgs false



def errW : Option Int → Value
  | none => .nilIface
  | some c => .iface 0 (.int .i64 c)
theorem errW_none : errW none = .nilIface := rfl
theorem errW_some (c : Int) : errW (some c) = .iface 0 (.int .i64 c) := rfl

-- the values' own types

end Go.Proofs.Yteieippmopfnaaa.PShardParts
