/-
  No cell of these rows narrows 'for every input' (looked for: loops, veiled, ifaces, maps, wideKeys, modest, calm, conditions, laid).
  DERIVED. THE GIVEN ROWS OF THIS SEAT. 9 by the template 'for every input the law returns true; each argument reads behind the call as it read before'; 0 by the template 'total and deterministic' (their statements: YtpkomlobikmkkaaTotals.lean).
  GIVEN WITH THE SEED: the statements are not yours to turn. If you find one false, say at which input.
  Laid BY PROGRAM, IN A SANDBOX (cutbox-rows.mjs): the forced cells as the released guide's own fill.sh prints them over the translation 743bdce045d4822b… (all of the seat's roots in one cut). By AI agents, Wed Nov 11 2026. No macro, syntax, notation, axiom, sorry.
-/
import Derived.Test.YtpkomlobikmkkaaChecked
import GoSem.Claim
import GoSem.ClaimJoined
import GoSem.ClaimMapViews
import Derived.JoinedTies
import Derived.KernelRfl
namespace Go.Proofs.Ytpkomlobikmkkaa
/- THE CELL 'sum', in the pinned program and in every row, IS THE sha256 OF THE DUMP (.gsa) THAT YtpkomlobikmkkaaProg.lean LOADS. Nothing in Lean hashes anything: it is a label: what it is worth is what the hold of that sum in a sandbox is worth. -/
noncomputable def Try.pinned : Pinned := { name := "ytpkomlobikmkkaa", sum := "743bdce045d4822b5cbf8d09076a3c9616e04e30e15d33c5af9864a5d440bdc6", checked := Try.checked }
namespace Rows
def none {H : Type} : Left H := { results := [], args := [] }

/-- 'lodgerlaw02.CellsDo': WHATEVER THE INPUT: true; the input reads as it did. -/
def cellsDoSpec : ChangeSpec := { name := "cellsDo", fn := fun _ => fun
  | [d1, d2, d3, d4] => { results := [.lit (.bool true)], args := [d1, d2, d3, d4] }
  | _ => none }
def cellsDoRow : OpenClaim := { program := "ytpkomlobikmkkaa", sum := "743bdce045d4822b5cbf8d09076a3c9616e04e30e15d33c5af9864a5d440bdc6", func := "lodger/lodgerlaw02.CellsDo", spec := "cellsDo", unfollowed := true, recurses := true, apart := false }
def CellsDoSaid : Prop := cellsDoRow.holds Try.pinned (OpenSpec.ofChange cellsDoSpec)

/-- ITS FALSE NEIGHBOUR: 'it returns false'. Refute it at one input. -/
def cellsDoWrong : ChangeSpec := { name := "cellsDo", fn := fun _ => fun
  | [d1, d2, d3, d4] => { results := [.lit (.bool false)], args := [d1, d2, d3, d4] }
  | _ => none }
def CellsDoWrongFalsely : Prop := cellsDoRow.holds Try.pinned (OpenSpec.ofChange cellsDoWrong)

/-- 'lodgerlaw02.CellsNew': WHATEVER THE INPUT: true; the input reads as it did. -/
def cellsNewSpec : ChangeSpec := { name := "cellsNew", fn := fun _ => fun
  | [d1, d2] => { results := [.lit (.bool true)], args := [d1, d2] }
  | _ => none }
def cellsNewRow : OpenClaim := { program := "ytpkomlobikmkkaa", sum := "743bdce045d4822b5cbf8d09076a3c9616e04e30e15d33c5af9864a5d440bdc6", func := "lodger/lodgerlaw02.CellsNew", spec := "cellsNew", unfollowed := true, recurses := true, apart := false }
def CellsNewSaid : Prop := cellsNewRow.holds Try.pinned (OpenSpec.ofChange cellsNewSpec)

/-- ITS FALSE NEIGHBOUR: 'it returns false'. Refute it at one input. -/
def cellsNewWrong : ChangeSpec := { name := "cellsNew", fn := fun _ => fun
  | [d1, d2] => { results := [.lit (.bool false)], args := [d1, d2] }
  | _ => none }
def CellsNewWrongFalsely : Prop := cellsNewRow.holds Try.pinned (OpenSpec.ofChange cellsNewWrong)

/-- 'lodgerlaw02.CellsOne': WHATEVER THE INPUT: true; the input reads as it did. -/
def cellsOneSpec : ChangeSpec := { name := "cellsOne", fn := fun _ => fun
  | [d1, d2, d3, d4, d5] => { results := [.lit (.bool true)], args := [d1, d2, d3, d4, d5] }
  | _ => none }
def cellsOneRow : OpenClaim := { program := "ytpkomlobikmkkaa", sum := "743bdce045d4822b5cbf8d09076a3c9616e04e30e15d33c5af9864a5d440bdc6", func := "lodger/lodgerlaw02.CellsOne", spec := "cellsOne", unfollowed := true, recurses := true, apart := false }
def CellsOneSaid : Prop := cellsOneRow.holds Try.pinned (OpenSpec.ofChange cellsOneSpec)

/-- ITS FALSE NEIGHBOUR: 'it returns false'. Refute it at one input. -/
def cellsOneWrong : ChangeSpec := { name := "cellsOne", fn := fun _ => fun
  | [d1, d2, d3, d4, d5] => { results := [.lit (.bool false)], args := [d1, d2, d3, d4, d5] }
  | _ => none }
def CellsOneWrongFalsely : Prop := cellsOneRow.holds Try.pinned (OpenSpec.ofChange cellsOneWrong)

/-- 'lodgerlaw02.CellsSum': WHATEVER THE INPUT: true; the input reads as it did. -/
def cellsSumSpec : ChangeSpec := { name := "cellsSum", fn := fun _ => fun
  | [d1, d2, d3, d4] => { results := [.lit (.bool true)], args := [d1, d2, d3, d4] }
  | _ => none }
def cellsSumRow : OpenClaim := { program := "ytpkomlobikmkkaa", sum := "743bdce045d4822b5cbf8d09076a3c9616e04e30e15d33c5af9864a5d440bdc6", func := "lodger/lodgerlaw02.CellsSum", spec := "cellsSum", unfollowed := true, recurses := true, apart := false }
def CellsSumSaid : Prop := cellsSumRow.holds Try.pinned (OpenSpec.ofChange cellsSumSpec)

/-- ITS FALSE NEIGHBOUR: 'it returns false'. Refute it at one input. -/
def cellsSumWrong : ChangeSpec := { name := "cellsSum", fn := fun _ => fun
  | [d1, d2, d3, d4] => { results := [.lit (.bool false)], args := [d1, d2, d3, d4] }
  | _ => none }
def CellsSumWrongFalsely : Prop := cellsSumRow.holds Try.pinned (OpenSpec.ofChange cellsSumWrong)

/-- 'lodgerlaw02.CellsKeep': WHATEVER THE INPUT: true; the input reads as it did. -/
def cellsKeepSpec : ChangeSpec := { name := "cellsKeep", fn := fun _ => fun
  | [d1, d2, d3] => { results := [.lit (.bool true)], args := [d1, d2, d3] }
  | _ => none }
def cellsKeepRow : OpenClaim := { program := "ytpkomlobikmkkaa", sum := "743bdce045d4822b5cbf8d09076a3c9616e04e30e15d33c5af9864a5d440bdc6", func := "lodger/lodgerlaw02.CellsKeep", spec := "cellsKeep", unfollowed := true, recurses := true, apart := false }
def CellsKeepSaid : Prop := cellsKeepRow.holds Try.pinned (OpenSpec.ofChange cellsKeepSpec)

/-- ITS FALSE NEIGHBOUR: 'it returns false'. Refute it at one input. -/
def cellsKeepWrong : ChangeSpec := { name := "cellsKeep", fn := fun _ => fun
  | [d1, d2, d3] => { results := [.lit (.bool false)], args := [d1, d2, d3] }
  | _ => none }
def CellsKeepWrongFalsely : Prop := cellsKeepRow.holds Try.pinned (OpenSpec.ofChange cellsKeepWrong)

/-- 'lodgerlaw02.CellsApart': WHATEVER THE INPUT: true; the input reads as it did. -/
def cellsApartSpec : ChangeSpec := { name := "cellsApart", fn := fun _ => fun
  | [d1, d2, d3, d4, d5] => { results := [.lit (.bool true)], args := [d1, d2, d3, d4, d5] }
  | _ => none }
def cellsApartRow : OpenClaim := { program := "ytpkomlobikmkkaa", sum := "743bdce045d4822b5cbf8d09076a3c9616e04e30e15d33c5af9864a5d440bdc6", func := "lodger/lodgerlaw02.CellsApart", spec := "cellsApart", unfollowed := true, recurses := true, apart := false }
def CellsApartSaid : Prop := cellsApartRow.holds Try.pinned (OpenSpec.ofChange cellsApartSpec)

/-- ITS FALSE NEIGHBOUR: 'it returns false'. Refute it at one input. -/
def cellsApartWrong : ChangeSpec := { name := "cellsApart", fn := fun _ => fun
  | [d1, d2, d3, d4, d5] => { results := [.lit (.bool false)], args := [d1, d2, d3, d4, d5] }
  | _ => none }
def CellsApartWrongFalsely : Prop := cellsApartRow.holds Try.pinned (OpenSpec.ofChange cellsApartWrong)

/-- 'lodgerlaw03.QueueDoes': WHATEVER THE INPUT: true; the input reads as it did. -/
def queueDoesSpec : ChangeSpec := { name := "queueDoes", fn := fun _ => fun
  | [d1, d2, d3] => { results := [.lit (.bool true)], args := [d1, d2, d3] }
  | _ => none }
def queueDoesRow : OpenClaim := { program := "ytpkomlobikmkkaa", sum := "743bdce045d4822b5cbf8d09076a3c9616e04e30e15d33c5af9864a5d440bdc6", func := "lodger/lodgerlaw03.QueueDoes", spec := "queueDoes", apart := false }
def QueueDoesSaid : Prop := queueDoesRow.holds Try.pinned (OpenSpec.ofChange queueDoesSpec)

/-- ITS FALSE NEIGHBOUR: 'it returns false'. Refute it at one input. -/
def queueDoesWrong : ChangeSpec := { name := "queueDoes", fn := fun _ => fun
  | [d1, d2, d3] => { results := [.lit (.bool false)], args := [d1, d2, d3] }
  | _ => none }
def QueueDoesWrongFalsely : Prop := queueDoesRow.holds Try.pinned (OpenSpec.ofChange queueDoesWrong)

/-- 'lodgerlaw03.QueueOrder': WHATEVER THE INPUT: true; the input reads as it did. -/
def queueOrderSpec : ChangeSpec := { name := "queueOrder", fn := fun _ => fun
  | [d1, d2] => { results := [.lit (.bool true)], args := [d1, d2] }
  | _ => none }
def queueOrderRow : OpenClaim := { program := "ytpkomlobikmkkaa", sum := "743bdce045d4822b5cbf8d09076a3c9616e04e30e15d33c5af9864a5d440bdc6", func := "lodger/lodgerlaw03.QueueOrder", spec := "queueOrder", apart := false }
def QueueOrderSaid : Prop := queueOrderRow.holds Try.pinned (OpenSpec.ofChange queueOrderSpec)

/-- ITS FALSE NEIGHBOUR: 'it returns false'. Refute it at one input. -/
def queueOrderWrong : ChangeSpec := { name := "queueOrder", fn := fun _ => fun
  | [d1, d2] => { results := [.lit (.bool false)], args := [d1, d2] }
  | _ => none }
def QueueOrderWrongFalsely : Prop := queueOrderRow.holds Try.pinned (OpenSpec.ofChange queueOrderWrong)

/-- 'lodgerlaw03.QueueRoom': WHATEVER THE INPUT: true; the input reads as it did. -/
def queueRoomSpec : ChangeSpec := { name := "queueRoom", fn := fun _ => fun
  | [d1, d2] => { results := [.lit (.bool true)], args := [d1, d2] }
  | _ => none }
def queueRoomRow : OpenClaim := { program := "ytpkomlobikmkkaa", sum := "743bdce045d4822b5cbf8d09076a3c9616e04e30e15d33c5af9864a5d440bdc6", func := "lodger/lodgerlaw03.QueueRoom", spec := "queueRoom", apart := false }
def QueueRoomSaid : Prop := queueRoomRow.holds Try.pinned (OpenSpec.ofChange queueRoomSpec)

/-- ITS FALSE NEIGHBOUR: 'it returns false'. Refute it at one input. -/
def queueRoomWrong : ChangeSpec := { name := "queueRoom", fn := fun _ => fun
  | [d1, d2] => { results := [.lit (.bool false)], args := [d1, d2] }
  | _ => none }
def QueueRoomWrongFalsely : Prop := queueRoomRow.holds Try.pinned (OpenSpec.ofChange queueRoomWrong)

/- THE SECOND FORM. 'bulk': how many values and letters a reading holds, each counted each time it is reached (what is shared counts as often as it is met; a slice's spare places count too). A statement '..UptoSaid' is the law's where the arguments, and the package variables that the reading takes, are together of bulk at most 1048576: NARROWER than '..Said'. Prove '..Said' where nothing that the law and all that it calls make is longer than what came in: it says more and counts as full. Else prove '..UptoSaid'. A law counts once. -/
mutual
def uptoBulk {H : Type} : DataW H → Nat
  | .lit (.string bytes) => bytes.length + 1
  | .lit _ => 1
  | .nil => 1
  | .ptr d => uptoBulk d + 1
  | .slice elems spare => uptoBulkAll elems + uptoBulkAll spare + 1
  | .agg parts => uptoBulkAll parts + 1
  | .iface _ d => uptoBulk d + 1
  | .map entries => uptoBulkEntries entries + 1
  | .held _ => 1
def uptoBulkAll {H : Type} : List (DataW H) → Nat
  | [] => 0
  | d :: r => uptoBulk d + uptoBulkAll r
def uptoBulkEntries {H : Type} : List (Lit × DataW H) → Nat
  | [] => 0
  | x :: r => uptoBulkEntry x + uptoBulkEntries r
def uptoBulkEntry {H : Type} : Lit × DataW H → Nat
  | (.string bytes, d) => bytes.length + uptoBulk d + 1
  | (_, d) => uptoBulk d + 1
 end
def uptoSmall : (H : Type) → List (DataW H) → Bool := fun _ ds => decide (uptoBulkAll ds ≤ 1048576)
def OpenSpec.upto (s : _root_.Go.ChangeSpec) : _root_.Go.OpenSpec := { _root_.Go.OpenSpec.ofChange s with cond := some uptoSmall }

/-- 'lodgerlaw02.CellsDo', WHERE WHAT IT READS IS OF BULK AT MOST 1048576: true; the input reads as it did. -/
def cellsDoUptoRow : OpenClaim := { program := "ytpkomlobikmkkaa", sum := "743bdce045d4822b5cbf8d09076a3c9616e04e30e15d33c5af9864a5d440bdc6", func := "lodger/lodgerlaw02.CellsDo", spec := "cellsDo", unfollowed := true, recurses := true, apart := false, narrowed := true }
def CellsDoUptoSaid : Prop := cellsDoUptoRow.holds Try.pinned (OpenSpec.upto cellsDoSpec)

/-- 'lodgerlaw02.CellsNew', WHERE WHAT IT READS IS OF BULK AT MOST 1048576: true; the input reads as it did. -/
def cellsNewUptoRow : OpenClaim := { program := "ytpkomlobikmkkaa", sum := "743bdce045d4822b5cbf8d09076a3c9616e04e30e15d33c5af9864a5d440bdc6", func := "lodger/lodgerlaw02.CellsNew", spec := "cellsNew", unfollowed := true, recurses := true, apart := false, narrowed := true }
def CellsNewUptoSaid : Prop := cellsNewUptoRow.holds Try.pinned (OpenSpec.upto cellsNewSpec)

/-- 'lodgerlaw02.CellsOne', WHERE WHAT IT READS IS OF BULK AT MOST 1048576: true; the input reads as it did. -/
def cellsOneUptoRow : OpenClaim := { program := "ytpkomlobikmkkaa", sum := "743bdce045d4822b5cbf8d09076a3c9616e04e30e15d33c5af9864a5d440bdc6", func := "lodger/lodgerlaw02.CellsOne", spec := "cellsOne", unfollowed := true, recurses := true, apart := false, narrowed := true }
def CellsOneUptoSaid : Prop := cellsOneUptoRow.holds Try.pinned (OpenSpec.upto cellsOneSpec)

/-- 'lodgerlaw02.CellsSum', WHERE WHAT IT READS IS OF BULK AT MOST 1048576: true; the input reads as it did. -/
def cellsSumUptoRow : OpenClaim := { program := "ytpkomlobikmkkaa", sum := "743bdce045d4822b5cbf8d09076a3c9616e04e30e15d33c5af9864a5d440bdc6", func := "lodger/lodgerlaw02.CellsSum", spec := "cellsSum", unfollowed := true, recurses := true, apart := false, narrowed := true }
def CellsSumUptoSaid : Prop := cellsSumUptoRow.holds Try.pinned (OpenSpec.upto cellsSumSpec)

/-- 'lodgerlaw02.CellsKeep', WHERE WHAT IT READS IS OF BULK AT MOST 1048576: true; the input reads as it did. -/
def cellsKeepUptoRow : OpenClaim := { program := "ytpkomlobikmkkaa", sum := "743bdce045d4822b5cbf8d09076a3c9616e04e30e15d33c5af9864a5d440bdc6", func := "lodger/lodgerlaw02.CellsKeep", spec := "cellsKeep", unfollowed := true, recurses := true, apart := false, narrowed := true }
def CellsKeepUptoSaid : Prop := cellsKeepUptoRow.holds Try.pinned (OpenSpec.upto cellsKeepSpec)

/-- 'lodgerlaw02.CellsApart', WHERE WHAT IT READS IS OF BULK AT MOST 1048576: true; the input reads as it did. -/
def cellsApartUptoRow : OpenClaim := { program := "ytpkomlobikmkkaa", sum := "743bdce045d4822b5cbf8d09076a3c9616e04e30e15d33c5af9864a5d440bdc6", func := "lodger/lodgerlaw02.CellsApart", spec := "cellsApart", unfollowed := true, recurses := true, apart := false, narrowed := true }
def CellsApartUptoSaid : Prop := cellsApartUptoRow.holds Try.pinned (OpenSpec.upto cellsApartSpec)

/-- 'lodgerlaw03.QueueDoes', WHERE WHAT IT READS IS OF BULK AT MOST 1048576: true; the input reads as it did. -/
def queueDoesUptoRow : OpenClaim := { program := "ytpkomlobikmkkaa", sum := "743bdce045d4822b5cbf8d09076a3c9616e04e30e15d33c5af9864a5d440bdc6", func := "lodger/lodgerlaw03.QueueDoes", spec := "queueDoes", apart := false, narrowed := true }
def QueueDoesUptoSaid : Prop := queueDoesUptoRow.holds Try.pinned (OpenSpec.upto queueDoesSpec)

/-- 'lodgerlaw03.QueueOrder', WHERE WHAT IT READS IS OF BULK AT MOST 1048576: true; the input reads as it did. -/
def queueOrderUptoRow : OpenClaim := { program := "ytpkomlobikmkkaa", sum := "743bdce045d4822b5cbf8d09076a3c9616e04e30e15d33c5af9864a5d440bdc6", func := "lodger/lodgerlaw03.QueueOrder", spec := "queueOrder", apart := false, narrowed := true }
def QueueOrderUptoSaid : Prop := queueOrderUptoRow.holds Try.pinned (OpenSpec.upto queueOrderSpec)

/-- 'lodgerlaw03.QueueRoom', WHERE WHAT IT READS IS OF BULK AT MOST 1048576: true; the input reads as it did. -/
def queueRoomUptoRow : OpenClaim := { program := "ytpkomlobikmkkaa", sum := "743bdce045d4822b5cbf8d09076a3c9616e04e30e15d33c5af9864a5d440bdc6", func := "lodger/lodgerlaw03.QueueRoom", spec := "queueRoom", apart := false, narrowed := true }
def QueueRoomUptoSaid : Prop := queueRoomUptoRow.holds Try.pinned (OpenSpec.upto queueRoomSpec)

end Rows
end Go.Proofs.Ytpkomlobikmkkaa
