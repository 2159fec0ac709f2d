/-
  No cell of these rows narrows 'for every input' (looked for: loops, veiled, ifaces, maps, wideKeys, modest, calm, conditions, laid).
  DERIVED. THE GIVEN ROWS OF THIS SEAT. 11 by the template 'for every input the law returns true; each argument reads behind the call as it read before'; 0 by the template 'total and deterministic' (their statements: YteieippmopfnaaaTotals.lean).
  GIVEN WITH THE SEED: the statements are not yours to turn. If you find one false, say at which input.
  Laid BY PROGRAM, IN A SANDBOX (cutbox-rows.mjs): the forced cells as the released guide's own fill.sh prints them over the translation 22fcbf896577abc9… (all of the seat's roots in one cut). By AI agents, Wed Nov 11 2026. No macro, syntax, notation, axiom, sorry.
-/
import Derived.Test.YteieippmopfnaaaChecked
import GoSem.Claim
import GoSem.ClaimJoined
import GoSem.ClaimMapViews
import Derived.JoinedTies
import Derived.KernelRfl
namespace Go.Proofs.Yteieippmopfnaaa
/- THE CELL 'sum', in the pinned program and in every row, IS THE sha256 OF THE DUMP (.gsa) THAT YteieippmopfnaaaProg.lean LOADS. Nothing in Lean hashes anything: it is a label: what it is worth is what the hold of that sum in a sandbox is worth. -/
noncomputable def Try.pinned : Pinned := { name := "yteieippmopfnaaa", sum := "22fcbf896577abc98d2a63c4f66b354fac458fd5838e28d6020a7f18b3d66d45", checked := Try.checked }
namespace Rows
def none {H : Type} : Left H := { results := [], args := [] }

/-- 'lodgerlaw06.PlaceTells': WHATEVER THE INPUT: true; the input reads as it did. -/
def placeTellsSpec : ChangeSpec := { name := "placeTells", fn := fun _ => fun
  | [d1, d2] => { results := [.lit (.bool true)], args := [d1, d2] }
  | _ => none }
def placeTellsRow : OpenClaim := { program := "yteieippmopfnaaa", sum := "22fcbf896577abc98d2a63c4f66b354fac458fd5838e28d6020a7f18b3d66d45", func := "lodger/lodgerlaw06.PlaceTells", spec := "placeTells", apart := false }
def PlaceTellsSaid : Prop := placeTellsRow.holds Try.pinned (OpenSpec.ofChange placeTellsSpec)

/-- ITS FALSE NEIGHBOUR: 'it returns false'. Refute it at one input. -/
def placeTellsWrong : ChangeSpec := { name := "placeTells", fn := fun _ => fun
  | [d1, d2] => { results := [.lit (.bool false)], args := [d1, d2] }
  | _ => none }
def PlaceTellsWrongFalsely : Prop := placeTellsRow.holds Try.pinned (OpenSpec.ofChange placeTellsWrong)

/-- 'lodgerlaw06.PlaceEach': WHATEVER THE INPUT: true; the input reads as it did. -/
def placeEachSpec : ChangeSpec := { name := "placeEach", fn := fun _ => fun
  | [d1, d2, d3] => { results := [.lit (.bool true)], args := [d1, d2, d3] }
  | _ => none }
def placeEachRow : OpenClaim := { program := "yteieippmopfnaaa", sum := "22fcbf896577abc98d2a63c4f66b354fac458fd5838e28d6020a7f18b3d66d45", func := "lodger/lodgerlaw06.PlaceEach", spec := "placeEach", apart := false }
def PlaceEachSaid : Prop := placeEachRow.holds Try.pinned (OpenSpec.ofChange placeEachSpec)

/-- ITS FALSE NEIGHBOUR: 'it returns false'. Refute it at one input. -/
def placeEachWrong : ChangeSpec := { name := "placeEach", fn := fun _ => fun
  | [d1, d2, d3] => { results := [.lit (.bool false)], args := [d1, d2, d3] }
  | _ => none }
def PlaceEachWrongFalsely : Prop := placeEachRow.holds Try.pinned (OpenSpec.ofChange placeEachWrong)

/-- 'lodgerlaw06.PlaceSums': WHATEVER THE INPUT: true; the input reads as it did. -/
def placeSumsSpec : ChangeSpec := { name := "placeSums", fn := fun _ => fun
  | [d1, d2, d3] => { results := [.lit (.bool true)], args := [d1, d2, d3] }
  | _ => none }
def placeSumsRow : OpenClaim := { program := "yteieippmopfnaaa", sum := "22fcbf896577abc98d2a63c4f66b354fac458fd5838e28d6020a7f18b3d66d45", func := "lodger/lodgerlaw06.PlaceSums", spec := "placeSums", apart := false }
def PlaceSumsSaid : Prop := placeSumsRow.holds Try.pinned (OpenSpec.ofChange placeSumsSpec)

/-- ITS FALSE NEIGHBOUR: 'it returns false'. Refute it at one input. -/
def placeSumsWrong : ChangeSpec := { name := "placeSums", fn := fun _ => fun
  | [d1, d2, d3] => { results := [.lit (.bool false)], args := [d1, d2, d3] }
  | _ => none }
def PlaceSumsWrongFalsely : Prop := placeSumsRow.holds Try.pinned (OpenSpec.ofChange placeSumsWrong)

/-- 'lodgerlaw06.PlaceGrows': WHATEVER THE INPUT: true; the input reads as it did. -/
def placeGrowsSpec : ChangeSpec := { name := "placeGrows", fn := fun _ => fun
  | [d] => { results := [.lit (.bool true)], args := [d] }
  | _ => none }
def placeGrowsRow : OpenClaim := { program := "yteieippmopfnaaa", sum := "22fcbf896577abc98d2a63c4f66b354fac458fd5838e28d6020a7f18b3d66d45", func := "lodger/lodgerlaw06.PlaceGrows", spec := "placeGrows", apart := false }
def PlaceGrowsSaid : Prop := placeGrowsRow.holds Try.pinned (OpenSpec.ofChange placeGrowsSpec)

/-- ITS FALSE NEIGHBOUR: 'it returns false'. Refute it at one input. -/
def placeGrowsWrong : ChangeSpec := { name := "placeGrows", fn := fun _ => fun
  | [d] => { results := [.lit (.bool false)], args := [d] }
  | _ => none }
def PlaceGrowsWrongFalsely : Prop := placeGrowsRow.holds Try.pinned (OpenSpec.ofChange placeGrowsWrong)

/-- 'lodgerlaw01.BitsDo': WHATEVER THE INPUT: true; the input reads as it did. -/
def bitsDoSpec : ChangeSpec := { name := "bitsDo", fn := fun _ => fun
  | [d1, d2, d3] => { results := [.lit (.bool true)], args := [d1, d2, d3] }
  | _ => none }
def bitsDoRow : OpenClaim := { program := "yteieippmopfnaaa", sum := "22fcbf896577abc98d2a63c4f66b354fac458fd5838e28d6020a7f18b3d66d45", func := "lodger/lodgerlaw01.BitsDo", spec := "bitsDo", apart := false }
def BitsDoSaid : Prop := bitsDoRow.holds Try.pinned (OpenSpec.ofChange bitsDoSpec)

/-- ITS FALSE NEIGHBOUR: 'it returns false'. Refute it at one input. -/
def bitsDoWrong : ChangeSpec := { name := "bitsDo", fn := fun _ => fun
  | [d1, d2, d3] => { results := [.lit (.bool false)], args := [d1, d2, d3] }
  | _ => none }
def BitsDoWrongFalsely : Prop := bitsDoRow.holds Try.pinned (OpenSpec.ofChange bitsDoWrong)

/-- 'lodgerlaw01.BitsFirst': WHATEVER THE INPUT: true; the input reads as it did. -/
def bitsFirstSpec : ChangeSpec := { name := "bitsFirst", fn := fun _ => fun
  | [d1, d2] => { results := [.lit (.bool true)], args := [d1, d2] }
  | _ => none }
def bitsFirstRow : OpenClaim := { program := "yteieippmopfnaaa", sum := "22fcbf896577abc98d2a63c4f66b354fac458fd5838e28d6020a7f18b3d66d45", func := "lodger/lodgerlaw01.BitsFirst", spec := "bitsFirst", apart := false }
def BitsFirstSaid : Prop := bitsFirstRow.holds Try.pinned (OpenSpec.ofChange bitsFirstSpec)

/-- ITS FALSE NEIGHBOUR: 'it returns false'. Refute it at one input. -/
def bitsFirstWrong : ChangeSpec := { name := "bitsFirst", fn := fun _ => fun
  | [d1, d2] => { results := [.lit (.bool false)], args := [d1, d2] }
  | _ => none }
def BitsFirstWrongFalsely : Prop := bitsFirstRow.holds Try.pinned (OpenSpec.ofChange bitsFirstWrong)

/-- 'lodgerlaw01.BitsFill': WHATEVER THE INPUT: true; the input reads as it did. -/
def bitsFillSpec : ChangeSpec := { name := "bitsFill", fn := fun _ => fun
  | [d1, d2] => { results := [.lit (.bool true)], args := [d1, d2] }
  | _ => none }
def bitsFillRow : OpenClaim := { program := "yteieippmopfnaaa", sum := "22fcbf896577abc98d2a63c4f66b354fac458fd5838e28d6020a7f18b3d66d45", func := "lodger/lodgerlaw01.BitsFill", spec := "bitsFill", apart := false }
def BitsFillSaid : Prop := bitsFillRow.holds Try.pinned (OpenSpec.ofChange bitsFillSpec)

/-- ITS FALSE NEIGHBOUR: 'it returns false'. Refute it at one input. -/
def bitsFillWrong : ChangeSpec := { name := "bitsFill", fn := fun _ => fun
  | [d1, d2] => { results := [.lit (.bool false)], args := [d1, d2] }
  | _ => none }
def BitsFillWrongFalsely : Prop := bitsFillRow.holds Try.pinned (OpenSpec.ofChange bitsFillWrong)

/-- 'lodgerlaw01.BitsApart': WHATEVER THE INPUT: true; the input reads as it did. -/
def bitsApartSpec : ChangeSpec := { name := "bitsApart", fn := fun _ => fun
  | [d1, d2, d3] => { results := [.lit (.bool true)], args := [d1, d2, d3] }
  | _ => none }
def bitsApartRow : OpenClaim := { program := "yteieippmopfnaaa", sum := "22fcbf896577abc98d2a63c4f66b354fac458fd5838e28d6020a7f18b3d66d45", func := "lodger/lodgerlaw01.BitsApart", spec := "bitsApart", apart := false }
def BitsApartSaid : Prop := bitsApartRow.holds Try.pinned (OpenSpec.ofChange bitsApartSpec)

/-- ITS FALSE NEIGHBOUR: 'it returns false'. Refute it at one input. -/
def bitsApartWrong : ChangeSpec := { name := "bitsApart", fn := fun _ => fun
  | [d1, d2, d3] => { results := [.lit (.bool false)], args := [d1, d2, d3] }
  | _ => none }
def BitsApartWrongFalsely : Prop := bitsApartRow.holds Try.pinned (OpenSpec.ofChange bitsApartWrong)

/-- 'lodgerlaw01.BitsCount': WHATEVER THE INPUT: true; the input reads as it did. -/
def bitsCountSpec : ChangeSpec := { name := "bitsCount", fn := fun _ => fun
  | [d1, d2] => { results := [.lit (.bool true)], args := [d1, d2] }
  | _ => none }
def bitsCountRow : OpenClaim := { program := "yteieippmopfnaaa", sum := "22fcbf896577abc98d2a63c4f66b354fac458fd5838e28d6020a7f18b3d66d45", func := "lodger/lodgerlaw01.BitsCount", spec := "bitsCount", apart := false }
def BitsCountSaid : Prop := bitsCountRow.holds Try.pinned (OpenSpec.ofChange bitsCountSpec)

/-- ITS FALSE NEIGHBOUR: 'it returns false'. Refute it at one input. -/
def bitsCountWrong : ChangeSpec := { name := "bitsCount", fn := fun _ => fun
  | [d1, d2] => { results := [.lit (.bool false)], args := [d1, d2] }
  | _ => none }
def BitsCountWrongFalsely : Prop := bitsCountRow.holds Try.pinned (OpenSpec.ofChange bitsCountWrong)

/-- 'lodgerlaw12.ShardTurns': WHATEVER THE INPUT: true; the input reads as it did. -/
def shardTurnsSpec : ChangeSpec := { name := "shardTurns", fn := fun _ => fun
  | [d1, d2, d3, d4] => { results := [.lit (.bool true)], args := [d1, d2, d3, d4] }
  | _ => none }
def shardTurnsRow : OpenClaim := { program := "yteieippmopfnaaa", sum := "22fcbf896577abc98d2a63c4f66b354fac458fd5838e28d6020a7f18b3d66d45", func := "lodger/lodgerlaw12.ShardTurns", spec := "shardTurns", apart := false }
def ShardTurnsSaid : Prop := shardTurnsRow.holds Try.pinned (OpenSpec.ofChange shardTurnsSpec)

/-- ITS FALSE NEIGHBOUR: 'it returns false'. Refute it at one input. -/
def shardTurnsWrong : ChangeSpec := { name := "shardTurns", fn := fun _ => fun
  | [d1, d2, d3, d4] => { results := [.lit (.bool false)], args := [d1, d2, d3, d4] }
  | _ => none }
def ShardTurnsWrongFalsely : Prop := shardTurnsRow.holds Try.pinned (OpenSpec.ofChange shardTurnsWrong)

/-- 'lodgerlaw12.ShardParts': WHATEVER THE INPUT: true; the input reads as it did. -/
def shardPartsSpec : ChangeSpec := { name := "shardParts", fn := fun _ => fun
  | [d1, d2] => { results := [.lit (.bool true)], args := [d1, d2] }
  | _ => none }
def shardPartsRow : OpenClaim := { program := "yteieippmopfnaaa", sum := "22fcbf896577abc98d2a63c4f66b354fac458fd5838e28d6020a7f18b3d66d45", func := "lodger/lodgerlaw12.ShardParts", spec := "shardParts", apart := false }
def ShardPartsSaid : Prop := shardPartsRow.holds Try.pinned (OpenSpec.ofChange shardPartsSpec)

/-- ITS FALSE NEIGHBOUR: 'it returns false'. Refute it at one input. -/
def shardPartsWrong : ChangeSpec := { name := "shardParts", fn := fun _ => fun
  | [d1, d2] => { results := [.lit (.bool false)], args := [d1, d2] }
  | _ => none }
def ShardPartsWrongFalsely : Prop := shardPartsRow.holds Try.pinned (OpenSpec.ofChange shardPartsWrong)

/- THE SECOND FORM. 'bulk': how many values and letters a reading holds, each counted each time it is reached (what is shared counts as often as it is met; a slice's spare places count too). A statement '..UptoSaid' is the law's where the arguments, and the package variables that the reading takes, are together of bulk at most 1048576: NARROWER than '..Said'. Prove '..Said' where nothing that the law and all that it calls make is longer than what came in: it says more and counts as full. Else prove '..UptoSaid'. A law counts once. -/
mutual
def uptoBulk {H : Type} : DataW H → Nat
  | .lit (.string bytes) => bytes.length + 1
  | .lit _ => 1
  | .nil => 1
  | .ptr d => uptoBulk d + 1
  | .slice elems spare => uptoBulkAll elems + uptoBulkAll spare + 1
  | .agg parts => uptoBulkAll parts + 1
  | .iface _ d => uptoBulk d + 1
  | .map entries => uptoBulkEntries entries + 1
  | .held _ => 1
def uptoBulkAll {H : Type} : List (DataW H) → Nat
  | [] => 0
  | d :: r => uptoBulk d + uptoBulkAll r
def uptoBulkEntries {H : Type} : List (Lit × DataW H) → Nat
  | [] => 0
  | x :: r => uptoBulkEntry x + uptoBulkEntries r
def uptoBulkEntry {H : Type} : Lit × DataW H → Nat
  | (.string bytes, d) => bytes.length + uptoBulk d + 1
  | (_, d) => uptoBulk d + 1
 end
def uptoSmall : (H : Type) → List (DataW H) → Bool := fun _ ds => decide (uptoBulkAll ds ≤ 1048576)
def OpenSpec.upto (s : _root_.Go.ChangeSpec) : _root_.Go.OpenSpec := { _root_.Go.OpenSpec.ofChange s with cond := some uptoSmall }

/-- 'lodgerlaw06.PlaceTells', WHERE WHAT IT READS IS OF BULK AT MOST 1048576: true; the input reads as it did. -/
def placeTellsUptoRow : OpenClaim := { program := "yteieippmopfnaaa", sum := "22fcbf896577abc98d2a63c4f66b354fac458fd5838e28d6020a7f18b3d66d45", func := "lodger/lodgerlaw06.PlaceTells", spec := "placeTells", apart := false, narrowed := true }
def PlaceTellsUptoSaid : Prop := placeTellsUptoRow.holds Try.pinned (OpenSpec.upto placeTellsSpec)

/-- 'lodgerlaw06.PlaceEach', WHERE WHAT IT READS IS OF BULK AT MOST 1048576: true; the input reads as it did. -/
def placeEachUptoRow : OpenClaim := { program := "yteieippmopfnaaa", sum := "22fcbf896577abc98d2a63c4f66b354fac458fd5838e28d6020a7f18b3d66d45", func := "lodger/lodgerlaw06.PlaceEach", spec := "placeEach", apart := false, narrowed := true }
def PlaceEachUptoSaid : Prop := placeEachUptoRow.holds Try.pinned (OpenSpec.upto placeEachSpec)

/-- 'lodgerlaw06.PlaceSums', WHERE WHAT IT READS IS OF BULK AT MOST 1048576: true; the input reads as it did. -/
def placeSumsUptoRow : OpenClaim := { program := "yteieippmopfnaaa", sum := "22fcbf896577abc98d2a63c4f66b354fac458fd5838e28d6020a7f18b3d66d45", func := "lodger/lodgerlaw06.PlaceSums", spec := "placeSums", apart := false, narrowed := true }
def PlaceSumsUptoSaid : Prop := placeSumsUptoRow.holds Try.pinned (OpenSpec.upto placeSumsSpec)

/-- 'lodgerlaw06.PlaceGrows', WHERE WHAT IT READS IS OF BULK AT MOST 1048576: true; the input reads as it did. -/
def placeGrowsUptoRow : OpenClaim := { program := "yteieippmopfnaaa", sum := "22fcbf896577abc98d2a63c4f66b354fac458fd5838e28d6020a7f18b3d66d45", func := "lodger/lodgerlaw06.PlaceGrows", spec := "placeGrows", apart := false, narrowed := true }
def PlaceGrowsUptoSaid : Prop := placeGrowsUptoRow.holds Try.pinned (OpenSpec.upto placeGrowsSpec)

/-- 'lodgerlaw01.BitsDo', WHERE WHAT IT READS IS OF BULK AT MOST 1048576: true; the input reads as it did. -/
def bitsDoUptoRow : OpenClaim := { program := "yteieippmopfnaaa", sum := "22fcbf896577abc98d2a63c4f66b354fac458fd5838e28d6020a7f18b3d66d45", func := "lodger/lodgerlaw01.BitsDo", spec := "bitsDo", apart := false, narrowed := true }
def BitsDoUptoSaid : Prop := bitsDoUptoRow.holds Try.pinned (OpenSpec.upto bitsDoSpec)

/-- 'lodgerlaw01.BitsFirst', WHERE WHAT IT READS IS OF BULK AT MOST 1048576: true; the input reads as it did. -/
def bitsFirstUptoRow : OpenClaim := { program := "yteieippmopfnaaa", sum := "22fcbf896577abc98d2a63c4f66b354fac458fd5838e28d6020a7f18b3d66d45", func := "lodger/lodgerlaw01.BitsFirst", spec := "bitsFirst", apart := false, narrowed := true }
def BitsFirstUptoSaid : Prop := bitsFirstUptoRow.holds Try.pinned (OpenSpec.upto bitsFirstSpec)

/-- 'lodgerlaw01.BitsFill', WHERE WHAT IT READS IS OF BULK AT MOST 1048576: true; the input reads as it did. -/
def bitsFillUptoRow : OpenClaim := { program := "yteieippmopfnaaa", sum := "22fcbf896577abc98d2a63c4f66b354fac458fd5838e28d6020a7f18b3d66d45", func := "lodger/lodgerlaw01.BitsFill", spec := "bitsFill", apart := false, narrowed := true }
def BitsFillUptoSaid : Prop := bitsFillUptoRow.holds Try.pinned (OpenSpec.upto bitsFillSpec)

/-- 'lodgerlaw01.BitsApart', WHERE WHAT IT READS IS OF BULK AT MOST 1048576: true; the input reads as it did. -/
def bitsApartUptoRow : OpenClaim := { program := "yteieippmopfnaaa", sum := "22fcbf896577abc98d2a63c4f66b354fac458fd5838e28d6020a7f18b3d66d45", func := "lodger/lodgerlaw01.BitsApart", spec := "bitsApart", apart := false, narrowed := true }
def BitsApartUptoSaid : Prop := bitsApartUptoRow.holds Try.pinned (OpenSpec.upto bitsApartSpec)

/-- 'lodgerlaw01.BitsCount', WHERE WHAT IT READS IS OF BULK AT MOST 1048576: true; the input reads as it did. -/
def bitsCountUptoRow : OpenClaim := { program := "yteieippmopfnaaa", sum := "22fcbf896577abc98d2a63c4f66b354fac458fd5838e28d6020a7f18b3d66d45", func := "lodger/lodgerlaw01.BitsCount", spec := "bitsCount", apart := false, narrowed := true }
def BitsCountUptoSaid : Prop := bitsCountUptoRow.holds Try.pinned (OpenSpec.upto bitsCountSpec)

/-- 'lodgerlaw12.ShardTurns', WHERE WHAT IT READS IS OF BULK AT MOST 1048576: true; the input reads as it did. -/
def shardTurnsUptoRow : OpenClaim := { program := "yteieippmopfnaaa", sum := "22fcbf896577abc98d2a63c4f66b354fac458fd5838e28d6020a7f18b3d66d45", func := "lodger/lodgerlaw12.ShardTurns", spec := "shardTurns", apart := false, narrowed := true }
def ShardTurnsUptoSaid : Prop := shardTurnsUptoRow.holds Try.pinned (OpenSpec.upto shardTurnsSpec)

/-- 'lodgerlaw12.ShardParts', WHERE WHAT IT READS IS OF BULK AT MOST 1048576: true; the input reads as it did. -/
def shardPartsUptoRow : OpenClaim := { program := "yteieippmopfnaaa", sum := "22fcbf896577abc98d2a63c4f66b354fac458fd5838e28d6020a7f18b3d66d45", func := "lodger/lodgerlaw12.ShardParts", spec := "shardParts", apart := false, narrowed := true }
def ShardPartsUptoSaid : Prop := shardPartsUptoRow.holds Try.pinned (OpenSpec.upto shardPartsSpec)

end Rows
end Go.Proofs.Yteieippmopfnaaa
