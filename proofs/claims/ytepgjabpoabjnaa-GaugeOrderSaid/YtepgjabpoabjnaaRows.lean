/-
  No cell of these rows narrows 'for every input' (looked for: loops, veiled, ifaces, maps, wideKeys, modest, calm, conditions, laid).
  DERIVED. THE GIVEN ROWS OF THIS SEAT. 4 by the template 'for every input the law returns true; each argument reads behind the call as it read before'; 0 by the template 'total and deterministic' (their statements: YtepgjabpoabjnaaTotals.lean).
  GIVEN WITH THE SEED: the statements are not yours to turn. If you find one false, say at which input.
  Laid BY PROGRAM, IN A SANDBOX (cutbox-rows.mjs): the forced cells as the released guide's own fill.sh prints them over the translation fc0b9dfd05e5a5a9… (all of the seat's roots in one cut). By AI agents, Wed Nov 11 2026. No macro, syntax, notation, axiom, sorry.
-/
import Derived.Test.YtepgjabpoabjnaaChecked
import GoSem.Claim
import GoSem.ClaimJoined
import GoSem.ClaimMapViews
import Derived.JoinedTies
import Derived.KernelRfl
namespace Go.Proofs.Ytepgjabpoabjnaa
/- THE CELL 'sum', in the pinned program and in every row, IS THE sha256 OF THE DUMP (.gsa) THAT YtepgjabpoabjnaaProg.lean LOADS. Nothing in Lean hashes anything: it is a label: what it is worth is what the hold of that sum in a sandbox is worth. -/
noncomputable def Try.pinned : Pinned := { name := "ytepgjabpoabjnaa", sum := "fc0b9dfd05e5a5a95811aa0aaf8764cc164193075c37f2217f4e6aa51f88f841", checked := Try.checked }
namespace Rows
def none {H : Type} : Left H := { results := [], args := [] }

/-- 'lodgerlaw26.GaugeTells': WHATEVER THE INPUT: true; the input reads as it did. -/
def gaugeTellsSpec : ChangeSpec := { name := "gaugeTells", fn := fun _ => fun
  | [d1, d2, d3, d4] => { results := [.lit (.bool true)], args := [d1, d2, d3, d4] }
  | _ => none }
def gaugeTellsRow : OpenClaim := { program := "ytepgjabpoabjnaa", sum := "fc0b9dfd05e5a5a95811aa0aaf8764cc164193075c37f2217f4e6aa51f88f841", func := "lodger/lodgerlaw26.GaugeTells", spec := "gaugeTells", apart := false }
def GaugeTellsSaid : Prop := gaugeTellsRow.holds Try.pinned (OpenSpec.ofChange gaugeTellsSpec)

/-- ITS FALSE NEIGHBOUR: 'it returns false'. Refute it at one input. -/
def gaugeTellsWrong : ChangeSpec := { name := "gaugeTells", fn := fun _ => fun
  | [d1, d2, d3, d4] => { results := [.lit (.bool false)], args := [d1, d2, d3, d4] }
  | _ => none }
def GaugeTellsWrongFalsely : Prop := gaugeTellsRow.holds Try.pinned (OpenSpec.ofChange gaugeTellsWrong)

/-- 'lodgerlaw26.GaugeOrder': WHATEVER THE INPUT: true; the input reads as it did. -/
def gaugeOrderSpec : ChangeSpec := { name := "gaugeOrder", fn := fun _ => fun
  | [d1, d2, d3, d4] => { results := [.lit (.bool true)], args := [d1, d2, d3, d4] }
  | _ => none }
def gaugeOrderRow : OpenClaim := { program := "ytepgjabpoabjnaa", sum := "fc0b9dfd05e5a5a95811aa0aaf8764cc164193075c37f2217f4e6aa51f88f841", func := "lodger/lodgerlaw26.GaugeOrder", spec := "gaugeOrder", apart := false }
def GaugeOrderSaid : Prop := gaugeOrderRow.holds Try.pinned (OpenSpec.ofChange gaugeOrderSpec)

/-- ITS FALSE NEIGHBOUR: 'it returns false'. Refute it at one input. -/
def gaugeOrderWrong : ChangeSpec := { name := "gaugeOrder", fn := fun _ => fun
  | [d1, d2, d3, d4] => { results := [.lit (.bool false)], args := [d1, d2, d3, d4] }
  | _ => none }
def GaugeOrderWrongFalsely : Prop := gaugeOrderRow.holds Try.pinned (OpenSpec.ofChange gaugeOrderWrong)

/-- 'lodgerlaw26.GaugeBars': WHATEVER THE INPUT: true; the input reads as it did. -/
def gaugeBarsSpec : ChangeSpec := { name := "gaugeBars", fn := fun _ => fun
  | [d1, d2, d3] => { results := [.lit (.bool true)], args := [d1, d2, d3] }
  | _ => none }
def gaugeBarsRow : OpenClaim := { program := "ytepgjabpoabjnaa", sum := "fc0b9dfd05e5a5a95811aa0aaf8764cc164193075c37f2217f4e6aa51f88f841", func := "lodger/lodgerlaw26.GaugeBars", spec := "gaugeBars", apart := false }
def GaugeBarsSaid : Prop := gaugeBarsRow.holds Try.pinned (OpenSpec.ofChange gaugeBarsSpec)

/-- ITS FALSE NEIGHBOUR: 'it returns false'. Refute it at one input. -/
def gaugeBarsWrong : ChangeSpec := { name := "gaugeBars", fn := fun _ => fun
  | [d1, d2, d3] => { results := [.lit (.bool false)], args := [d1, d2, d3] }
  | _ => none }
def GaugeBarsWrongFalsely : Prop := gaugeBarsRow.holds Try.pinned (OpenSpec.ofChange gaugeBarsWrong)

/-- 'lodgerlaw26.GaugeEdges': WHATEVER THE INPUT: true; the input reads as it did. -/
def gaugeEdgesSpec : ChangeSpec := { name := "gaugeEdges", fn := fun _ => fun
  | [d1, d2] => { results := [.lit (.bool true)], args := [d1, d2] }
  | _ => none }
def gaugeEdgesRow : OpenClaim := { program := "ytepgjabpoabjnaa", sum := "fc0b9dfd05e5a5a95811aa0aaf8764cc164193075c37f2217f4e6aa51f88f841", func := "lodger/lodgerlaw26.GaugeEdges", spec := "gaugeEdges", apart := false }
def GaugeEdgesSaid : Prop := gaugeEdgesRow.holds Try.pinned (OpenSpec.ofChange gaugeEdgesSpec)

/-- ITS FALSE NEIGHBOUR: 'it returns false'. Refute it at one input. -/
def gaugeEdgesWrong : ChangeSpec := { name := "gaugeEdges", fn := fun _ => fun
  | [d1, d2] => { results := [.lit (.bool false)], args := [d1, d2] }
  | _ => none }
def GaugeEdgesWrongFalsely : Prop := gaugeEdgesRow.holds Try.pinned (OpenSpec.ofChange gaugeEdgesWrong)

/- THE SECOND FORM. 'bulk': how many values and letters a reading holds, each counted each time it is reached (what is shared counts as often as it is met; a slice's spare places count too). A statement '..UptoSaid' is the law's where the arguments, and the package variables that the reading takes, are together of bulk at most 1048576: NARROWER than '..Said'. Prove '..Said' where nothing that the law and all that it calls make is longer than what came in: it says more and counts as full. Else prove '..UptoSaid'. A law counts once. -/
mutual
def uptoBulk {H : Type} : DataW H → Nat
  | .lit (.string bytes) => bytes.length + 1
  | .lit _ => 1
  | .nil => 1
  | .ptr d => uptoBulk d + 1
  | .slice elems spare => uptoBulkAll elems + uptoBulkAll spare + 1
  | .agg parts => uptoBulkAll parts + 1
  | .iface _ d => uptoBulk d + 1
  | .map entries => uptoBulkEntries entries + 1
  | .held _ => 1
def uptoBulkAll {H : Type} : List (DataW H) → Nat
  | [] => 0
  | d :: r => uptoBulk d + uptoBulkAll r
def uptoBulkEntries {H : Type} : List (Lit × DataW H) → Nat
  | [] => 0
  | x :: r => uptoBulkEntry x + uptoBulkEntries r
def uptoBulkEntry {H : Type} : Lit × DataW H → Nat
  | (.string bytes, d) => bytes.length + uptoBulk d + 1
  | (_, d) => uptoBulk d + 1
 end
def uptoSmall : (H : Type) → List (DataW H) → Bool := fun _ ds => decide (uptoBulkAll ds ≤ 1048576)
def OpenSpec.upto (s : _root_.Go.ChangeSpec) : _root_.Go.OpenSpec := { _root_.Go.OpenSpec.ofChange s with cond := some uptoSmall }

/-- 'lodgerlaw26.GaugeTells', WHERE WHAT IT READS IS OF BULK AT MOST 1048576: true; the input reads as it did. -/
def gaugeTellsUptoRow : OpenClaim := { program := "ytepgjabpoabjnaa", sum := "fc0b9dfd05e5a5a95811aa0aaf8764cc164193075c37f2217f4e6aa51f88f841", func := "lodger/lodgerlaw26.GaugeTells", spec := "gaugeTells", apart := false, narrowed := true }
def GaugeTellsUptoSaid : Prop := gaugeTellsUptoRow.holds Try.pinned (OpenSpec.upto gaugeTellsSpec)

/-- 'lodgerlaw26.GaugeOrder', WHERE WHAT IT READS IS OF BULK AT MOST 1048576: true; the input reads as it did. -/
def gaugeOrderUptoRow : OpenClaim := { program := "ytepgjabpoabjnaa", sum := "fc0b9dfd05e5a5a95811aa0aaf8764cc164193075c37f2217f4e6aa51f88f841", func := "lodger/lodgerlaw26.GaugeOrder", spec := "gaugeOrder", apart := false, narrowed := true }
def GaugeOrderUptoSaid : Prop := gaugeOrderUptoRow.holds Try.pinned (OpenSpec.upto gaugeOrderSpec)

/-- 'lodgerlaw26.GaugeBars', WHERE WHAT IT READS IS OF BULK AT MOST 1048576: true; the input reads as it did. -/
def gaugeBarsUptoRow : OpenClaim := { program := "ytepgjabpoabjnaa", sum := "fc0b9dfd05e5a5a95811aa0aaf8764cc164193075c37f2217f4e6aa51f88f841", func := "lodger/lodgerlaw26.GaugeBars", spec := "gaugeBars", apart := false, narrowed := true }
def GaugeBarsUptoSaid : Prop := gaugeBarsUptoRow.holds Try.pinned (OpenSpec.upto gaugeBarsSpec)

/-- 'lodgerlaw26.GaugeEdges', WHERE WHAT IT READS IS OF BULK AT MOST 1048576: true; the input reads as it did. -/
def gaugeEdgesUptoRow : OpenClaim := { program := "ytepgjabpoabjnaa", sum := "fc0b9dfd05e5a5a95811aa0aaf8764cc164193075c37f2217f4e6aa51f88f841", func := "lodger/lodgerlaw26.GaugeEdges", spec := "gaugeEdges", apart := false, narrowed := true }
def GaugeEdgesUptoSaid : Prop := gaugeEdgesUptoRow.holds Try.pinned (OpenSpec.upto gaugeEdgesSpec)

end Rows
end Go.Proofs.Ytepgjabpoabjnaa
