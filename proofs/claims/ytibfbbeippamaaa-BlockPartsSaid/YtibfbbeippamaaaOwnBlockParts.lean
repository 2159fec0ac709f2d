/- BlockParts: the row of the statement, joined out of its walk and its plain law; no condition. -/
import Derived.Test.YtibfbbeippamaaaRows
import Derived.Test.YtibfbbeippamaaaQBlockPartsx4
import Derived.Test.YtibfbbeippamaaaPureBlockParts
import Derived.WalkKit
import Derived.ProofKit
import Derived.OpenShut
import Derived.ShutString
import Derived.ChangeOld
import Derived.Below
import Derived.SizedLaws
import Derived.Test.YtibfbbeippamaaaWSized
namespace Go.Proofs.Ytibfbbeippamaaa.blockParts
open Go.ChangeShapes Go.WideShapes Go.ChangeAt Go.RowKit
open Go.ChangeMaps (open_string shut_string)
set_option linter.unusedVariables false
theorem own : ownKnob Try.prog.godebug = none := by kernel_rfl
theorem laidOut : laidOutB Try.prog = true := by kernel_rfl
def IsRow (k : IntKind) (w : World) (a : Option Addr) (len cap : Nat) (zs : List Int) : Prop :=
  (a = none ∧ len = 0 ∧ cap = 0 ∧ zs = []) ∨
  ∃ x, a = some x ∧ len ≤ cap ∧ cap ≤ maxLen ∧ zs.length = cap ∧ (∀ i, i < zs.length → w.cell? (x.add i) = some (.int k (zs.getD i 0))) ∧ ∀ n ∈ zs, (Lit.int k n).wf = true
set_option maxRecDepth 100000 in
theorem opens24 {H : Type} {enc : TypeId × Value → H} {W : World} {r : Reach} {b0 : Nat} {v : Value} {d : DataW H} {p : List MemPlace} (hv : Value.okWide Try.prog W r b0 24 v) (h : DataW.Trod enc Try.prog W 0 (fun _ => true) true 24 v d p) :
    ∃ (a0_0 : Int) (a0_1 : Int), v = .agg #[.int .u32 a0_0, .int .i64 a0_1] ∧ (Lit.int .u32 a0_0).wf = true ∧ (Lit.int .i64 a0_1).wf = true := by
  obtain ⟨cs, rfl, hsz⟩ := okWide_struct Try.underlying24 hv
  obtain ⟨l⟩ := cs
  have hC : Try.prog.cellsOf 24 = 2 := by kernel_rfl
  match l, hsz.trans hC with
  | [v0, v1], _ =>
    obtain ⟨fuel, hf⟩ := h
    replace hf : DataW.trod enc Try.prog W 0 (fun _ => true) true fuel 24 [v0, v1] = some (d, p) := hf
    obtain ⟨xs0, n0, _, _, _, hlen0, hg0⟩ := DataW.trod_struct Try.underlying24 hf
    have g0_0 : DataW.trod enc Try.prog W 0 (fun _ => true) true n0 22 [v0] = xs0[0]? := hg0 0 _ rfl
    obtain ⟨y0_0, hy0_0⟩ : ∃ y, xs0[0]? = some y := ⟨xs0[0]'(by rw [hlen0]; decide), List.getElem?_eq_getElem _⟩
    rw [hy0_0] at g0_0
    have g0_1 : DataW.trod enc Try.prog W 0 (fun _ => true) true n0 3 [v1] = xs0[1]? := hg0 1 _ rfl
    obtain ⟨y0_1, hy0_1⟩ : ∃ y, xs0[1]? = some y := ⟨xs0[1]'(by rw [hlen0]; decide), List.getElem?_eq_getElem _⟩
    rw [hy0_1] at g0_1
    obtain ⟨a0_0, e0_0, _, w0_0⟩ := DataW.trod_int Try.underlying22 g0_0
    simp at e0_0
    obtain ⟨a0_1, e0_1, _, w0_1⟩ := DataW.trod_int Try.underlying3 g0_1
    simp at e0_1
    subst e0_0; subst e0_1
    exact ⟨a0_0, a0_1, rfl, w0_0, w0_1⟩
set_option maxRecDepth 100000 in
theorem lifted (os : Os) (started : os.Started) (H : Type) (enc : TypeId × Value → H) :
    ReturnsInHanded {} Try.checked os 11 .any (Rows.blockPartsSpec.pre6 enc Try.prog Try.f11 Rows.blockPartsRow.domain false) (Rows.blockPartsSpec.post enc Try.prog Try.f11 false true false false) := by
  refine returnsInHanded_of_change_sized (C := Try.checked) own started (by kernel_rfl) Try.func11
    (ChangeSpec.witness6 (enc := enc) (C := Try.checked) false ⟨#[], #[.agg #[.int .u32 0, .int .i64 0], .int .u32 0], []⟩ 8 (by kernel_rfl) (by kernel_rfl) (by kernel_rfl) (by kernel_rfl)) ?_
  intro W base args ds gs before hval0 hW hcnd hsz0 _
  have hsz : (DataW.weightsEach Try.prog (Try.f11.params.toList ++ Rows.blockPartsSpec.plain.varTypes Try.prog) (ds ++ gs)).all (· ≤ reachBytes) = true := hsz0
  have hval : ∀ (j : Nat) t v, Try.f11.params[j]? = some t → args[j]? = some v → Value.okWide Try.prog W .any base t v := hval0
  have hW' := hW
  obtain ⟨p, q, hA0, hV, rfl, hfz, hnd⟩ := hW
  have hA : DataW.TrodAll enc Try.prog W 0 (fun _ => true) true Try.f11.params.toList args.toList ds p := hA0
  rw [Try.params11] at hA hval hsz
  obtain ⟨v0, vs0, d0, ds0, p0, q0, hargs, rfl, rfl, h0, r0⟩ := trodAll_cons hA
  obtain ⟨v1, vs1, d1, ds1, p1, q1, rfl, rfl, rfl, h1, r1⟩ := trodAll_cons r0
  obtain ⟨rfl, rfl, rfl⟩ := trodAll_nil r1
  obtain rfl : args = #[v0, v1] := by cases args; simp_all
  obtain ⟨rfl, rfl⟩ := trodVars_none hV
  have k0 := h0
  have lt0 : ∀ x ∈ p0, x.block < W.heap.size := by obtain ⟨m, hm⟩ := k0; exact DataW.trod_lt m _ _ _ hm
  obtain ⟨a0_0, a0_1, rfl, w0_0, w0_1⟩ := opens24 (hval 0 24 v0 rfl rfl) h0
  obtain ⟨a1, rfl, rfl, rfl, w1⟩ := open_int Try.underlying22 (hval 1 22 v1 rfl rfl) h1
  clear hA0 hval0 hsz0 hsz
  refine (PBlockParts.lodgerlaw05_BlockParts.walk Pure.BlockParts a0_0 a0_1 a1 W w0_0 w0_1 w1).mono fun e W' ⟨he, bel⟩ => ?_
  subst he
  exact ⟨_, rfl, _, _, _, [], _, [], hW', trodAll_mk1 (shut_bool Try.underlying4 _), (trodAll_cons_mk (Below.trod laidOut (by kernel_rfl) (of_decide_eq_true (by kernel_rfl)) k0 bel lt0) (trodAll_cons_mk (shut_int Try.underlying22 w1) trodAll_mk0)), rfl, bel.frame _, fun h => by cases h⟩
theorem over : Rows.blockPartsRow.holds Try.pinned (OpenSpec.ofChange Rows.blockPartsSpec) :=
  OpenClaim.holds_of_wide 11 Try.f11 rfl rfl rfl rfl rfl rfl rfl ⟨rfl, rfl, rfl, rfl, rfl⟩ rfl rfl rfl rfl rfl (by kernel_rfl) Try.func11 (by kernel_rfl)
    (of_decide_eq_true (by kernel_rfl)) (by unfold Func.isWrapper; first | (rw [if_pos (by decide +kernel)]; kernel_rfl) | (rw [if_neg (by decide +kernel)]; exact ⟨rfl, rfl⟩))
    (fun os started H enc _ => lifted os started H enc)
theorem proved : Rows.BlockPartsSaid := over
#print axioms proved
end Go.Proofs.Ytibfbbeippamaaa.blockParts
namespace Go.Proofs.Ytibfbbeippamaaa
/-- The row, under a short name, for the claim. -/
theorem blockParts_holds : Rows.BlockPartsSaid := blockParts.proved
end Go.Proofs.Ytibfbbeippamaaa
