/- QueueDoes: the row of the statement, joined out of its walk and its plain law; no condition. -/
import Derived.Test.YtmchledhamhlgaaRows
import Derived.Test.YtmchledhamhlgaaQQueueDoesx3
import Derived.Test.YtmchledhamhlgaaPureQueueDoes
import Derived.WalkKit
import Derived.ProofKit
import Derived.OpenShut
import Derived.ShutString
import Derived.ChangeOld
import Derived.Below
import Derived.SizedLaws
import Derived.Test.YtmchledhamhlgaaWSized
namespace Go.Proofs.Ytmchledhamhlgaa.queueDoes
open Go.ChangeShapes Go.WideShapes Go.ChangeAt Go.RowKit
open Go.ChangeMaps (open_string shut_string)
set_option linter.unusedVariables false
theorem own : ownKnob Try.prog.godebug = none := by kernel_rfl
theorem laidOut : laidOutB Try.prog = true := by kernel_rfl
def IsRow (k : IntKind) (w : World) (a : Option Addr) (len cap : Nat) (zs : List Int) : Prop :=
  (a = none ∧ len = 0 ∧ cap = 0 ∧ zs = []) ∨
  ∃ x, a = some x ∧ len ≤ cap ∧ cap ≤ maxLen ∧ zs.length = cap ∧ (∀ i, i < zs.length → w.cell? (x.add i) = some (.int k (zs.getD i 0))) ∧ ∀ n ∈ zs, (Lit.int k n).wf = true
set_option maxRecDepth 100000 in
theorem opens34 {H : Type} {enc : TypeId × Value → H} {W : World} {r : Reach} {b0 : Nat} {v : Value} {d : DataW H} {p : List MemPlace} (hv : Value.okWide Try.prog W r b0 34 v) (h : DataW.Trod enc Try.prog W 0 (fun _ => true) true 34 v d p) :
    ∃ (a0_0 : Int) (a0_1 : Option Addr) (len0_1 cap0_1 : Nat) (z0_1 : List Int) (a0_2 : Bool), v = .agg #[.int .i64 a0_0, .slice a0_1 len0_1 cap0_1, .bool a0_2] ∧ (Lit.int .i64 a0_0).wf = true ∧ IsRow .i64 W a0_1 len0_1 cap0_1 z0_1 := by
  obtain ⟨cs, rfl, hsz⟩ := okWide_struct Try.underlying34 hv
  obtain ⟨l⟩ := cs
  have hC : Try.prog.cellsOf 34 = 3 := by kernel_rfl
  match l, hsz.trans hC with
  | [v0, v1, v2], _ =>
    obtain ⟨fuel, hf⟩ := h
    replace hf : DataW.trod enc Try.prog W 0 (fun _ => true) true fuel 34 [v0, v1, v2] = some (d, p) := hf
    obtain ⟨xs0, n0, _, _, _, hlen0, hg0⟩ := DataW.trod_struct Try.underlying34 hf
    have g0_0 : DataW.trod enc Try.prog W 0 (fun _ => true) true n0 3 [v0] = xs0[0]? := hg0 0 _ rfl
    obtain ⟨y0_0, hy0_0⟩ : ∃ y, xs0[0]? = some y := ⟨xs0[0]'(by rw [hlen0]; decide), List.getElem?_eq_getElem _⟩
    rw [hy0_0] at g0_0
    have g0_1 : DataW.trod enc Try.prog W 0 (fun _ => true) true n0 32 [v1] = xs0[1]? := hg0 1 _ rfl
    obtain ⟨y0_1, hy0_1⟩ : ∃ y, xs0[1]? = some y := ⟨xs0[1]'(by rw [hlen0]; decide), List.getElem?_eq_getElem _⟩
    rw [hy0_1] at g0_1
    have g0_2 : DataW.trod enc Try.prog W 0 (fun _ => true) true n0 4 [v2] = xs0[2]? := hg0 2 _ rfl
    obtain ⟨y0_2, hy0_2⟩ : ∃ y, xs0[2]? = some y := ⟨xs0[2]'(by rw [hlen0]; decide), List.getElem?_eq_getElem _⟩
    rw [hy0_2] at g0_2
    obtain ⟨a0_0, e0_0, _, w0_0⟩ := DataW.trod_int Try.underlying3 g0_0
    simp at e0_0
    obtain ⟨a0_1, len0_1, cap0_1, z0_1, e0_1, w0_1⟩ : ∃ a len cap zs, v1 = .slice a len cap ∧ IsRow .i64 W a len cap zs := by
      rcases open_ints Try.underlying32 Try.underlying3 (by kernel_rfl) g0_1 with ⟨hcs, _⟩ | ⟨x, l, c, zs, hcs, _, hl, hm, hz, _, hcell, hwz⟩
      · simp at hcs
        exact ⟨none, 0, 0, [], hcs, .inl ⟨rfl, rfl, rfl, rfl⟩⟩
      · simp at hcs
        exact ⟨some x, l, c, zs, hcs, .inr ⟨_, rfl, hl, hm, by simpa using hz, hcell, hwz⟩⟩
    obtain ⟨a0_2, e0_2, _⟩ := DataW.trod_bool Try.underlying4 g0_2
    simp at e0_2
    subst e0_0; subst e0_1; subst e0_2
    exact ⟨a0_0, a0_1, len0_1, cap0_1, z0_1, a0_2, rfl, w0_0, w0_1⟩
set_option maxRecDepth 100000 in
theorem lifted (os : Os) (started : os.Started) (H : Type) (enc : TypeId × Value → H) :
    ReturnsInHanded {} Try.checked os 4 .any (Rows.queueDoesSpec.pre6 enc Try.prog Try.f4 Rows.queueDoesRow.domain false) (Rows.queueDoesSpec.post enc Try.prog Try.f4 false true false false) := by
  refine returnsInHanded_of_change_sized (C := Try.checked) own started (by kernel_rfl) Try.func4
    (ChangeSpec.witness6 (enc := enc) (C := Try.checked) false ⟨#[], #[.agg #[.int .i64 0, .slice none 0 0, .bool false], .int .i64 0, .int .i64 0], []⟩ 8 (by kernel_rfl) (by kernel_rfl) (by kernel_rfl) (by kernel_rfl)) ?_
  intro W base args ds gs before hval0 hW hcnd hsz0 _
  have hsz : (DataW.weightsEach Try.prog (Try.f4.params.toList ++ Rows.queueDoesSpec.plain.varTypes Try.prog) (ds ++ gs)).all (· ≤ reachBytes) = true := hsz0
  have hval : ∀ (j : Nat) t v, Try.f4.params[j]? = some t → args[j]? = some v → Value.okWide Try.prog W .any base t v := hval0
  have hW' := hW
  obtain ⟨p, q, hA0, hV, rfl, hfz, hnd⟩ := hW
  have hA : DataW.TrodAll enc Try.prog W 0 (fun _ => true) true Try.f4.params.toList args.toList ds p := hA0
  rw [Try.params4] at hA hval hsz
  obtain ⟨v0, vs0, d0, ds0, p0, q0, hargs, rfl, rfl, h0, r0⟩ := trodAll_cons hA
  obtain ⟨v1, vs1, d1, ds1, p1, q1, rfl, rfl, rfl, h1, r1⟩ := trodAll_cons r0
  obtain ⟨v2, vs2, d2, ds2, p2, q2, rfl, rfl, rfl, h2, r2⟩ := trodAll_cons r1
  obtain ⟨rfl, rfl, rfl⟩ := trodAll_nil r2
  obtain rfl : args = #[v0, v1, v2] := by cases args; simp_all
  obtain ⟨rfl, rfl⟩ := trodVars_none hV
  have k0 := h0
  have lt0 : ∀ x ∈ p0, x.block < W.heap.size := by obtain ⟨m, hm⟩ := k0; exact DataW.trod_lt m _ _ _ hm
  obtain ⟨a0_0, a0_1, len0_1, cap0_1, z0_1, a0_2, rfl, w0_0, w0_1⟩ := opens34 (hval 0 34 v0 rfl rfl) h0
  obtain ⟨a1, rfl, rfl, rfl, w1⟩ := open_int Try.underlying3 (hval 1 3 v1 rfl rfl) h1
  obtain ⟨a2, rfl, rfl, rfl, w2⟩ := open_int Try.underlying3 (hval 2 3 v2 rfl rfl) h2
  clear hA0 hval0 hsz0 hsz
  refine (PQueueDoes.lodgerlaw03_QueueDoes.walk Pure.QueueDoes a0_0 a0_1 len0_1 cap0_1 z0_1 a0_2 a1 a2 W w0_0 w0_1 w1 w2).mono fun e W' ⟨he, bel⟩ => ?_
  subst he
  exact ⟨_, rfl, _, _, _, [], _, [], hW', trodAll_mk1 (shut_bool Try.underlying4 _), (trodAll_cons_mk (Below.trod laidOut (by kernel_rfl) (of_decide_eq_true (by kernel_rfl)) k0 bel lt0) (trodAll_cons_mk (shut_int Try.underlying3 w1) (trodAll_cons_mk (shut_int Try.underlying3 w2) trodAll_mk0))), rfl, bel.frame _, fun h => by cases h⟩
theorem over : Rows.queueDoesRow.holds Try.pinned (OpenSpec.ofChange Rows.queueDoesSpec) :=
  OpenClaim.holds_of_wide 4 Try.f4 rfl rfl rfl rfl rfl rfl rfl ⟨rfl, rfl, rfl, rfl, rfl⟩ rfl rfl rfl rfl rfl (by kernel_rfl) Try.func4 (by kernel_rfl)
    (of_decide_eq_true (by kernel_rfl)) (by unfold Func.isWrapper; first | (rw [if_pos (by decide +kernel)]; kernel_rfl) | (rw [if_neg (by decide +kernel)]; exact ⟨rfl, rfl⟩))
    (fun os started H enc _ => lifted os started H enc)
theorem proved : Rows.QueueDoesSaid := over
#print axioms proved
end Go.Proofs.Ytmchledhamhlgaa.queueDoes
namespace Go.Proofs.Ytmchledhamhlgaa
/-- The row, under a short name, for the claim. -/
theorem queueDoes_holds : Rows.QueueDoesSaid := queueDoes.proved
end Go.Proofs.Ytmchledhamhlgaa
