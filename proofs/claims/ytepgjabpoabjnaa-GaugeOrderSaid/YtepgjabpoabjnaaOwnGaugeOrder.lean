/- GaugeOrder: the row of the statement, joined out of its walk and its plain law; no condition. -/
import Derived.Test.YtepgjabpoabjnaaRows
import Derived.Test.YtepgjabpoabjnaaQGaugeOrderx7
import Derived.Test.YtepgjabpoabjnaaPureGaugeOrder
import Derived.WalkKit
import Derived.ProofKit
import Derived.OpenShut
import Derived.ShutString
import Derived.ChangeOld
import Derived.Below
import Derived.SizedLaws
import Derived.Test.YtepgjabpoabjnaaWSized
namespace Go.Proofs.Ytepgjabpoabjnaa.gaugeOrder
open Go.ChangeShapes Go.WideShapes Go.ChangeAt Go.RowKit
open Go.ChangeMaps (open_string shut_string)
set_option linter.unusedVariables false
theorem own : ownKnob Try.prog.godebug = none := by kernel_rfl
theorem laidOut : laidOutB Try.prog = true := by kernel_rfl
def IsRow (k : IntKind) (w : World) (a : Option Addr) (len cap : Nat) (zs : List Int) : Prop :=
  (a = none ∧ len = 0 ∧ cap = 0 ∧ zs = []) ∨
  ∃ x, a = some x ∧ len ≤ cap ∧ cap ≤ maxLen ∧ zs.length = cap ∧ (∀ i, i < zs.length → w.cell? (x.add i) = some (.int k (zs.getD i 0))) ∧ ∀ n ∈ zs, (Lit.int k n).wf = true
set_option maxRecDepth 100000 in
theorem opens27 {H : Type} {enc : TypeId × Value → H} {W : World} {r : Reach} {b0 : Nat} {v : Value} {d : DataW H} {p : List MemPlace} (hv : Value.okWide Try.prog W r b0 27 v) (h : DataW.Trod enc Try.prog W 0 (fun _ => true) true 27 v d p) :
    ∃ (a0_0 : Int) (a0_1 : Int) (a0_2 : Option Addr) (len0_2 cap0_2 : Nat) (z0_2 : List Int) (a0_3 : Int) (a0_4 : Int) (a0_5 : Int) (a0_6 : Int), v = .agg #[.int .u32 a0_0, .int .i64 a0_1, .slice a0_2 len0_2 cap0_2, .int .i64 a0_3, .int .i64 a0_4, .int .i64 a0_5, .int .i64 a0_6] ∧ (Lit.int .u32 a0_0).wf = true ∧ (Lit.int .i64 a0_1).wf = true ∧ IsRow .i64 W a0_2 len0_2 cap0_2 z0_2 ∧ (Lit.int .i64 a0_3).wf = true ∧ (Lit.int .i64 a0_4).wf = true ∧ (Lit.int .i64 a0_5).wf = true ∧ (Lit.int .i64 a0_6).wf = true := by
  obtain ⟨cs, rfl, hsz⟩ := okWide_struct Try.underlying27 hv
  obtain ⟨l⟩ := cs
  have hC : Try.prog.cellsOf 27 = 7 := by kernel_rfl
  match l, hsz.trans hC with
  | [v0, v1, v2, v3, v4, v5, v6], _ =>
    obtain ⟨fuel, hf⟩ := h
    replace hf : DataW.trod enc Try.prog W 0 (fun _ => true) true fuel 27 [v0, v1, v2, v3, v4, v5, v6] = some (d, p) := hf
    obtain ⟨xs0, n0, _, _, _, hlen0, hg0⟩ := DataW.trod_struct Try.underlying27 hf
    have g0_0 : DataW.trod enc Try.prog W 0 (fun _ => true) true n0 24 [v0, v1] = xs0[0]? := hg0 0 _ rfl
    obtain ⟨y0_0, hy0_0⟩ : ∃ y, xs0[0]? = some y := ⟨xs0[0]'(by rw [hlen0]; decide), List.getElem?_eq_getElem _⟩
    rw [hy0_0] at g0_0
    have g0_1 : DataW.trod enc Try.prog W 0 (fun _ => true) true n0 25 [v2] = xs0[1]? := hg0 1 _ rfl
    obtain ⟨y0_1, hy0_1⟩ : ∃ y, xs0[1]? = some y := ⟨xs0[1]'(by rw [hlen0]; decide), List.getElem?_eq_getElem _⟩
    rw [hy0_1] at g0_1
    have g0_2 : DataW.trod enc Try.prog W 0 (fun _ => true) true n0 3 [v3] = xs0[2]? := hg0 2 _ rfl
    obtain ⟨y0_2, hy0_2⟩ : ∃ y, xs0[2]? = some y := ⟨xs0[2]'(by rw [hlen0]; decide), List.getElem?_eq_getElem _⟩
    rw [hy0_2] at g0_2
    have g0_3 : DataW.trod enc Try.prog W 0 (fun _ => true) true n0 3 [v4] = xs0[3]? := hg0 3 _ rfl
    obtain ⟨y0_3, hy0_3⟩ : ∃ y, xs0[3]? = some y := ⟨xs0[3]'(by rw [hlen0]; decide), List.getElem?_eq_getElem _⟩
    rw [hy0_3] at g0_3
    have g0_4 : DataW.trod enc Try.prog W 0 (fun _ => true) true n0 3 [v5] = xs0[4]? := hg0 4 _ rfl
    obtain ⟨y0_4, hy0_4⟩ : ∃ y, xs0[4]? = some y := ⟨xs0[4]'(by rw [hlen0]; decide), List.getElem?_eq_getElem _⟩
    rw [hy0_4] at g0_4
    have g0_5 : DataW.trod enc Try.prog W 0 (fun _ => true) true n0 3 [v6] = xs0[5]? := hg0 5 _ rfl
    obtain ⟨y0_5, hy0_5⟩ : ∃ y, xs0[5]? = some y := ⟨xs0[5]'(by rw [hlen0]; decide), List.getElem?_eq_getElem _⟩
    rw [hy0_5] at g0_5
    obtain ⟨xs1, n1, _, _, _, hlen1, hg1⟩ := DataW.trod_struct Try.underlying24 g0_0
    have g0_0_0 : DataW.trod enc Try.prog W 0 (fun _ => true) true n1 22 [v0] = xs1[0]? := hg1 0 _ rfl
    obtain ⟨y0_0_0, hy0_0_0⟩ : ∃ y, xs1[0]? = some y := ⟨xs1[0]'(by rw [hlen1]; decide), List.getElem?_eq_getElem _⟩
    rw [hy0_0_0] at g0_0_0
    have g0_0_1 : DataW.trod enc Try.prog W 0 (fun _ => true) true n1 3 [v1] = xs1[1]? := hg1 1 _ rfl
    obtain ⟨y0_0_1, hy0_0_1⟩ : ∃ y, xs1[1]? = some y := ⟨xs1[1]'(by rw [hlen1]; decide), List.getElem?_eq_getElem _⟩
    rw [hy0_0_1] at g0_0_1
    obtain ⟨a0_0, e0_0, _, w0_0⟩ := DataW.trod_int Try.underlying22 g0_0_0
    simp at e0_0
    obtain ⟨a0_1, e0_1, _, w0_1⟩ := DataW.trod_int Try.underlying3 g0_0_1
    simp at e0_1
    obtain ⟨a0_2, len0_2, cap0_2, z0_2, e0_2, w0_2⟩ : ∃ a len cap zs, v2 = .slice a len cap ∧ IsRow .i64 W a len cap zs := by
      rcases open_ints Try.underlying25 Try.underlying3 (by kernel_rfl) g0_1 with ⟨hcs, _⟩ | ⟨x, l, c, zs, hcs, _, hl, hm, hz, _, hcell, hwz⟩
      · simp at hcs
        exact ⟨none, 0, 0, [], hcs, .inl ⟨rfl, rfl, rfl, rfl⟩⟩
      · simp at hcs
        exact ⟨some x, l, c, zs, hcs, .inr ⟨_, rfl, hl, hm, by simpa using hz, hcell, hwz⟩⟩
    obtain ⟨a0_3, e0_3, _, w0_3⟩ := DataW.trod_int Try.underlying3 g0_2
    simp at e0_3
    obtain ⟨a0_4, e0_4, _, w0_4⟩ := DataW.trod_int Try.underlying3 g0_3
    simp at e0_4
    obtain ⟨a0_5, e0_5, _, w0_5⟩ := DataW.trod_int Try.underlying3 g0_4
    simp at e0_5
    obtain ⟨a0_6, e0_6, _, w0_6⟩ := DataW.trod_int Try.underlying3 g0_5
    simp at e0_6
    subst e0_0; subst e0_1; subst e0_2; subst e0_3; subst e0_4; subst e0_5; subst e0_6
    exact ⟨a0_0, a0_1, a0_2, len0_2, cap0_2, z0_2, a0_3, a0_4, a0_5, a0_6, rfl, w0_0, w0_1, w0_2, w0_3, w0_4, w0_5, w0_6⟩
set_option maxRecDepth 100000 in
theorem lifted (os : Os) (started : os.Started) (H : Type) (enc : TypeId × Value → H) :
    ReturnsInHanded {} Try.checked os 4 .any (Rows.gaugeOrderSpec.pre6 enc Try.prog Try.f4 Rows.gaugeOrderRow.domain false) (Rows.gaugeOrderSpec.post enc Try.prog Try.f4 false true false false) := by
  refine returnsInHanded_of_change_sized (C := Try.checked) own started (by kernel_rfl) Try.func4
    (ChangeSpec.witness6 (enc := enc) (C := Try.checked) false ⟨#[], #[.agg #[.int .u32 0, .int .i64 0, .slice none 0 0, .int .i64 0, .int .i64 0, .int .i64 0, .int .i64 0], .slice none 0 0, .float .f64 0, .float .f64 0], []⟩ 8 (by kernel_rfl) (by kernel_rfl) (by kernel_rfl) (by kernel_rfl)) ?_
  intro W base args ds gs before hval0 hW hcnd hsz0 _
  have hsz : (DataW.weightsEach Try.prog (Try.f4.params.toList ++ Rows.gaugeOrderSpec.plain.varTypes Try.prog) (ds ++ gs)).all (· ≤ reachBytes) = true := hsz0
  have hval : ∀ (j : Nat) t v, Try.f4.params[j]? = some t → args[j]? = some v → Value.okWide Try.prog W .any base t v := hval0
  have hW' := hW
  obtain ⟨p, q, hA0, hV, rfl, hfz, hnd⟩ := hW
  have hA : DataW.TrodAll enc Try.prog W 0 (fun _ => true) true Try.f4.params.toList args.toList ds p := hA0
  rw [Try.params4] at hA hval hsz
  obtain ⟨v0, vs0, d0, ds0, p0, q0, hargs, rfl, rfl, h0, r0⟩ := trodAll_cons hA
  obtain ⟨v1, vs1, d1, ds1, p1, q1, rfl, rfl, rfl, h1, r1⟩ := trodAll_cons r0
  obtain ⟨v2, vs2, d2, ds2, p2, q2, rfl, rfl, rfl, h2, r2⟩ := trodAll_cons r1
  obtain ⟨v3, vs3, d3, ds3, p3, q3, rfl, rfl, rfl, h3, r3⟩ := trodAll_cons r2
  obtain ⟨rfl, rfl, rfl⟩ := trodAll_nil r3
  obtain rfl : args = #[v0, v1, v2, v3] := by cases args; simp_all
  obtain ⟨rfl, rfl⟩ := trodVars_none hV
  have k0 := h0
  have lt0 : ∀ x ∈ p0, x.block < W.heap.size := by obtain ⟨m, hm⟩ := k0; exact DataW.trod_lt m _ _ _ hm
  obtain ⟨a0_0, a0_1, a0_2, len0_2, cap0_2, z0_2, a0_3, a0_4, a0_5, a0_6, rfl, w0_0, w0_1, w0_2, w0_3, w0_4, w0_5, w0_6⟩ := opens27 (hval 0 27 v0 rfl rfl) h0
  obtain ⟨a1, len1, cap1, rfl⟩ := okWide_slice Try.underlying25 (hval 1 25 v1 rfl rfl)
  have k1 := h1
  have lt1 : ∀ x ∈ p1, x.block < W.heap.size := by obtain ⟨m, hm⟩ := k1; exact DataW.trod_lt m _ _ _ hm
  obtain ⟨z1, w1⟩ : ∃ zs, IsRow .i64 W a1 len1 cap1 zs := by
    obtain ⟨fuel, hf⟩ := h1
    rcases open_ints Try.underlying25 Try.underlying3 (by kernel_rfl) hf with ⟨hcs, _⟩ | ⟨x, l, c, zs, hcs, _, hl, hm, hz, _, hcell, hwz⟩
    · simp [Value.cells] at hcs
      obtain ⟨rfl, rfl, rfl⟩ := hcs
      exact ⟨[], .inl ⟨rfl, rfl, rfl, rfl⟩⟩
    · simp [Value.cells] at hcs
      obtain ⟨rfl, rfl, rfl⟩ := hcs
      exact ⟨zs, .inr ⟨_, rfl, hl, hm, by simpa using hz, hcell, hwz⟩⟩
  have y1 : len1 * 8 ≤ 140737488351232 := Go.Proofs.YtepgjabpoabjnaaW.PrintWords.sized_ints hsz (j := 1) (t := 25) rfl rfl Try.underlying25 Try.underlying3 (by kernel_rfl) (by kernel_rfl) h1
  obtain ⟨a2, rfl, rfl, rfl, w2⟩ := open_float Try.underlying28 (hval 2 28 v2 rfl rfl) h2
  obtain ⟨a3, rfl, rfl, rfl, w3⟩ := open_float Try.underlying28 (hval 3 28 v3 rfl rfl) h3
  clear hA0 hval0 hsz0 hsz
  refine (PGaugeOrder.lodgerlaw26_GaugeOrder.walk Pure.GaugeOrder a0_0 a0_1 a0_2 len0_2 cap0_2 z0_2 a0_3 a0_4 a0_5 a0_6 a1 len1 cap1 z1 a2 a3 W w0_0 w0_1 w0_2 w0_3 w0_4 w0_5 w0_6 w1 y1 w2 w3).mono fun e W' ⟨he, bel⟩ => ?_
  subst he
  exact ⟨_, rfl, _, _, _, [], _, [], hW', trodAll_mk1 (shut_bool Try.underlying4 _), (trodAll_cons_mk (Below.trod laidOut (by kernel_rfl) (of_decide_eq_true (by kernel_rfl)) k0 bel lt0) (trodAll_cons_mk (Below.trod laidOut (by kernel_rfl) (of_decide_eq_true (by kernel_rfl)) k1 bel lt1) (trodAll_cons_mk (shut_float Try.underlying28 w2) (trodAll_cons_mk (shut_float Try.underlying28 w3) trodAll_mk0)))), rfl, bel.frame _, fun h => by cases h⟩
theorem over : Rows.gaugeOrderRow.holds Try.pinned (OpenSpec.ofChange Rows.gaugeOrderSpec) :=
  OpenClaim.holds_of_wide 4 Try.f4 rfl rfl rfl rfl rfl rfl rfl ⟨rfl, rfl, rfl, rfl, rfl⟩ rfl rfl rfl rfl rfl (by kernel_rfl) Try.func4 (by kernel_rfl)
    (of_decide_eq_true (by kernel_rfl)) (by unfold Func.isWrapper; first | (rw [if_pos (by decide +kernel)]; kernel_rfl) | (rw [if_neg (by decide +kernel)]; exact ⟨rfl, rfl⟩))
    (fun os started H enc _ => lifted os started H enc)
theorem proved : Rows.GaugeOrderSaid := over
#print axioms proved
end Go.Proofs.Ytepgjabpoabjnaa.gaugeOrder
namespace Go.Proofs.Ytepgjabpoabjnaa
/-- The row, under a short name, for the claim. -/
theorem gaugeOrder_holds : Rows.GaugeOrderSaid := gaugeOrder.proved
end Go.Proofs.Ytepgjabpoabjnaa
