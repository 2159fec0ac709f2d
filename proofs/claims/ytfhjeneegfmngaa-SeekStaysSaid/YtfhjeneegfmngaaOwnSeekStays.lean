/- SeekStays: the row of the statement, joined out of its walk and its plain law; no condition. -/
import Derived.Test.YtfhjeneegfmngaaRows
import Derived.Test.YtfhjeneegfmngaaQSeekStaysx8
import Derived.Test.YtfhjeneegfmngaaPureSeekStays
import Derived.WalkKit
import Derived.ProofKit
import Derived.OpenShut
import Derived.ShutString
import Derived.ChangeOld
import Derived.Below
import Derived.SizedLaws
import Derived.Test.YtfhjeneegfmngaaWSized
namespace Go.Proofs.Ytfhjeneegfmngaa.seekStays
open Go.ChangeShapes Go.WideShapes Go.ChangeAt Go.RowKit
open Go.ChangeMaps (open_string shut_string)
set_option linter.unusedVariables false
theorem own : ownKnob Try.prog.godebug = none := by kernel_rfl
theorem laidOut : laidOutB Try.prog = true := by kernel_rfl
def IsRow (k : IntKind) (w : World) (a : Option Addr) (len cap : Nat) (zs : List Int) : Prop :=
  (a = none ∧ len = 0 ∧ cap = 0 ∧ zs = []) ∨
  ∃ x, a = some x ∧ len ≤ cap ∧ cap ≤ maxLen ∧ zs.length = cap ∧ (∀ i, i < zs.length → w.cell? (x.add i) = some (.int k (zs.getD i 0))) ∧ ∀ n ∈ zs, (Lit.int k n).wf = true
set_option maxRecDepth 100000 in
theorem opens27 {H : Type} {enc : TypeId × Value → H} {W : World} {r : Reach} {b0 : Nat} {v : Value} {d : DataW H} {p : List MemPlace} (hv : Value.okWide Try.prog W r b0 27 v) (h : DataW.Trod enc Try.prog W 0 (fun _ => true) true 27 v d p) :
    ∃ (a0_0 : Int) (a0_1 : Int) (a0_2 : Option Addr) (len0_2 cap0_2 : Nat) (z0_2 : List Int) (a0_3 : Int) (a0_4 : Int) (a0_5 : Int) (a0_6 : Int), v = .agg #[.int .u32 a0_0, .int .i64 a0_1, .slice a0_2 len0_2 cap0_2, .int .i64 a0_3, .int .i64 a0_4, .int .i64 a0_5, .int .i64 a0_6] ∧ (Lit.int .u32 a0_0).wf = true ∧ (Lit.int .i64 a0_1).wf = true ∧ IsRow .i64 W a0_2 len0_2 cap0_2 z0_2 ∧ (Lit.int .i64 a0_3).wf = true ∧ (Lit.int .i64 a0_4).wf = true ∧ (Lit.int .i64 a0_5).wf = true ∧ (Lit.int .i64 a0_6).wf = true := by
  obtain ⟨cs, rfl, hsz⟩ := okWide_struct Try.underlying27 hv
  obtain ⟨l⟩ := cs
  have hC : Try.prog.cellsOf 27 = 7 := by kernel_rfl
  match l, hsz.trans hC with
  | [v0, v1, v2, v3, v4, v5, v6], _ =>
    obtain ⟨fuel, hf⟩ := h
    replace hf : DataW.trod enc Try.prog W 0 (fun _ => true) true fuel 27 [v0, v1, v2, v3, v4, v5, v6] = some (d, p) := hf
    obtain ⟨xs0, n0, _, _, _, hlen0, hg0⟩ := DataW.trod_struct Try.underlying27 hf
    have g0_0 : DataW.trod enc Try.prog W 0 (fun _ => true) true n0 24 [v0, v1] = xs0[0]? := hg0 0 _ rfl
    obtain ⟨y0_0, hy0_0⟩ : ∃ y, xs0[0]? = some y := ⟨xs0[0]'(by rw [hlen0]; decide), List.getElem?_eq_getElem _⟩
    rw [hy0_0] at g0_0
    have g0_1 : DataW.trod enc Try.prog W 0 (fun _ => true) true n0 25 [v2] = xs0[1]? := hg0 1 _ rfl
    obtain ⟨y0_1, hy0_1⟩ : ∃ y, xs0[1]? = some y := ⟨xs0[1]'(by rw [hlen0]; decide), List.getElem?_eq_getElem _⟩
    rw [hy0_1] at g0_1
    have g0_2 : DataW.trod enc Try.prog W 0 (fun _ => true) true n0 3 [v3] = xs0[2]? := hg0 2 _ rfl
    obtain ⟨y0_2, hy0_2⟩ : ∃ y, xs0[2]? = some y := ⟨xs0[2]'(by rw [hlen0]; decide), List.getElem?_eq_getElem _⟩
    rw [hy0_2] at g0_2
    have g0_3 : DataW.trod enc Try.prog W 0 (fun _ => true) true n0 3 [v4] = xs0[3]? := hg0 3 _ rfl
    obtain ⟨y0_3, hy0_3⟩ : ∃ y, xs0[3]? = some y := ⟨xs0[3]'(by rw [hlen0]; decide), List.getElem?_eq_getElem _⟩
    rw [hy0_3] at g0_3
    have g0_4 : DataW.trod enc Try.prog W 0 (fun _ => true) true n0 3 [v5] = xs0[4]? := hg0 4 _ rfl
    obtain ⟨y0_4, hy0_4⟩ : ∃ y, xs0[4]? = some y := ⟨xs0[4]'(by rw [hlen0]; decide), List.getElem?_eq_getElem _⟩
    rw [hy0_4] at g0_4
    have g0_5 : DataW.trod enc Try.prog W 0 (fun _ => true) true n0 3 [v6] = xs0[5]? := hg0 5 _ rfl
    obtain ⟨y0_5, hy0_5⟩ : ∃ y, xs0[5]? = some y := ⟨xs0[5]'(by rw [hlen0]; decide), List.getElem?_eq_getElem _⟩
    rw [hy0_5] at g0_5
    obtain ⟨xs1, n1, _, _, _, hlen1, hg1⟩ := DataW.trod_struct Try.underlying24 g0_0
    have g0_0_0 : DataW.trod enc Try.prog W 0 (fun _ => true) true n1 22 [v0] = xs1[0]? := hg1 0 _ rfl
    obtain ⟨y0_0_0, hy0_0_0⟩ : ∃ y, xs1[0]? = some y := ⟨xs1[0]'(by rw [hlen1]; decide), List.getElem?_eq_getElem _⟩
    rw [hy0_0_0] at g0_0_0
    have g0_0_1 : DataW.trod enc Try.prog W 0 (fun _ => true) true n1 3 [v1] = xs1[1]? := hg1 1 _ rfl
    obtain ⟨y0_0_1, hy0_0_1⟩ : ∃ y, xs1[1]? = some y := ⟨xs1[1]'(by rw [hlen1]; decide), List.getElem?_eq_getElem _⟩
    rw [hy0_0_1] at g0_0_1
    obtain ⟨a0_0, e0_0, _, w0_0⟩ := DataW.trod_int Try.underlying22 g0_0_0
    simp at e0_0
    obtain ⟨a0_1, e0_1, _, w0_1⟩ := DataW.trod_int Try.underlying3 g0_0_1
    simp at e0_1
    obtain ⟨a0_2, len0_2, cap0_2, z0_2, e0_2, w0_2⟩ : ∃ a len cap zs, v2 = .slice a len cap ∧ IsRow .i64 W a len cap zs := by
      rcases open_ints Try.underlying25 Try.underlying3 (by kernel_rfl) g0_1 with ⟨hcs, _⟩ | ⟨x, l, c, zs, hcs, _, hl, hm, hz, _, hcell, hwz⟩
      · simp at hcs
        exact ⟨none, 0, 0, [], hcs, .inl ⟨rfl, rfl, rfl, rfl⟩⟩
      · simp at hcs
        exact ⟨some x, l, c, zs, hcs, .inr ⟨_, rfl, hl, hm, by simpa using hz, hcell, hwz⟩⟩
    obtain ⟨a0_3, e0_3, _, w0_3⟩ := DataW.trod_int Try.underlying3 g0_2
    simp at e0_3
    obtain ⟨a0_4, e0_4, _, w0_4⟩ := DataW.trod_int Try.underlying3 g0_3
    simp at e0_4
    obtain ⟨a0_5, e0_5, _, w0_5⟩ := DataW.trod_int Try.underlying3 g0_4
    simp at e0_5
    obtain ⟨a0_6, e0_6, _, w0_6⟩ := DataW.trod_int Try.underlying3 g0_5
    simp at e0_6
    subst e0_0; subst e0_1; subst e0_2; subst e0_3; subst e0_4; subst e0_5; subst e0_6
    exact ⟨a0_0, a0_1, a0_2, len0_2, cap0_2, z0_2, a0_3, a0_4, a0_5, a0_6, rfl, w0_0, w0_1, w0_2, w0_3, w0_4, w0_5, w0_6⟩
set_option maxRecDepth 100000 in
theorem opens41 {H : Type} {enc : TypeId × Value → H} {W : World} {r : Reach} {b0 : Nat} {v : Value} {d : DataW H} {p : List MemPlace} (hv : Value.okWide Try.prog W r b0 41 v) (h : DataW.Trod enc Try.prog W 0 (fun _ => true) true 41 v d p) :
    ∃ (a0_0 : Int) (a0_1 : Int) (a0_2 : Option Addr) (len0_2 cap0_2 : Nat) (z0_2 : List Int) (a0_3 : Int) (a0_4 : Int) (a0_5 : Bool) (a0_6 : Option Addr) (len0_6 cap0_6 : Nat) (z0_6 : List Int) (a0_7 : Option Addr) (len0_7 cap0_7 : Nat) (z0_7 : List Int) (a0_8 : Int) (a0_9 : Int) (a0_10 : Int) (a0_11 : Int) (a0_12 : Int) (a0_13 : Int) (a0_14 : Bool) (a0_15 : Option Addr) (len0_15 cap0_15 : Nat) (z0_15 : List Int) (a0_16 : Int) (a0_17 : Int) (a0_18 : Int) (a0_19 : Int), v = .agg #[.int .i64 a0_0, .int .u32 a0_1, .slice a0_2 len0_2 cap0_2, .int .i64 a0_3, .int .u32 a0_4, .bool a0_5, .slice a0_6 len0_6 cap0_6, .slice a0_7 len0_7 cap0_7, .int .i64 a0_8, .int .i64 a0_9, .int .i64 a0_10, .int .i64 a0_11, .int .i64 a0_12, .int .u64 a0_13, .bool a0_14, .slice a0_15 len0_15 cap0_15, .int .i64 a0_16, .int .i64 a0_17, .int .i64 a0_18, .int .i64 a0_19] ∧ (Lit.int .i64 a0_0).wf = true ∧ (Lit.int .u32 a0_1).wf = true ∧ IsRow .u32 W a0_2 len0_2 cap0_2 z0_2 ∧ (Lit.int .i64 a0_3).wf = true ∧ (Lit.int .u32 a0_4).wf = true ∧ IsRow .u32 W a0_6 len0_6 cap0_6 z0_6 ∧ IsRow .i64 W a0_7 len0_7 cap0_7 z0_7 ∧ (Lit.int .i64 a0_8).wf = true ∧ (Lit.int .i64 a0_9).wf = true ∧ (Lit.int .i64 a0_10).wf = true ∧ (Lit.int .i64 a0_11).wf = true ∧ (Lit.int .i64 a0_12).wf = true ∧ (Lit.int .u64 a0_13).wf = true ∧ IsRow .u64 W a0_15 len0_15 cap0_15 z0_15 ∧ (Lit.int .i64 a0_16).wf = true ∧ (Lit.int .i64 a0_17).wf = true ∧ (Lit.int .i64 a0_18).wf = true ∧ (Lit.int .i64 a0_19).wf = true := by
  obtain ⟨cs, rfl, hsz⟩ := okWide_struct Try.underlying41 hv
  obtain ⟨l⟩ := cs
  have hC : Try.prog.cellsOf 41 = 20 := by kernel_rfl
  match l, hsz.trans hC with
  | [v0, v1, v2, v3, v4, v5, v6, v7, v8, v9, v10, v11, v12, v13, v14, v15, v16, v17, v18, v19], _ =>
    obtain ⟨fuel, hf⟩ := h
    replace hf : DataW.trod enc Try.prog W 0 (fun _ => true) true fuel 41 [v0, v1, v2, v3, v4, v5, v6, v7, v8, v9, v10, v11, v12, v13, v14, v15, v16, v17, v18, v19] = some (d, p) := hf
    obtain ⟨xs0, n0, _, _, _, hlen0, hg0⟩ := DataW.trod_struct Try.underlying41 hf
    have g0_0 : DataW.trod enc Try.prog W 0 (fun _ => true) true n0 34 [v0, v1, v2] = xs0[0]? := hg0 0 _ rfl
    obtain ⟨y0_0, hy0_0⟩ : ∃ y, xs0[0]? = some y := ⟨xs0[0]'(by rw [hlen0]; decide), List.getElem?_eq_getElem _⟩
    rw [hy0_0] at g0_0
    have g0_1 : DataW.trod enc Try.prog W 0 (fun _ => true) true n0 38 [v3, v4, v5, v6, v7] = xs0[1]? := hg0 1 _ rfl
    obtain ⟨y0_1, hy0_1⟩ : ∃ y, xs0[1]? = some y := ⟨xs0[1]'(by rw [hlen0]; decide), List.getElem?_eq_getElem _⟩
    rw [hy0_1] at g0_1
    have g0_2 : DataW.trod enc Try.prog W 0 (fun _ => true) true n0 3 [v8] = xs0[2]? := hg0 2 _ rfl
    obtain ⟨y0_2, hy0_2⟩ : ∃ y, xs0[2]? = some y := ⟨xs0[2]'(by rw [hlen0]; decide), List.getElem?_eq_getElem _⟩
    rw [hy0_2] at g0_2
    have g0_3 : DataW.trod enc Try.prog W 0 (fun _ => true) true n0 3 [v9] = xs0[3]? := hg0 3 _ rfl
    obtain ⟨y0_3, hy0_3⟩ : ∃ y, xs0[3]? = some y := ⟨xs0[3]'(by rw [hlen0]; decide), List.getElem?_eq_getElem _⟩
    rw [hy0_3] at g0_3
    have g0_4 : DataW.trod enc Try.prog W 0 (fun _ => true) true n0 3 [v10] = xs0[4]? := hg0 4 _ rfl
    obtain ⟨y0_4, hy0_4⟩ : ∃ y, xs0[4]? = some y := ⟨xs0[4]'(by rw [hlen0]; decide), List.getElem?_eq_getElem _⟩
    rw [hy0_4] at g0_4
    have g0_5 : DataW.trod enc Try.prog W 0 (fun _ => true) true n0 3 [v11] = xs0[5]? := hg0 5 _ rfl
    obtain ⟨y0_5, hy0_5⟩ : ∃ y, xs0[5]? = some y := ⟨xs0[5]'(by rw [hlen0]; decide), List.getElem?_eq_getElem _⟩
    rw [hy0_5] at g0_5
    have g0_6 : DataW.trod enc Try.prog W 0 (fun _ => true) true n0 3 [v12] = xs0[6]? := hg0 6 _ rfl
    obtain ⟨y0_6, hy0_6⟩ : ∃ y, xs0[6]? = some y := ⟨xs0[6]'(by rw [hlen0]; decide), List.getElem?_eq_getElem _⟩
    rw [hy0_6] at g0_6
    have g0_7 : DataW.trod enc Try.prog W 0 (fun _ => true) true n0 39 [v13] = xs0[7]? := hg0 7 _ rfl
    obtain ⟨y0_7, hy0_7⟩ : ∃ y, xs0[7]? = some y := ⟨xs0[7]'(by rw [hlen0]; decide), List.getElem?_eq_getElem _⟩
    rw [hy0_7] at g0_7
    have g0_8 : DataW.trod enc Try.prog W 0 (fun _ => true) true n0 4 [v14] = xs0[8]? := hg0 8 _ rfl
    obtain ⟨y0_8, hy0_8⟩ : ∃ y, xs0[8]? = some y := ⟨xs0[8]'(by rw [hlen0]; decide), List.getElem?_eq_getElem _⟩
    rw [hy0_8] at g0_8
    have g0_9 : DataW.trod enc Try.prog W 0 (fun _ => true) true n0 28 [v15] = xs0[9]? := hg0 9 _ rfl
    obtain ⟨y0_9, hy0_9⟩ : ∃ y, xs0[9]? = some y := ⟨xs0[9]'(by rw [hlen0]; decide), List.getElem?_eq_getElem _⟩
    rw [hy0_9] at g0_9
    have g0_10 : DataW.trod enc Try.prog W 0 (fun _ => true) true n0 3 [v16] = xs0[10]? := hg0 10 _ rfl
    obtain ⟨y0_10, hy0_10⟩ : ∃ y, xs0[10]? = some y := ⟨xs0[10]'(by rw [hlen0]; decide), List.getElem?_eq_getElem _⟩
    rw [hy0_10] at g0_10
    have g0_11 : DataW.trod enc Try.prog W 0 (fun _ => true) true n0 3 [v17] = xs0[11]? := hg0 11 _ rfl
    obtain ⟨y0_11, hy0_11⟩ : ∃ y, xs0[11]? = some y := ⟨xs0[11]'(by rw [hlen0]; decide), List.getElem?_eq_getElem _⟩
    rw [hy0_11] at g0_11
    have g0_12 : DataW.trod enc Try.prog W 0 (fun _ => true) true n0 3 [v18] = xs0[12]? := hg0 12 _ rfl
    obtain ⟨y0_12, hy0_12⟩ : ∃ y, xs0[12]? = some y := ⟨xs0[12]'(by rw [hlen0]; decide), List.getElem?_eq_getElem _⟩
    rw [hy0_12] at g0_12
    have g0_13 : DataW.trod enc Try.prog W 0 (fun _ => true) true n0 3 [v19] = xs0[13]? := hg0 13 _ rfl
    obtain ⟨y0_13, hy0_13⟩ : ∃ y, xs0[13]? = some y := ⟨xs0[13]'(by rw [hlen0]; decide), List.getElem?_eq_getElem _⟩
    rw [hy0_13] at g0_13
    obtain ⟨xs1, n1, _, _, _, hlen1, hg1⟩ := DataW.trod_struct Try.underlying34 g0_0
    have g0_0_0 : DataW.trod enc Try.prog W 0 (fun _ => true) true n1 3 [v0] = xs1[0]? := hg1 0 _ rfl
    obtain ⟨y0_0_0, hy0_0_0⟩ : ∃ y, xs1[0]? = some y := ⟨xs1[0]'(by rw [hlen1]; decide), List.getElem?_eq_getElem _⟩
    rw [hy0_0_0] at g0_0_0
    have g0_0_1 : DataW.trod enc Try.prog W 0 (fun _ => true) true n1 22 [v1] = xs1[1]? := hg1 1 _ rfl
    obtain ⟨y0_0_1, hy0_0_1⟩ : ∃ y, xs1[1]? = some y := ⟨xs1[1]'(by rw [hlen1]; decide), List.getElem?_eq_getElem _⟩
    rw [hy0_0_1] at g0_0_1
    have g0_0_2 : DataW.trod enc Try.prog W 0 (fun _ => true) true n1 32 [v2] = xs1[2]? := hg1 2 _ rfl
    obtain ⟨y0_0_2, hy0_0_2⟩ : ∃ y, xs1[2]? = some y := ⟨xs1[2]'(by rw [hlen1]; decide), List.getElem?_eq_getElem _⟩
    rw [hy0_0_2] at g0_0_2
    obtain ⟨a0_0, e0_0, _, w0_0⟩ := DataW.trod_int Try.underlying3 g0_0_0
    simp at e0_0
    obtain ⟨a0_1, e0_1, _, w0_1⟩ := DataW.trod_int Try.underlying22 g0_0_1
    simp at e0_1
    obtain ⟨a0_2, len0_2, cap0_2, z0_2, e0_2, w0_2⟩ : ∃ a len cap zs, v2 = .slice a len cap ∧ IsRow .u32 W a len cap zs := by
      rcases open_ints Try.underlying32 Try.underlying22 (by kernel_rfl) g0_0_2 with ⟨hcs, _⟩ | ⟨x, l, c, zs, hcs, _, hl, hm, hz, _, hcell, hwz⟩
      · simp at hcs
        exact ⟨none, 0, 0, [], hcs, .inl ⟨rfl, rfl, rfl, rfl⟩⟩
      · simp at hcs
        exact ⟨some x, l, c, zs, hcs, .inr ⟨_, rfl, hl, hm, by simpa using hz, hcell, hwz⟩⟩
    obtain ⟨xs2, n2, _, _, _, hlen2, hg2⟩ := DataW.trod_struct Try.underlying38 g0_1
    have g0_1_0 : DataW.trod enc Try.prog W 0 (fun _ => true) true n2 35 [v3] = xs2[0]? := hg2 0 _ rfl
    obtain ⟨y0_1_0, hy0_1_0⟩ : ∃ y, xs2[0]? = some y := ⟨xs2[0]'(by rw [hlen2]; decide), List.getElem?_eq_getElem _⟩
    rw [hy0_1_0] at g0_1_0
    have g0_1_1 : DataW.trod enc Try.prog W 0 (fun _ => true) true n2 22 [v4] = xs2[1]? := hg2 1 _ rfl
    obtain ⟨y0_1_1, hy0_1_1⟩ : ∃ y, xs2[1]? = some y := ⟨xs2[1]'(by rw [hlen2]; decide), List.getElem?_eq_getElem _⟩
    rw [hy0_1_1] at g0_1_1
    have g0_1_2 : DataW.trod enc Try.prog W 0 (fun _ => true) true n2 4 [v5] = xs2[2]? := hg2 2 _ rfl
    obtain ⟨y0_1_2, hy0_1_2⟩ : ∃ y, xs2[2]? = some y := ⟨xs2[2]'(by rw [hlen2]; decide), List.getElem?_eq_getElem _⟩
    rw [hy0_1_2] at g0_1_2
    have g0_1_3 : DataW.trod enc Try.prog W 0 (fun _ => true) true n2 32 [v6] = xs2[3]? := hg2 3 _ rfl
    obtain ⟨y0_1_3, hy0_1_3⟩ : ∃ y, xs2[3]? = some y := ⟨xs2[3]'(by rw [hlen2]; decide), List.getElem?_eq_getElem _⟩
    rw [hy0_1_3] at g0_1_3
    have g0_1_4 : DataW.trod enc Try.prog W 0 (fun _ => true) true n2 36 [v7] = xs2[4]? := hg2 4 _ rfl
    obtain ⟨y0_1_4, hy0_1_4⟩ : ∃ y, xs2[4]? = some y := ⟨xs2[4]'(by rw [hlen2]; decide), List.getElem?_eq_getElem _⟩
    rw [hy0_1_4] at g0_1_4
    obtain ⟨a0_3, e0_3, _, w0_3⟩ := DataW.trod_int Try.underlying35 g0_1_0
    simp at e0_3
    obtain ⟨a0_4, e0_4, _, w0_4⟩ := DataW.trod_int Try.underlying22 g0_1_1
    simp at e0_4
    obtain ⟨a0_5, e0_5, _⟩ := DataW.trod_bool Try.underlying4 g0_1_2
    simp at e0_5
    obtain ⟨a0_6, len0_6, cap0_6, z0_6, e0_6, w0_6⟩ : ∃ a len cap zs, v6 = .slice a len cap ∧ IsRow .u32 W a len cap zs := by
      rcases open_ints Try.underlying32 Try.underlying22 (by kernel_rfl) g0_1_3 with ⟨hcs, _⟩ | ⟨x, l, c, zs, hcs, _, hl, hm, hz, _, hcell, hwz⟩
      · simp at hcs
        exact ⟨none, 0, 0, [], hcs, .inl ⟨rfl, rfl, rfl, rfl⟩⟩
      · simp at hcs
        exact ⟨some x, l, c, zs, hcs, .inr ⟨_, rfl, hl, hm, by simpa using hz, hcell, hwz⟩⟩
    obtain ⟨a0_7, len0_7, cap0_7, z0_7, e0_7, w0_7⟩ : ∃ a len cap zs, v7 = .slice a len cap ∧ IsRow .i64 W a len cap zs := by
      rcases open_ints Try.underlying36 Try.underlying35 (by kernel_rfl) g0_1_4 with ⟨hcs, _⟩ | ⟨x, l, c, zs, hcs, _, hl, hm, hz, _, hcell, hwz⟩
      · simp at hcs
        exact ⟨none, 0, 0, [], hcs, .inl ⟨rfl, rfl, rfl, rfl⟩⟩
      · simp at hcs
        exact ⟨some x, l, c, zs, hcs, .inr ⟨_, rfl, hl, hm, by simpa using hz, hcell, hwz⟩⟩
    obtain ⟨a0_8, e0_8, _, w0_8⟩ := DataW.trod_int Try.underlying3 g0_2
    simp at e0_8
    obtain ⟨a0_9, e0_9, _, w0_9⟩ := DataW.trod_int Try.underlying3 g0_3
    simp at e0_9
    obtain ⟨a0_10, e0_10, _, w0_10⟩ := DataW.trod_int Try.underlying3 g0_4
    simp at e0_10
    obtain ⟨a0_11, e0_11, _, w0_11⟩ := DataW.trod_int Try.underlying3 g0_5
    simp at e0_11
    obtain ⟨a0_12, e0_12, _, w0_12⟩ := DataW.trod_int Try.underlying3 g0_6
    simp at e0_12
    obtain ⟨a0_13, e0_13, _, w0_13⟩ := DataW.trod_int Try.underlying39 g0_7
    simp at e0_13
    obtain ⟨a0_14, e0_14, _⟩ := DataW.trod_bool Try.underlying4 g0_8
    simp at e0_14
    obtain ⟨a0_15, len0_15, cap0_15, z0_15, e0_15, w0_15⟩ : ∃ a len cap zs, v15 = .slice a len cap ∧ IsRow .u64 W a len cap zs := by
      rcases open_ints Try.underlying28 Try.underlying39 (by kernel_rfl) g0_9 with ⟨hcs, _⟩ | ⟨x, l, c, zs, hcs, _, hl, hm, hz, _, hcell, hwz⟩
      · simp at hcs
        exact ⟨none, 0, 0, [], hcs, .inl ⟨rfl, rfl, rfl, rfl⟩⟩
      · simp at hcs
        exact ⟨some x, l, c, zs, hcs, .inr ⟨_, rfl, hl, hm, by simpa using hz, hcell, hwz⟩⟩
    obtain ⟨a0_16, e0_16, _, w0_16⟩ := DataW.trod_int Try.underlying3 g0_10
    simp at e0_16
    obtain ⟨a0_17, e0_17, _, w0_17⟩ := DataW.trod_int Try.underlying3 g0_11
    simp at e0_17
    obtain ⟨a0_18, e0_18, _, w0_18⟩ := DataW.trod_int Try.underlying3 g0_12
    simp at e0_18
    obtain ⟨a0_19, e0_19, _, w0_19⟩ := DataW.trod_int Try.underlying3 g0_13
    simp at e0_19
    subst e0_0; subst e0_1; subst e0_2; subst e0_3; subst e0_4; subst e0_5; subst e0_6; subst e0_7; subst e0_8; subst e0_9; subst e0_10; subst e0_11; subst e0_12; subst e0_13; subst e0_14; subst e0_15; subst e0_16; subst e0_17; subst e0_18; subst e0_19
    exact ⟨a0_0, a0_1, a0_2, len0_2, cap0_2, z0_2, a0_3, a0_4, a0_5, a0_6, len0_6, cap0_6, z0_6, a0_7, len0_7, cap0_7, z0_7, a0_8, a0_9, a0_10, a0_11, a0_12, a0_13, a0_14, a0_15, len0_15, cap0_15, z0_15, a0_16, a0_17, a0_18, a0_19, rfl, w0_0, w0_1, w0_2, w0_3, w0_4, w0_6, w0_7, w0_8, w0_9, w0_10, w0_11, w0_12, w0_13, w0_15, w0_16, w0_17, w0_18, w0_19⟩
set_option maxRecDepth 100000 in
theorem lifted (os : Os) (started : os.Started) (H : Type) (enc : TypeId × Value → H) :
    ReturnsInHanded {} Try.checked os 5 .any (Rows.seekStaysSpec.pre6 enc Try.prog Try.f5 Rows.seekStaysRow.domain false) (Rows.seekStaysSpec.post enc Try.prog Try.f5 false true false false) := by
  refine returnsInHanded_of_change_sized (C := Try.checked) own started (by kernel_rfl) Try.func5
    (ChangeSpec.witness6 (enc := enc) (C := Try.checked) false ⟨#[], #[.agg #[.int .u32 0, .int .i64 0, .slice none 0 0, .int .i64 0, .int .i64 0, .int .i64 0, .int .i64 0], .slice none 0 0, .agg #[.int .i64 0, .int .u32 0, .slice none 0 0, .int .i64 0, .int .u32 0, .bool false, .slice none 0 0, .slice none 0 0, .int .i64 0, .int .i64 0, .int .i64 0, .int .i64 0, .int .i64 0, .int .u64 0, .bool false, .slice none 0 0, .int .i64 0, .int .i64 0, .int .i64 0, .int .i64 0]], []⟩ 8 (by kernel_rfl) (by kernel_rfl) (by kernel_rfl) (by kernel_rfl)) ?_
  intro W base args ds gs before hval0 hW hcnd hsz0 _
  have hsz : (DataW.weightsEach Try.prog (Try.f5.params.toList ++ Rows.seekStaysSpec.plain.varTypes Try.prog) (ds ++ gs)).all (· ≤ reachBytes) = true := hsz0
  have hval : ∀ (j : Nat) t v, Try.f5.params[j]? = some t → args[j]? = some v → Value.okWide Try.prog W .any base t v := hval0
  have hW' := hW
  obtain ⟨p, q, hA0, hV, rfl, hfz, hnd⟩ := hW
  have hA : DataW.TrodAll enc Try.prog W 0 (fun _ => true) true Try.f5.params.toList args.toList ds p := hA0
  rw [Try.params5] at hA hval hsz
  obtain ⟨v0, vs0, d0, ds0, p0, q0, hargs, rfl, rfl, h0, r0⟩ := trodAll_cons hA
  obtain ⟨v1, vs1, d1, ds1, p1, q1, rfl, rfl, rfl, h1, r1⟩ := trodAll_cons r0
  obtain ⟨v2, vs2, d2, ds2, p2, q2, rfl, rfl, rfl, h2, r2⟩ := trodAll_cons r1
  obtain ⟨rfl, rfl, rfl⟩ := trodAll_nil r2
  obtain rfl : args = #[v0, v1, v2] := by cases args; simp_all
  obtain ⟨rfl, rfl⟩ := trodVars_none hV
  have k0 := h0
  have lt0 : ∀ x ∈ p0, x.block < W.heap.size := by obtain ⟨m, hm⟩ := k0; exact DataW.trod_lt m _ _ _ hm
  obtain ⟨a0_0, a0_1, a0_2, len0_2, cap0_2, z0_2, a0_3, a0_4, a0_5, a0_6, rfl, w0_0, w0_1, w0_2, w0_3, w0_4, w0_5, w0_6⟩ := opens27 (hval 0 27 v0 rfl rfl) h0
  obtain ⟨a1, len1, cap1, rfl⟩ := okWide_slice Try.underlying28 (hval 1 28 v1 rfl rfl)
  have k1 := h1
  have lt1 : ∀ x ∈ p1, x.block < W.heap.size := by obtain ⟨m, hm⟩ := k1; exact DataW.trod_lt m _ _ _ hm
  obtain ⟨z1, w1⟩ : ∃ zs, IsRow .u64 W a1 len1 cap1 zs := by
    obtain ⟨fuel, hf⟩ := h1
    rcases open_ints Try.underlying28 Try.underlying39 (by kernel_rfl) hf with ⟨hcs, _⟩ | ⟨x, l, c, zs, hcs, _, hl, hm, hz, _, hcell, hwz⟩
    · simp [Value.cells] at hcs
      obtain ⟨rfl, rfl, rfl⟩ := hcs
      exact ⟨[], .inl ⟨rfl, rfl, rfl, rfl⟩⟩
    · simp [Value.cells] at hcs
      obtain ⟨rfl, rfl, rfl⟩ := hcs
      exact ⟨zs, .inr ⟨_, rfl, hl, hm, by simpa using hz, hcell, hwz⟩⟩
  have y1 : len1 * 8 ≤ 140737488351232 := Go.Proofs.YtfhjeneegfmngaaW.PrintWords.sized_ints hsz (j := 1) (t := 28) rfl rfl Try.underlying28 Try.underlying39 (by kernel_rfl) (by kernel_rfl) h1
  have k2 := h2
  have lt2 : ∀ x ∈ p2, x.block < W.heap.size := by obtain ⟨m, hm⟩ := k2; exact DataW.trod_lt m _ _ _ hm
  obtain ⟨a2_0, a2_1, a2_2, len2_2, cap2_2, z2_2, a2_3, a2_4, a2_5, a2_6, len2_6, cap2_6, z2_6, a2_7, len2_7, cap2_7, z2_7, a2_8, a2_9, a2_10, a2_11, a2_12, a2_13, a2_14, a2_15, len2_15, cap2_15, z2_15, a2_16, a2_17, a2_18, a2_19, rfl, w2_0, w2_1, w2_2, w2_3, w2_4, w2_6, w2_7, w2_8, w2_9, w2_10, w2_11, w2_12, w2_13, w2_15, w2_16, w2_17, w2_18, w2_19⟩ := opens41 (hval 2 41 v2 rfl rfl) h2
  clear hA0 hval0 hsz0 hsz
  refine (PSeekStays.lodgerlaw15_SeekStays.walk Pure.SeekStays a0_0 a0_1 a0_2 len0_2 cap0_2 z0_2 a0_3 a0_4 a0_5 a0_6 a1 len1 cap1 z1 a2_0 a2_1 a2_2 len2_2 cap2_2 z2_2 a2_3 a2_4 a2_5 a2_6 len2_6 cap2_6 z2_6 a2_7 len2_7 cap2_7 z2_7 a2_8 a2_9 a2_10 a2_11 a2_12 a2_13 a2_14 a2_15 len2_15 cap2_15 z2_15 a2_16 a2_17 a2_18 a2_19 W w0_0 w0_1 w0_2 w0_3 w0_4 w0_5 w0_6 w1 y1 w2_0 w2_1 w2_2 w2_3 w2_4 w2_6 w2_7 w2_8 w2_9 w2_10 w2_11 w2_12 w2_13 w2_15 w2_16 w2_17 w2_18 w2_19).mono fun e W' ⟨he, bel⟩ => ?_
  subst he
  exact ⟨_, rfl, _, _, _, [], _, [], hW', trodAll_mk1 (shut_bool Try.underlying4 _), (trodAll_cons_mk (Below.trod laidOut (by kernel_rfl) (of_decide_eq_true (by kernel_rfl)) k0 bel lt0) (trodAll_cons_mk (Below.trod laidOut (by kernel_rfl) (of_decide_eq_true (by kernel_rfl)) k1 bel lt1) (trodAll_cons_mk (Below.trod laidOut (by kernel_rfl) (of_decide_eq_true (by kernel_rfl)) k2 bel lt2) trodAll_mk0))), rfl, bel.frame _, fun h => by cases h⟩
theorem over : Rows.seekStaysRow.holds Try.pinned (OpenSpec.ofChange Rows.seekStaysSpec) :=
  OpenClaim.holds_of_wide 5 Try.f5 rfl rfl rfl rfl rfl rfl rfl ⟨rfl, rfl, rfl, rfl, rfl⟩ rfl rfl rfl rfl rfl (by kernel_rfl) Try.func5 (by kernel_rfl)
    (of_decide_eq_true (by kernel_rfl)) (by unfold Func.isWrapper; first | (rw [if_pos (by decide +kernel)]; kernel_rfl) | (rw [if_neg (by decide +kernel)]; exact ⟨rfl, rfl⟩))
    (fun os started H enc _ => lifted os started H enc)
theorem proved : Rows.SeekStaysSaid := over
#print axioms proved
end Go.Proofs.Ytfhjeneegfmngaa.seekStays
namespace Go.Proofs.Ytfhjeneegfmngaa
/-- The row, under a short name, for the claim. -/
theorem seekStays_holds : Rows.SeekStaysSaid := seekStays.proved
end Go.Proofs.Ytfhjeneegfmngaa
