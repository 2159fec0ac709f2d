/- SpecBack: the row of the statement, joined out of its walk and its plain law; no condition. -/
import Derived.Test.YtkiimboedgnoiaaDoorRows
import Derived.Test.YtkiimboedgnoiaaDoorQSpecBackx14
import Derived.Test.YtkiimboedgnoiaaDoorPureSpecBack
import Derived.WalkKit
import Derived.LaidLaws
import Derived.LaidMore
import Derived.LaidOnce
import Derived.WideKeyElems2
import Derived.Maps.Own
import Derived.MakeChecks
import Derived.SevenTiedAt
import Derived.Test.YtkiimboedgnoiaaDoorTie
import Derived.Test.YtkiimboedgnoiaaDoorCards
import Derived.ProofKit
import Derived.OpenShut
import Derived.ShutString
import Derived.ChangeOld
import Derived.Below
import Derived.SizedLaws
import Derived.Test.YtkiimboedgnoiaaDoorWSized
namespace Go.Proofs.YtkiimboedgnoiaaDoor.specBack
open Go.ChangeShapes Go.WideShapes Go.ChangeAt Go.RowKit
open Go.ChangeMaps (open_string shut_string)
set_option linter.unusedVariables false
theorem own : ownKnob Tryd.prog.godebug = none := by kernel_rfl
theorem laidOut : laidOutB Tryd.prog = true := by kernel_rfl
def IsRow (k : IntKind) (w : World) (a : Option Addr) (len cap : Nat) (zs : List Int) : Prop :=
  (a = none ∧ len = 0 ∧ cap = 0 ∧ zs = []) ∨
  ∃ x, a = some x ∧ len ≤ cap ∧ cap ≤ maxLen ∧ zs.length = cap ∧ (∀ i, i < zs.length → w.cell? (x.add i) = some (.int k (zs.getD i 0))) ∧ ∀ n ∈ zs, (Lit.int k n).wf = true
set_option maxRecDepth 100000 in
theorem opens27 {H : Type} {enc : TypeId × Value → H} {W : World} {r : Reach} {b0 : Nat} {v : Value} {d : DataW H} {p : List MemPlace} (hv : Value.okWide Tryd.prog W r b0 27 v) (h : DataW.Trod enc Tryd.prog W 0 (fun _ => true) true 27 v d p) :
    ∃ (a0_0 : Int) (a0_1 : Int) (a0_2 : Option Addr) (len0_2 cap0_2 : Nat) (z0_2 : List Int) (a0_3 : Int) (a0_4 : Int) (a0_5 : Int) (a0_6 : Int), v = .agg #[.int .u32 a0_0, .int .i64 a0_1, .slice a0_2 len0_2 cap0_2, .int .i64 a0_3, .int .i64 a0_4, .int .i64 a0_5, .int .i64 a0_6] ∧ (Lit.int .u32 a0_0).wf = true ∧ (Lit.int .i64 a0_1).wf = true ∧ IsRow .i64 W a0_2 len0_2 cap0_2 z0_2 ∧ (Lit.int .i64 a0_3).wf = true ∧ (Lit.int .i64 a0_4).wf = true ∧ (Lit.int .i64 a0_5).wf = true ∧ (Lit.int .i64 a0_6).wf = true := by
  obtain ⟨cs, rfl, hsz⟩ := okWide_struct Tryd.underlying27 hv
  obtain ⟨l⟩ := cs
  have hC : Tryd.prog.cellsOf 27 = 7 := by kernel_rfl
  match l, hsz.trans hC with
  | [v0, v1, v2, v3, v4, v5, v6], _ =>
    obtain ⟨fuel, hf⟩ := h
    replace hf : DataW.trod enc Tryd.prog W 0 (fun _ => true) true fuel 27 [v0, v1, v2, v3, v4, v5, v6] = some (d, p) := hf
    obtain ⟨xs0, n0, _, _, _, hlen0, hg0⟩ := DataW.trod_struct Tryd.underlying27 hf
    have g0_0 : DataW.trod enc Tryd.prog W 0 (fun _ => true) true n0 24 [v0, v1] = xs0[0]? := hg0 0 _ rfl
    obtain ⟨y0_0, hy0_0⟩ : ∃ y, xs0[0]? = some y := ⟨xs0[0]'(by rw [hlen0]; decide), List.getElem?_eq_getElem _⟩
    rw [hy0_0] at g0_0
    have g0_1 : DataW.trod enc Tryd.prog W 0 (fun _ => true) true n0 25 [v2] = xs0[1]? := hg0 1 _ rfl
    obtain ⟨y0_1, hy0_1⟩ : ∃ y, xs0[1]? = some y := ⟨xs0[1]'(by rw [hlen0]; decide), List.getElem?_eq_getElem _⟩
    rw [hy0_1] at g0_1
    have g0_2 : DataW.trod enc Tryd.prog W 0 (fun _ => true) true n0 3 [v3] = xs0[2]? := hg0 2 _ rfl
    obtain ⟨y0_2, hy0_2⟩ : ∃ y, xs0[2]? = some y := ⟨xs0[2]'(by rw [hlen0]; decide), List.getElem?_eq_getElem _⟩
    rw [hy0_2] at g0_2
    have g0_3 : DataW.trod enc Tryd.prog W 0 (fun _ => true) true n0 3 [v4] = xs0[3]? := hg0 3 _ rfl
    obtain ⟨y0_3, hy0_3⟩ : ∃ y, xs0[3]? = some y := ⟨xs0[3]'(by rw [hlen0]; decide), List.getElem?_eq_getElem _⟩
    rw [hy0_3] at g0_3
    have g0_4 : DataW.trod enc Tryd.prog W 0 (fun _ => true) true n0 3 [v5] = xs0[4]? := hg0 4 _ rfl
    obtain ⟨y0_4, hy0_4⟩ : ∃ y, xs0[4]? = some y := ⟨xs0[4]'(by rw [hlen0]; decide), List.getElem?_eq_getElem _⟩
    rw [hy0_4] at g0_4
    have g0_5 : DataW.trod enc Tryd.prog W 0 (fun _ => true) true n0 3 [v6] = xs0[5]? := hg0 5 _ rfl
    obtain ⟨y0_5, hy0_5⟩ : ∃ y, xs0[5]? = some y := ⟨xs0[5]'(by rw [hlen0]; decide), List.getElem?_eq_getElem _⟩
    rw [hy0_5] at g0_5
    obtain ⟨xs1, n1, _, _, _, hlen1, hg1⟩ := DataW.trod_struct Tryd.underlying24 g0_0
    have g0_0_0 : DataW.trod enc Tryd.prog W 0 (fun _ => true) true n1 22 [v0] = xs1[0]? := hg1 0 _ rfl
    obtain ⟨y0_0_0, hy0_0_0⟩ : ∃ y, xs1[0]? = some y := ⟨xs1[0]'(by rw [hlen1]; decide), List.getElem?_eq_getElem _⟩
    rw [hy0_0_0] at g0_0_0
    have g0_0_1 : DataW.trod enc Tryd.prog W 0 (fun _ => true) true n1 3 [v1] = xs1[1]? := hg1 1 _ rfl
    obtain ⟨y0_0_1, hy0_0_1⟩ : ∃ y, xs1[1]? = some y := ⟨xs1[1]'(by rw [hlen1]; decide), List.getElem?_eq_getElem _⟩
    rw [hy0_0_1] at g0_0_1
    obtain ⟨a0_0, e0_0, _, w0_0⟩ := DataW.trod_int Tryd.underlying22 g0_0_0
    simp at e0_0
    obtain ⟨a0_1, e0_1, _, w0_1⟩ := DataW.trod_int Tryd.underlying3 g0_0_1
    simp at e0_1
    obtain ⟨a0_2, len0_2, cap0_2, z0_2, e0_2, w0_2⟩ : ∃ a len cap zs, v2 = .slice a len cap ∧ IsRow .i64 W a len cap zs := by
      rcases open_ints Tryd.underlying25 Tryd.underlying3 (by kernel_rfl) g0_1 with ⟨hcs, _⟩ | ⟨x, l, c, zs, hcs, _, hl, hm, hz, _, hcell, hwz⟩
      · simp at hcs
        exact ⟨none, 0, 0, [], hcs, .inl ⟨rfl, rfl, rfl, rfl⟩⟩
      · simp at hcs
        exact ⟨some x, l, c, zs, hcs, .inr ⟨_, rfl, hl, hm, by simpa using hz, hcell, hwz⟩⟩
    obtain ⟨a0_3, e0_3, _, w0_3⟩ := DataW.trod_int Tryd.underlying3 g0_2
    simp at e0_3
    obtain ⟨a0_4, e0_4, _, w0_4⟩ := DataW.trod_int Tryd.underlying3 g0_3
    simp at e0_4
    obtain ⟨a0_5, e0_5, _, w0_5⟩ := DataW.trod_int Tryd.underlying3 g0_4
    simp at e0_5
    obtain ⟨a0_6, e0_6, _, w0_6⟩ := DataW.trod_int Tryd.underlying3 g0_5
    simp at e0_6
    subst e0_0; subst e0_1; subst e0_2; subst e0_3; subst e0_4; subst e0_5; subst e0_6
    exact ⟨a0_0, a0_1, a0_2, len0_2, cap0_2, z0_2, a0_3, a0_4, a0_5, a0_6, rfl, w0_0, w0_1, w0_2, w0_3, w0_4, w0_5, w0_6⟩
abbrev laid0 : List (String × DataW Unit) := [("lodger/ask.single", Rows.laid_lodger_ask_single), ("lodger/spec.deeds", Rows.laid_lodger_spec_deeds)]
theorem door_met (os : Os) (args : Array Value) : laidMetH Tryd.prog laid0 ((World.doorLaid Tryd.prog 54 os).forCall (fun _ _ => 0) ⟨#[], args, []⟩).memory :=
  laidMetH_of_parts3 (fuel := 8) (laidMet_of_run' 8 (by kernel_rfl) (by kernel_rfl)) (by kernel_rfl) (by kernel_rfl)
theorem cells6 : Tryd.prog.cellsOf 76 = 6 := by kernel_rfl
theorem cells1 : Tryd.prog.cellsOf 4 = 1 := by kernel_rfl
theorem Ls_of_laid {W : World} (h : laidMet Tryd.prog [("lodger/ask.single", Rows.laid_lodger_ask_single)] W) : PSpecBack.Ls W := by
  obtain ⟨ps, ⟨g, t, cs, fuel, p, q, hg, ht, hvar, hd, _, _⟩, _⟩ := h
  obtain rfl := Option.some.inj ((show Tryd.prog.globalNamed "lodger/ask.single" = some 1 by kernel_rfl).symm.trans hg)
  obtain rfl := Option.some.inj ((show (Tryd.prog.globals[1]?).map (·.type) = some 76 by kernel_rfl).symm.trans ht)
  have hcs : cs = #[.bool false, .bool false, .bool true, .bool true, .bool false, .bool true] := by
    obtain ⟨l⟩ := cs
    cases fuel with
    | zero => simp [DataW.trod] at hd
    | succ fuel =>
      simp only [DataW.trod, Tryd.underlying76, cells6, cells1] at hd
      split at hd
      · rename_i hl
        obtain ⟨c0, c1, c2, c3, c4, c5, rfl⟩ : ∃ c0 c1 c2 c3 c4 c5, l = [c0, c1, c2, c3, c4, c5] := by
          match l, hl with
          | [a, b, c, d, e, f], _ => exact ⟨a, b, c, d, e, f, rfl⟩
        have e : List.range 6 = [0, 1, 2, 3, 4, 5] := rfl
        rw [e] at hd
        simp only [Option.map_eq_some_iff, List.mapM_cons, List.mapM_nil, Option.bind_eq_bind, Option.bind_eq_some_iff, Option.pure_def, Option.some.injEq] at hd
        obtain ⟨xs, ⟨y0, h0, _, ⟨y1, h1, _, ⟨y2, h2, _, ⟨y3, h3, _, ⟨y4, h4, _, ⟨y5, h5, _, rfl, rfl⟩, rfl⟩, rfl⟩, rfl⟩, rfl⟩, rfl⟩, hx⟩ := hd
        obtain ⟨n0, e0, rfl⟩ := DataW.trod_bool Tryd.underlying4 h0
        obtain ⟨n1, e1, rfl⟩ := DataW.trod_bool Tryd.underlying4 h1
        obtain ⟨n2, e2, rfl⟩ := DataW.trod_bool Tryd.underlying4 h2
        obtain ⟨n3, e3, rfl⟩ := DataW.trod_bool Tryd.underlying4 h3
        obtain ⟨n4, e4, rfl⟩ := DataW.trod_bool Tryd.underlying4 h4
        obtain ⟨n5, e5, rfl⟩ := DataW.trod_bool Tryd.underlying4 h5
        simp at e0 e1 e2 e3 e4 e5
        subst e0; subst e1; subst e2; subst e3; subst e4; subst e5
        simp [Rows.laid_lodger_ask_single] at hx
        obtain ⟨⟨rfl, rfl, rfl, rfl, rfl, rfl⟩, _⟩ := hx
        rfl
      · cases hd
  subst hcs
  intro i hi
  have := World.var?_cell hg hvar i
  rw [this]
  match i, hi with
  | 0, _ | 1, _ | 2, _ | 3, _ | 4, _ | 5, _ => rfl
theorem func_of_elemAt {P : Program} {w : World} {n : Nat} {t : TypeId} {ps rs : Array TypeId} {va : Bool} {v : Value} {b : UInt8} {r : List UInt8} {q : List MemPlace} {f0 : FuncId}
    (ht : P.underlying t = some (.func ps rs va)) (hone : ((List.range P.funcs.size).filter fun f => (P.funcs[f]?).any (·.name.toUTF8.data.toList == b :: r)) = [f0])
    (h : WideElems.elemAt (funcToken P) P w 0 (fun _ => true) true n t v = some (.held (b :: r), q)) : v = .func (.func f0) #[] #[] := by
  unfold WideElems.elemAt at h
  split at h
  · rename_i hf
    have hc : v.cells.toList = [v] := by cases v <;> simp_all [Value.formed, Value.cells]
    rw [hc] at h
    exact func_of_trod ht hone h
  · cases h
theorem zero_func (V : World) : ∃ z, (zeroValue 42).run Tryd.prog V = .ok z V := ⟨_, rfl⟩
abbrev deedsD : List (Lit × DataW (List UInt8)) := [(.int .i64 1, .held [108, 111, 100, 103, 101, 114, 47, 115, 112, 101, 99, 46, 108, 101, 97, 115, 116]), (.int .i64 2, .held [108, 111, 100, 103, 101, 114, 47, 115, 112, 101, 99, 46, 101, 120, 97, 99, 116]), (.int .i64 3, .held [108, 111, 100, 103, 101, 114, 47, 115, 112, 101, 99, 46, 114, 101, 108, 101, 97, 115, 101]), (.int .i64 4, .held [108, 111, 100, 103, 101, 114, 47, 115, 112, 101, 99, 46, 98, 97, 116, 99, 104]), (.int .i64 5, .held [108, 111, 100, 103, 101, 114, 47, 115, 112, 101, 99, 46, 113, 117, 101, 114, 121]), (.int .i64 6, .held [108, 111, 100, 103, 101, 114, 47, 115, 112, 101, 99, 46, 115, 110, 97, 112, 115, 104, 111, 116]), (.int .i64 7, .held [108, 111, 100, 103, 101, 114, 47, 115, 112, 101, 99, 46, 99, 108, 111, 115, 105, 110, 103])]
set_option maxRecDepth 100000 in
theorem Ld_of_laid {W : World} (h : laidMetH Tryd.prog laid0 W) : PSpecBack.Ld W := by
  obtain ⟨g, t, cs, fuel, p, hg, ht, hv, hd⟩ := h.funcs (n := "lodger/spec.deeds") (List.mem_cons_of_mem _ (List.mem_cons_self ..))
  obtain rfl := Option.some.inj ((show Tryd.prog.globalNamed "lodger/spec.deeds" = some 0 by kernel_rfl).symm.trans hg)
  obtain rfl := Option.some.inj ((show (Tryd.prog.globals[0]?).map (·.type) = some 65 by kernel_rfl).symm.trans ht)
  have hd' : DataW.trod (funcToken Tryd.prog) Tryd.prog W 0 (fun _ => true) true fuel 65 cs.toList = some (.map deedsD, p) := hd
  rcases WideElems.open_map Tryd.underlying65 hd' with ⟨_, hx⟩ | ⟨bm, es, clock, m, rfl, hcs, hb, _, F, hx⟩
  · simp at hx
  simp only [Prod.mk.injEq] at hx
  have hcell : W.cell? ⟨0, 0, none⟩ = some (.map (some bm)) := by
    have := World.var?_cell hg hv 0
    rw [Array.eq_one_of_toList hcs] at this
    simpa using this
  refine ⟨bm, es, clock, hcell, hb, fun V j f hV hm => ?_⟩
  have key : ∀ (j : Int) (b : UInt8) (r : List UInt8) (f0 : Nat), (Lit.int .i64 j).wf = true → (∀ zd, (DataW.map deedsD).atKey (.int .i64 j) zd = .held (b :: r)) → ((List.range Tryd.prog.funcs.size).filter fun f => (Tryd.prog.funcs[f]?).any (·.name.toUTF8.data.toList == b :: r)) = [f0] →
      (Instr.lookup 65 (.map (some bm)) (.int .i64 j) false).run Tryd.prog V = .ok (.func (.func f0) #[] #[]) V := by
    intro j b r f0 hw hat hone
    obtain ⟨z, hz⟩ := zero_func V
    rcases Maps.fit_look (w := V) false (Maps.int_keyed Tryd.underlying3) Tryd.underlying65 hz hV F (Maps.keyOf_int_mk Tryd.underlying3 hw) with ⟨_, _, h2⟩ | ⟨e0, y, _, _, hrun, hR, h2, _⟩
    · have h3 := h2 .nil
      rw [← hx.1, hat] at h3
      cases h3
    · have h3 := h2 .nil
      rw [← hx.1, hat] at h3
      obtain ⟨y1, y2⟩ := y
      simp only at h3
      subst h3
      rw [hrun, func_of_elemAt Tryd.underlying42 hone hR]
      rfl
  simp only [PSpecBack.deeds, List.mem_cons, List.not_mem_nil, or_false, Prod.mk.injEq] at hm
  rcases hm with ⟨rfl, rfl⟩ | ⟨rfl, rfl⟩ | ⟨rfl, rfl⟩ | ⟨rfl, rfl⟩ | ⟨rfl, rfl⟩ | ⟨rfl, rfl⟩ | ⟨rfl, rfl⟩
  · exact key 1 _ _ 74 (by decide) (fun _ => rfl) (by kernel_rfl)
  · exact key 2 _ _ 75 (by decide) (fun _ => rfl) (by kernel_rfl)
  · exact key 3 _ _ 76 (by decide) (fun _ => rfl) (by kernel_rfl)
  · exact key 4 _ _ 77 (by decide) (fun _ => rfl) (by kernel_rfl)
  · exact key 5 _ _ 78 (by decide) (fun _ => rfl) (by kernel_rfl)
  · exact key 6 _ _ 79 (by decide) (fun _ => rfl) (by kernel_rfl)
  · exact key 7 _ _ 80 (by decide) (fun _ => rfl) (by kernel_rfl)
theorem Lg_of_laid {W : World} (h : laidMetH Tryd.prog laid0 W) : PSpecBack.Lg W :=
  ⟨Ls_of_laid (show laidMet Tryd.prog _ W ∧ handlesMet Tryd.prog _ W from h).1, Ld_of_laid h⟩
set_option maxRecDepth 100000 in
theorem lifted (os : Os) (started : os.Started) (H : Type) (enc : TypeId × Value → H) :
    ReturnsInHanded {} Tryd.checked os 5 .any (fun w args => (Rows.specBackSpec.pre enc Tryd.prog Tryd.f5 [] false w args ∧ laidMetH Tryd.prog laid0 w) ∧ sizedMet enc Tryd.prog Tryd.f5 (OpenSpec.ofChange Rows.specBackSpec) false w args) (Rows.specBackSpec.post enc Tryd.prog Tryd.f5 false true false false) := by
  refine returnsInHanded_of_change_and (C := Tryd.checked) (X := fun w _ => laidMetH Tryd.prog laid0 w) (fun _ _ _ hh h => h.of_heap hh) own started (by kernel_rfl) Tryd.func5
    (ChangeSpec.witness_shaped (enc := enc) (C := Tryd.checked) (os := os) (X := fun w _ => laidMetH Tryd.prog laid0 w) false (World.doorLaid Tryd.prog 54 os) #[.agg #[.int .u32 0, .int .i64 0, .slice none 0 0, .int .i64 0, .int .i64 0, .int .i64 0, .int .i64 0], .slice none 0 0, .int .u32 0, .slice none 0 0] 8 rfl (World.shaped_of_RefB (by kernel_rfl) (by kernel_rfl)) (by kernel_rfl) (by kernel_rfl) (by kernel_rfl) (door_met os _)) ?_
  intro W base args ds gs before hval0 hW hcnd hsz0 hL _
  have hsz : (DataW.weightsEach Tryd.prog (Tryd.f5.params.toList ++ Rows.specBackSpec.plain.varTypes Tryd.prog) (ds ++ gs)).all (· ≤ reachBytes) = true := hsz0
  have hval : ∀ (j : Nat) t v, Tryd.f5.params[j]? = some t → args[j]? = some v → Value.okWide Tryd.prog W .any base t v := hval0
  have hW' := hW
  obtain ⟨p, q, hA0, hV, rfl, hfz, hnd⟩ := hW
  have hA : DataW.TrodAll enc Tryd.prog W 0 (fun _ => true) true Tryd.f5.params.toList args.toList ds p := hA0
  rw [Tryd.params5] at hA hval hsz
  obtain ⟨v0, vs0, d0, ds0, p0, q0, hargs, rfl, rfl, h0, r0⟩ := trodAll_cons hA
  obtain ⟨v1, vs1, d1, ds1, p1, q1, rfl, rfl, rfl, h1, r1⟩ := trodAll_cons r0
  obtain ⟨v2, vs2, d2, ds2, p2, q2, rfl, rfl, rfl, h2, r2⟩ := trodAll_cons r1
  obtain ⟨v3, vs3, d3, ds3, p3, q3, rfl, rfl, rfl, h3, r3⟩ := trodAll_cons r2
  obtain ⟨rfl, rfl, rfl⟩ := trodAll_nil r3
  obtain rfl : args = #[v0, v1, v2, v3] := by cases args; simp_all
  obtain ⟨rfl, rfl⟩ := trodVars_none hV
  have k0 := h0
  have lt0 : ∀ x ∈ p0, x.block < W.heap.size := by obtain ⟨m, hm⟩ := k0; exact DataW.trod_lt m _ _ _ hm
  obtain ⟨a0_0, a0_1, a0_2, len0_2, cap0_2, z0_2, a0_3, a0_4, a0_5, a0_6, rfl, w0_0, w0_1, w0_2, w0_3, w0_4, w0_5, w0_6⟩ := opens27 (hval 0 27 v0 rfl rfl) h0
  obtain ⟨a1, len1, cap1, rfl⟩ := okWide_slice Tryd.underlying25 (hval 1 25 v1 rfl rfl)
  have k1 := h1
  have lt1 : ∀ x ∈ p1, x.block < W.heap.size := by obtain ⟨m, hm⟩ := k1; exact DataW.trod_lt m _ _ _ hm
  obtain ⟨z1, w1⟩ : ∃ zs, IsRow .i64 W a1 len1 cap1 zs := by
    obtain ⟨fuel, hf⟩ := h1
    rcases open_ints Tryd.underlying25 Tryd.underlying3 (by kernel_rfl) hf with ⟨hcs, _⟩ | ⟨x, l, c, zs, hcs, _, hl, hm, hz, _, hcell, hwz⟩
    · simp [Value.cells] at hcs
      obtain ⟨rfl, rfl, rfl⟩ := hcs
      exact ⟨[], .inl ⟨rfl, rfl, rfl, rfl⟩⟩
    · simp [Value.cells] at hcs
      obtain ⟨rfl, rfl, rfl⟩ := hcs
      exact ⟨zs, .inr ⟨_, rfl, hl, hm, by simpa using hz, hcell, hwz⟩⟩
  have y1 : len1 * 8 ≤ 140737488351232 := Go.Proofs.YtkiimboedgnoiaaDoorW.PrintWords.sized_ints hsz (j := 1) (t := 25) rfl rfl Tryd.underlying25 Tryd.underlying3 (by kernel_rfl) (by kernel_rfl) h1
  obtain ⟨a2, rfl, rfl, rfl, w2⟩ := open_int Tryd.underlying22 (hval 2 22 v2 rfl rfl) h2
  obtain ⟨a3, len3, cap3, rfl⟩ := okWide_slice Tryd.underlying28 (hval 3 28 v3 rfl rfl)
  have k3 := h3
  have lt3 : ∀ x ∈ p3, x.block < W.heap.size := by obtain ⟨m, hm⟩ := k3; exact DataW.trod_lt m _ _ _ hm
  obtain ⟨z3, w3⟩ : ∃ zs, IsRow .u32 W a3 len3 cap3 zs := by
    obtain ⟨fuel, hf⟩ := h3
    rcases open_ints Tryd.underlying28 Tryd.underlying22 (by kernel_rfl) hf with ⟨hcs, _⟩ | ⟨x, l, c, zs, hcs, _, hl, hm, hz, _, hcell, hwz⟩
    · simp [Value.cells] at hcs
      obtain ⟨rfl, rfl, rfl⟩ := hcs
      exact ⟨[], .inl ⟨rfl, rfl, rfl, rfl⟩⟩
    · simp [Value.cells] at hcs
      obtain ⟨rfl, rfl, rfl⟩ := hcs
      exact ⟨zs, .inr ⟨_, rfl, hl, hm, by simpa using hz, hcell, hwz⟩⟩
  have y3 : len3 * 4 ≤ 140737488351232 := Go.Proofs.YtkiimboedgnoiaaDoorW.PrintWords.sized_ints hsz (j := 3) (t := 28) rfl rfl Tryd.underlying28 Tryd.underlying22 (by kernel_rfl) (by kernel_rfl) h3
  clear hA0 hval0 hsz0 hsz
  refine (PSpecBack.lodgerlaw11_SpecBack.walk Pure.SpecBack a0_0 a0_1 a0_2 len0_2 cap0_2 z0_2 a0_3 a0_4 a0_5 a0_6 a1 len1 cap1 z1 a2 a3 len3 cap3 z3 W w0_0 w0_1 w0_2 w0_3 w0_4 w0_5 w0_6 w1 y1 w2 w3 y3 (Lg_of_laid hL)).mono fun e W' ⟨he, bel⟩ => ?_
  subst he
  exact ⟨_, rfl, _, _, _, [], _, [], hW', trodAll_mk1 (shut_bool Tryd.underlying4 _), (trodAll_cons_mk (Below.trod laidOut (by kernel_rfl) (of_decide_eq_true (by kernel_rfl)) k0 bel lt0) (trodAll_cons_mk (Below.trod laidOut (by kernel_rfl) (of_decide_eq_true (by kernel_rfl)) k1 bel lt1) (trodAll_cons_mk (shut_int Tryd.underlying22 w2) (trodAll_cons_mk (Below.trod laidOut (by kernel_rfl) (of_decide_eq_true (by kernel_rfl)) k3 bel lt3) trodAll_mk0)))), rfl, bel.frame _, fun h => by cases h⟩
theorem over : Rows.specBackRow.holds Tryd.pinned (OpenSpec.ofChange Rows.specBackSpec) :=
  OpenClaim.holds_of_wide 5 Tryd.f5 rfl rfl rfl rfl rfl rfl rfl ⟨rfl, rfl, rfl, rfl, rfl⟩ rfl rfl rfl rfl rfl (by kernel_rfl) Tryd.func5 (by kernel_rfl)
    (of_decide_eq_true (by kernel_rfl)) (by unfold Func.isWrapper; first | (rw [if_pos (by decide +kernel)]; kernel_rfl) | (rw [if_neg (by decide +kernel)]; exact ⟨rfl, rfl⟩))
    (fun os started H enc _ => lifted os started H enc)
theorem card : Rows.SpecBackCardSaid :=
  Claim7.holds_tied_plain_at .later [] [.data, .funcs] true (true, "b00db3cb3ac8e81c1e92887113d6410c2900212907653b28f4fa06f97bb2c5c8") false
    over (fun _ h => by cases h) (by kernel_rfl) (fun _ h => by cases h) specBack_row_tie rfl ⟨rfl, rfl⟩ (by kernel_rfl) rfl
    (fun f fn hf hfn => by
      obtain rfl : f = 5 := Option.some.inj ((show Tryd.prog.funcNamed "lodger/lodgerlaw11.SpecBack" = some 5 by kernel_rfl).symm.trans hf) |>.symm
      obtain rfl : fn = Tryd.f5 := (Option.some.inj (Tryd.func5.symm.trans hfn)).symm
      exact ⟨by kernel_rfl, fun j t ht => by
        have hm : t ∈ Tryd.f5.params := Array.mem_of_getElem? ht
        have hall : (Tryd.f5.params.toList.all fun u => !Tryd.prog.wantsStandIn u) = true := by kernel_rfl
        exact (show Tryd.prog.wantsStandIn t = false by simpa using List.all_eq_true.1 hall t (Array.mem_toList_iff.2 hm))⟩)
    (by kernel_rfl)
theorem proved : Rows.SpecBackCardSaid := card
#print axioms proved
end Go.Proofs.YtkiimboedgnoiaaDoor.specBack
namespace Go.Proofs.YtkiimboedgnoiaaDoor
/-- The row, under a short name, for the claim. -/
theorem specBack_holds : Rows.SpecBackCardSaid := specBack.proved
end Go.Proofs.YtkiimboedgnoiaaDoor
