/- The walk of ModelCells, part of it: what the Go functions answer; no condition. -/
import Derived.Test.YthfcgjmffjmplaaQModelCellsx0
import Derived.Test.YthfcgjmffjmplaaQModelCellsx1
import Derived.Test.YthfcgjmffjmplaaQModelCellsx2
import Derived.Test.YthfcgjmffjmplaaQModelCellsx3
import Derived.Test.YthfcgjmffjmplaaQModelCellsx4
import Derived.Test.YthfcgjmffjmplaaQModelCellsx6
namespace Go.Proofs.Ythfcgjmffjmplaa.PModelCells
open Go.RowKit Go.Proofs.YthfcgjmffjmplaaW.PrintWords Go.Proofs.YthfcgjmffjmplaaW.PrintLast Go.Proofs.YthfcgjmffjmplaaW.PrintMore
attribute [local go_sem] max2_int min2_int max_two min_two max_three min_three max_four min_four   -- for this text's walks alone
set_option linter.unusedVariables false
set_option linter.unusedSimpArgs false

/-! ### lodgerlaw09_ModelCells: function 8 -/
mutual
def lodgerlaw09_ModelCells.j0 : Nat → List Int → Int → Int → Bool → Int → Int → List Int → Int → Int → Int → Int → Option (Bool)
 | 0, _, _, _, _, _, _, _, _, _, _, _ => none
 | k + 1, x1, x2, x3, x22, x264000, x264001, x264002, x264003, x264004, x264005, x264006 => if x22 = true then ((lodgerlaw09_awake.f k).bind fun t266 => (some t266)) else ((lodgerref05_Many.f k x264000 x264001).bind fun t267 => (if t267 = 0 then (none) else ((model_Of.f k x264000 x264001 x264002 x264003 x264004 x264005 x264006 x1).bind fun t268 => ((model_May.f k x264000 x264001 x264002 x264003 x264004 x264005 x264006 t268).bind fun t271 => (if t271 = true then (lodgerlaw09_ModelCells.j1 k x1 x3 (Int.tmod (wrap64 (x2)) t267) t268 (decide ((t268.length : Int) > (wrap64 (t267 - (x264002.length : Int))))) x264000 x264001 x264002 x264003 x264004 x264005 x264006) else (lodgerlaw09_ModelCells.j1 k x1 x3 (Int.tmod (wrap64 (x2)) t267) t268 true x264000 x264001 x264002 x264003 x264004 x264005 x264006))))))
def lodgerlaw09_ModelCells.j1 : Nat → List Int → Int → Int → List Int → Bool → Int → Int → List Int → Int → Int → Int → Int → Option (Bool)
 | 0, _, _, _, _, _, _, _, _, _, _, _, _ => none
 | k + 1, x1, x3, x10, x11, x47, x264000, x264001, x264002, x264003, x264004, x264005, x264006 => if x47 = true then (some false) else (if 0 ≤ (wrap64 (Int.tdiv x10 32)) then (if (wrap64 (Int.tdiv x10 32)) < (x1.length : Int) then ((word_Claim.f (rd x1 (wrap64 (Int.tdiv x10 32))) (Int.tmod x10 32)).bind fun t273 => ((lodgerref02_Set.f k x1 (wrap64 (Int.tdiv x10 32)) t273).bind fun t274 => ((word_Drop.f (rd x1 (wrap64 (Int.tdiv x10 32))) (Int.tmod x10 32)).bind fun t278 => ((lodgerref02_Set.f k x1 (wrap64 (Int.tdiv x10 32)) t278).bind fun t279 => ((lodgerref02_Set.f k x1 (wrap64 ((x1.length : Int) - 1)) x3).bind fun t282 => ((model_Of.f k x264000 x264001 x264002 x264003 x264004 x264005 x264006 t282).bind fun t285 => ((lodgerref03_Ints.f k t285 x11).bind fun t288 => (if t288 = true then ((lodgerref05_Held.f k x264000 x264001 x264002 x264003 x264004 x264005 x264006 x10).bind fun t289 => (if t289 = true then ((model_Of.f k x264000 x264001 x264002 x264003 x264004 x264005 x264006 t274).bind fun t290 => ((lodgerref03_Ints.f k t290 x11).bind fun t293 => (if t293 = true then ((model_Of.f k x264000 x264001 x264002 x264003 x264004 x264005 x264006 t279).bind fun t294 => ((lodgerref03_Ints.f k t294 x11).bind fun t297 => (some t297))) else (some false)))) else ((model_Of.f k x264000 x264001 x264002 x264003 x264004 x264005 x264006 t274).bind fun t298 => ((model_With.f k x11 x10).bind fun t301 => ((lodgerref03_Ints.f k t298 t301).bind fun t304 => (if t304 = true then ((model_Of.f k x264000 x264001 x264002 x264003 x264004 x264005 x264006 t279).bind fun t305 => ((model_Without.f k x11 x10).bind fun t308 => ((lodgerref03_Ints.f k t305 t308).bind fun t311 => (if t311 = true then ((model_Has.f k x11 x10).bind fun t312 => ((lodgerref01_Has.f k (rd x1 (wrap64 (Int.tdiv x10 32))) (Int.tmod x10 32)).bind fun t314 => (some (t312 == t314)))) else (some false))))) else (some false))))))) else (some false))))))))) else (none)) else (none))
end
def lodgerlaw09_ModelCells.f (k : Nat) (a0_0 : Int) (a0_1 : Int) (l0_2 : List Int) (a0_3 : Int) (a0_4 : Int) (a0_5 : Int) (a0_6 : Int) (l1 : List Int) (a2 : Int) (a3 : Int) : Option (Bool) := (lodgerlaw09_awake.f k).bind fun t264 => (if t264 = true then ((lodgerref08_Fits.f k a0_0 a0_1 l0_2 a0_3 a0_4 a0_5 a0_6 l1).bind fun t265 => (lodgerlaw09_ModelCells.j0 k l1 a2 a3 (!t265) a0_0 a0_1 l0_2 a0_3 a0_4 a0_5 a0_6)) else (lodgerlaw09_ModelCells.j0 k l1 a2 a3 true a0_0 a0_1 l0_2 a0_3 a0_4 a0_5 a0_6))
theorem lodgerlaw09_ModelCells.mono_l : ∀ k, (∀ y0 y1 y2 y3 y4 y5 y6 y7 y8 y9 y10, LeO (lodgerlaw09_ModelCells.j0 k y0 y1 y2 y3 y4 y5 y6 y7 y8 y9 y10) (lodgerlaw09_ModelCells.j0 (k + 1) y0 y1 y2 y3 y4 y5 y6 y7 y8 y9 y10)) ∧ (∀ y0 y1 y2 y3 y4 y5 y6 y7 y8 y9 y10 y11, LeO (lodgerlaw09_ModelCells.j1 k y0 y1 y2 y3 y4 y5 y6 y7 y8 y9 y10 y11) (lodgerlaw09_ModelCells.j1 (k + 1) y0 y1 y2 y3 y4 y5 y6 y7 y8 y9 y10 y11))
 | 0 => ⟨fun _ _ _ _ _ _ _ _ _ _ _ r h => by simp [lodgerlaw09_ModelCells.j0] at h, fun _ _ _ _ _ _ _ _ _ _ _ _ r h => by simp [lodgerlaw09_ModelCells.j1] at h⟩
 | k + 1 => by
  obtain ⟨ih0, ih1⟩ := lodgerlaw09_ModelCells.mono_l k
  refine ⟨?_, ?_⟩
  ·intro y0 y1 y2 y3 y4 y5 y6 y7 y8 y9 y10
   unfold lodgerlaw09_ModelCells.j0
   repeat' first
   | (with_reducible exact ih0 _ _ _ _ _ _ _ _ _ _ _)
   | (with_reducible exact ih1 _ _ _ _ _ _ _ _ _ _ _ _)
   | (with_reducible exact lodgerlaw09_awake.mono _)
   | (with_reducible exact lodgerref01_Has.mono _ _ _)
   | (with_reducible exact lodgerref02_Set.mono _ _ _ _)
   | (with_reducible exact lodgerref03_Ints.mono _ _ _)
   | (with_reducible exact lodgerref05_Held.mono _ _ _ _ _ _ _ _ _)
   | (with_reducible exact lodgerref05_Many.mono _ _ _)
   | (with_reducible exact lodgerref08_Fits.mono _ _ _ _ _ _ _ _ _)
   | (with_reducible exact model_Has.mono _ _ _)
   | (with_reducible exact model_May.mono _ _ _ _ _ _ _ _ _)
   | (with_reducible exact model_Of.mono _ _ _ _ _ _ _ _ _)
   | (with_reducible exact model_With.mono _ _ _)
   | (with_reducible exact model_Without.mono _ _ _)
   | (with_reducible exact LeO.refl _)
   | (with_reducible exact LeO.none _)
   | (with_reducible refine LeO.ite ?_ ?_)
   | (with_reducible refine LeO.bind ?_ (fun _ => ?_))
   | exact ih0 _ _ _ _ _ _ _ _ _ _ _
   | exact ih1 _ _ _ _ _ _ _ _ _ _ _ _
   | exact lodgerlaw09_awake.mono _
   | exact lodgerref01_Has.mono _ _ _
   | exact lodgerref02_Set.mono _ _ _ _
   | exact lodgerref03_Ints.mono _ _ _
   | exact lodgerref05_Held.mono _ _ _ _ _ _ _ _ _
   | exact lodgerref05_Many.mono _ _ _
   | exact lodgerref08_Fits.mono _ _ _ _ _ _ _ _ _
   | exact model_Has.mono _ _ _
   | exact model_May.mono _ _ _ _ _ _ _ _ _
   | exact model_Of.mono _ _ _ _ _ _ _ _ _
   | exact model_With.mono _ _ _
   | exact model_Without.mono _ _ _
   | exact LeO.none _
   | refine LeO.ite ?_ ?_
   | refine LeO.bind ?_ (fun _ => ?_)
  ·intro y0 y1 y2 y3 y4 y5 y6 y7 y8 y9 y10 y11
   unfold lodgerlaw09_ModelCells.j1
   repeat' first
   | (with_reducible exact ih0 _ _ _ _ _ _ _ _ _ _ _)
   | (with_reducible exact ih1 _ _ _ _ _ _ _ _ _ _ _ _)
   | (with_reducible exact lodgerlaw09_awake.mono _)
   | (with_reducible exact lodgerref01_Has.mono _ _ _)
   | (with_reducible exact lodgerref02_Set.mono _ _ _ _)
   | (with_reducible exact lodgerref03_Ints.mono _ _ _)
   | (with_reducible exact lodgerref05_Held.mono _ _ _ _ _ _ _ _ _)
   | (with_reducible exact lodgerref05_Many.mono _ _ _)
   | (with_reducible exact lodgerref08_Fits.mono _ _ _ _ _ _ _ _ _)
   | (with_reducible exact model_Has.mono _ _ _)
   | (with_reducible exact model_May.mono _ _ _ _ _ _ _ _ _)
   | (with_reducible exact model_Of.mono _ _ _ _ _ _ _ _ _)
   | (with_reducible exact model_With.mono _ _ _)
   | (with_reducible exact model_Without.mono _ _ _)
   | (with_reducible exact LeO.refl _)
   | (with_reducible exact LeO.none _)
   | (with_reducible refine LeO.ite ?_ ?_)
   | (with_reducible refine LeO.bind ?_ (fun _ => ?_))
   | exact ih0 _ _ _ _ _ _ _ _ _ _ _
   | exact ih1 _ _ _ _ _ _ _ _ _ _ _ _
   | exact lodgerlaw09_awake.mono _
   | exact lodgerref01_Has.mono _ _ _
   | exact lodgerref02_Set.mono _ _ _ _
   | exact lodgerref03_Ints.mono _ _ _
   | exact lodgerref05_Held.mono _ _ _ _ _ _ _ _ _
   | exact lodgerref05_Many.mono _ _ _
   | exact lodgerref08_Fits.mono _ _ _ _ _ _ _ _ _
   | exact model_Has.mono _ _ _
   | exact model_May.mono _ _ _ _ _ _ _ _ _
   | exact model_Of.mono _ _ _ _ _ _ _ _ _
   | exact model_With.mono _ _ _
   | exact model_Without.mono _ _ _
   | exact LeO.none _
   | refine LeO.ite ?_ ?_
   | refine LeO.bind ?_ (fun _ => ?_)
theorem lodgerlaw09_ModelCells.mono : ∀ a0 a1 a2 a3 a4 a5 a6 a7 a8 a9 k, LeO (lodgerlaw09_ModelCells.f k a0 a1 a2 a3 a4 a5 a6 a7 a8 a9) (lodgerlaw09_ModelCells.f (k + 1) a0 a1 a2 a3 a4 a5 a6 a7 a8 a9) := by
 intro a0 a1 a2 a3 a4 a5 a6 a7 a8 a9 k
 obtain ⟨ih0, ih1⟩ := lodgerlaw09_ModelCells.mono_l k
 unfold lodgerlaw09_ModelCells.f
 repeat' first
   | (with_reducible exact ih0 _ _ _ _ _ _ _ _ _ _ _)
   | (with_reducible exact ih1 _ _ _ _ _ _ _ _ _ _ _ _)
   | (with_reducible exact lodgerlaw09_awake.mono _)
   | (with_reducible exact lodgerref01_Has.mono _ _ _)
   | (with_reducible exact lodgerref02_Set.mono _ _ _ _)
   | (with_reducible exact lodgerref03_Ints.mono _ _ _)
   | (with_reducible exact lodgerref05_Held.mono _ _ _ _ _ _ _ _ _)
   | (with_reducible exact lodgerref05_Many.mono _ _ _)
   | (with_reducible exact lodgerref08_Fits.mono _ _ _ _ _ _ _ _ _)
   | (with_reducible exact model_Has.mono _ _ _)
   | (with_reducible exact model_May.mono _ _ _ _ _ _ _ _ _)
   | (with_reducible exact model_Of.mono _ _ _ _ _ _ _ _ _)
   | (with_reducible exact model_With.mono _ _ _)
   | (with_reducible exact model_Without.mono _ _ _)
   | (with_reducible exact LeO.refl _)
   | (with_reducible exact LeO.none _)
   | (with_reducible refine LeO.ite ?_ ?_)
   | (with_reducible refine LeO.bind ?_ (fun _ => ?_))
   | exact ih0 _ _ _ _ _ _ _ _ _ _ _
   | exact ih1 _ _ _ _ _ _ _ _ _ _ _ _
   | exact lodgerlaw09_awake.mono _
   | exact lodgerref01_Has.mono _ _ _
   | exact lodgerref02_Set.mono _ _ _ _
   | exact lodgerref03_Ints.mono _ _ _
   | exact lodgerref05_Held.mono _ _ _ _ _ _ _ _ _
   | exact lodgerref05_Many.mono _ _ _
   | exact lodgerref08_Fits.mono _ _ _ _ _ _ _ _ _
   | exact model_Has.mono _ _ _
   | exact model_May.mono _ _ _ _ _ _ _ _ _
   | exact model_Of.mono _ _ _ _ _ _ _ _ _
   | exact model_With.mono _ _ _
   | exact model_Without.mono _ _ _
   | exact LeO.none _
   | refine LeO.ite ?_ ?_
   | refine LeO.bind ?_ (fun _ => ?_)
def lodgerlaw09_ModelCells.T15 : Bool × List (List Nat × List Nat) := (true, [([], []), ([], []), ([0, 1], [0, 1]), ([], []), ([], []), ([3, 4, 2], [3, 4]), ([2, 5, 5], [2, 5]), ([6, 6], [6]), ([7], [7]), ([7], [7]), ([8, 9, 7, 7], [7, 8, 9]), ([7], [7]), ([7], [7]), ([11, 12, 10, 7], [7, 11, 12]), ([10, 13, 13, 7], [7, 10, 13]), ([7, 14], [7, 14]), ([15, 14], [15]), ([16], [16]), ([16], [16]), ([17, 18, 16, 16], [16, 17, 18]), ([16], [16]), ([16], [16]), ([21, 16], [16, 21]), ([20, 22, 16], [16, 20, 22]), ([23, 16], [16, 23]), ([16], [16]), ([25, 16], [16, 25]), ([24, 26, 19, 16], [16, 24, 26]), ([19, 27, 16], [16, 19, 27]), ([16, 28], [16, 28]), ([29, 27, 0, 1, 2, 3, 4, 5, 6, 7, 8, 9, 10, 11, 12, 13, 14, 15, 16, 17, 18, 19, 20, 21, 22, 23, 24, 25, 26, 27, 28, 29], [29])])
def lodgerlaw09_ModelCells.B15 : List Nat := [0, 0, 3, 0, 0, 31, 63, 127, 255, 255, 1023, 255, 255, 8191, 16383, 32767, 65535, 131071, 131071, 524287, 131071, 131071, 2228223, 7471103, 15859711, 131071, 33685503, 134217727, 268435455, 536870911, 1073741823]
theorem lodgerlaw09_ModelCells.tab15 : rtab .any (opsOf Try.f8 15) = lodgerlaw09_ModelCells.T15 := by kernel_rfl
theorem lodgerlaw09_ModelCells.bits15 : waitsOk lodgerlaw09_ModelCells.T15.2 lodgerlaw09_ModelCells.B15 = true := by kernel_rfl
set_option maxHeartbeats 8000000 in
set_option maxRecDepth 100000 in
theorem lodgerlaw09_ModelCells.calls (k : Nat) (a0_0 : Int) (a0_1 : Int) (A0_2 : Option Addr) (c0_2 : Nat) (l0_2 : List Int) (a0_3 : Int) (a0_4 : Int) (a0_5 : Int) (a0_6 : Int) (A1 : Option Addr) (c1 : Nat) (l1 : List Int) (a2 : Int) (a3 : Int) (r : Bool) (w : World) (hr0_2 : Kd.C (Kd.int .i64) w A0_2 l0_2.length l0_2) (hc0_2 : l0_2.length ≤ c0_2) (hr1 : Kd.C (Kd.int .u64) w A1 l1.length l1) (hc1 : l1.length ≤ c1) (hr_ : r = true) (h : lodgerlaw09_ModelCells.f k a0_0 a0_1 l0_2 a0_3 a0_4 a0_5 a0_6 l1 a2 a3 = some r) :
  Calls Try.prog 8 #[.agg #[.int .u32 a0_0, .int .i64 a0_1, .slice A0_2 l0_2.length c0_2, .int .i64 a0_3, .int .i64 a0_4, .int .i64 a0_5, .int .i64 a0_6], .slice A1 l1.length c1, .int .u16 a2, .int .u64 a3] w fun e w' => e = .returned (.bool r) ∧ Below w.heap.size w w' := by
 have hu27 := Try.underlying27
 have hu24 := Try.underlying24
 have HR0_2 := Aside0.mk hr0_2
 have HC0_2 := Aside0.mk hc0_2
 clear hr0_2 hc0_2
 have HR1 := Aside0.mk hr1
 have HC1 := Aside0.mk hc1
 clear hr1 hc1
 have HB := Aside0.mk (Below.refl w.heap.size w)
 replace hr_ := Aside0.mk hr_
 have H : ((lodgerlaw09_awake.f k).bind fun t264 => (if t264 = true then ((lodgerref08_Fits.f k a0_0 a0_1 l0_2 a0_3 a0_4 a0_5 a0_6 l1).bind fun t265 => (lodgerlaw09_ModelCells.j0 k l1 a2 a3 (!t265) a0_0 a0_1 l0_2 a0_3 a0_4 a0_5 a0_6)) else (lodgerlaw09_ModelCells.j0 k l1 a2 a3 true a0_0 a0_1 l0_2 a0_3 a0_4 a0_5 a0_6))) = some r := h
 clear h
 have HC5 := Aside0.mk H
 clear H
 go_enter Try.func8, Try.ntmps8
 go_upto_region 1 with (first | ((with_reducible refine gate_dst (N := 4) rfl ?_); (try (refine gate_guard (by rfl) ?_; dsimp only)); refine box_event ?hg (N := 4) ?hd (cs := #[.int .u32 a0_0, .int .i64 a0_1, .slice A0_2 l0_2.length c0_2, .int .i64 a0_3, .int .i64 a0_4, .int .i64 a0_5, .int .i64 a0_6]) (t := 27) ?hr ?_; (case hd => rfl); (case hg => rfl); (case hr => first | (go_simp; done) | (go_simp; rfl)); intro gb263 hg w6 hbox hb; have n0_ := Aside0.mk (below_step (by repeat (first | (with_reducible first | exact HB.out | apply below_alloc | apply pw_below_drewN | apply below_drew1) | exact HB.out)) hb); have n1_ := Aside0.mk (hbox); have n2_ := Aside0.mk ((by rw [hg]; exact (below_size (by repeat (first | (with_reducible first | exact HB.out | apply below_alloc | apply pw_below_drewN | apply below_drew1) | exact HB.out))) : w.heap.size ≤ gb263)); have n3_ := Aside0.mk ((by rw [hg]; exact (below_size (by repeat (first | (with_reducible first | exact HB.out | apply below_alloc | apply pw_below_drewN | apply below_drew1) | exact HB.out))) : w.heap.size ≤ gb263)); clear HB; have HB := n0_; have BK263 := n1_; have GW263 := n2_; have GE263 := n3_; clear n0_ n1_ n2_ n3_; clear hb hbox hg))
 (try simp only [Act.put, List.setIfInBounds_toArray, List.set_cons_zero, List.set_cons_succ])
 go_cut [22] (fun v22 wc => ∃ (kq : Nat) (x22_4 : Bool), v22 = .bool x22_4 ∧ Aside0 (lodgerlaw09_ModelCells.j0 kq l1 a2 a3 x22_4 a0_0 a0_1 l0_2 a0_3 a0_4 a0_5 a0_6 = some r) ∧ Aside0 (kq ≤ k) ∧ Aside0 (wc.heap[gb263]? = some (.cells #[.int .u32 a0_0, .int .i64 a0_1, (.slice A0_2 l0_2.length c0_2), .int .i64 a0_3, .int .i64 a0_4, .int .i64 a0_5, .int .i64 a0_6] 27 (0, 0))) ∧ Aside0 (Below w.heap.size w wc))
 case first =>
  have H := HC5.out
  clear HC5
  replace H := Option.bind_eq_some_iff.mp H
  obtain ⟨t264, A70, H⟩ := H
  replace H : (if t264 = true then ((lodgerref08_Fits.f k a0_0 a0_1 l0_2 a0_3 a0_4 a0_5 a0_6 l1).bind fun t265 => (lodgerlaw09_ModelCells.j0 k l1 a2 a3 (!t265) a0_0 a0_1 l0_2 a0_3 a0_4 a0_5 a0_6)) else (lodgerlaw09_ModelCells.j0 k l1 a2 a3 true a0_0 a0_1 l0_2 a0_3 a0_4 a0_5 a0_6)) = some r := H
  have A7 := Aside0.mk A70
  clear A70
  by_cases c8 : t264 = true
  ·subst c8
   have H1 : ((lodgerref08_Fits.f k a0_0 a0_1 l0_2 a0_3 a0_4 a0_5 a0_6 l1).bind fun t265 => (lodgerlaw09_ModelCells.j0 k l1 a2 a3 (!t265) a0_0 a0_1 l0_2 a0_3 a0_4 a0_5 a0_6)) = some r := by rw [if_pos rfl] at H; exact H
   clear H
   have H := H1
   clear H1
   replace H := Option.bind_eq_some_iff.mp H
   obtain ⟨t265, A90, H⟩ := H
   replace H : (lodgerlaw09_ModelCells.j0 k l1 a2 a3 (!t265) a0_0 a0_1 l0_2 a0_3 a0_4 a0_5 a0_6) = some r := H
   have A9 := Aside0.mk A90
   clear A90
   have H' := Aside0.mk H
   clear H
   go_wp2_with (first | ((with_reducible refine gate_callee (f := 9) rfl ?_); refine goesL_ (some 15) rfl rfl Try.func9 (by kernel_rfl) rfl #[] rfl (by (try simp only [List.map_toArray, List.map_cons, List.map_nil]); first | done | rfl | (simp only [List.length_drop, List.length_take]; rfl)) ?_; (with_reducible refine (lodgerlaw09_awake.calls k  true _ A7.out).mono ?_); rintro e w10 ⟨rfl, hb⟩; refine ⟨_, rfl, ?_⟩; have n0_ := Aside0.mk (blk_below (g := gb263) (o := .cells #[.int .u32 a0_0, .int .i64 a0_1, .slice A0_2 l0_2.length c0_2, .int .i64 a0_3, .int .i64 a0_4, .int .i64 a0_5, .int .i64 a0_6] 27 (0, 0)) (by (with_reducible repeat (first | refine blk_drewN ?_ _ | refine blk_drew ?_ | refine blk_alloc ?_ _)); exact BK263.out) hb); have n1_ := Aside0.mk (below_step (by repeat (first | (with_reducible first | exact HB.out | apply below_alloc | apply pw_below_drewN | apply below_drew1 | refine below_set ?_ GE263.out) | exact HB.out)) hb); clear BK263; clear HB; have BK263 := n0_; have HB := n1_; clear n0_ n1_; (try clear hb); (try clear hb2); (try clear hk); (try clear hi); have hcz11_0 : w10.cell? ⟨gb263, 0, none⟩ = some (.int .u32 a0_0) := (blk_cell BK263.out 0).trans rfl; have hcz11_1 : w10.cell? ⟨gb263, 1, none⟩ = some (.int .i64 a0_1) := (blk_cell BK263.out 1).trans rfl; have hcz11_2 : w10.cell? ⟨gb263, 2, none⟩ = some (.slice A0_2 l0_2.length c0_2) := (blk_cell BK263.out 2).trans rfl; have hcz11_3 : w10.cell? ⟨gb263, 3, none⟩ = some (.int .i64 a0_3) := (blk_cell BK263.out 3).trans rfl; have hcz11_4 : w10.cell? ⟨gb263, 4, none⟩ = some (.int .i64 a0_4) := (blk_cell BK263.out 4).trans rfl; have hcz11_5 : w10.cell? ⟨gb263, 5, none⟩ = some (.int .i64 a0_5) := (blk_cell BK263.out 5).trans rfl; have hcz11_6 : w10.cell? ⟨gb263, 6, none⟩ = some (.int .i64 a0_6) := (blk_cell BK263.out 6).trans rfl; have hfz11_0 := blk_frozen BK263.out 0; have hfz11_1 := blk_frozen BK263.out 1; have hfz11_2 := blk_frozen BK263.out 2; have hfz11_3 := blk_frozen BK263.out 3; have hfz11_4 := blk_frozen BK263.out 4; have hfz11_5 := blk_frozen BK263.out 5; have hfz11_6 := blk_frozen BK263.out 6) | (go_at_call 21; (with_reducible refine (lodgerref08_Fits.calls k a0_0 a0_1 _ _ l0_2 a0_3 a0_4 a0_5 a0_6 _ _ l1 t265 _ ?side1 ?side2 ?side3 ?side4 A9.out).mono ?_); (case side1 => repeat (first | exact (Kd.C_below HR0_2.out HB.out) | (with_reducible refine Kd.C_alloc ?_ _) | (with_reducible refine Kd.C_drewN ?_ _) | (with_reducible refine Kd.C_drew ?_))); (case side2 => exact HC0_2.out); (case side3 => repeat (first | exact (Kd.C_below HR1.out HB.out) | (with_reducible refine Kd.C_alloc ?_ _) | (with_reducible refine Kd.C_drewN ?_ _) | (with_reducible refine Kd.C_drew ?_))); (case side4 => exact HC1.out); rintro e w12 ⟨rfl, hb⟩; have n0_ := Aside0.mk (blk_below (g := gb263) (o := .cells #[.int .u32 a0_0, .int .i64 a0_1, .slice A0_2 l0_2.length c0_2, .int .i64 a0_3, .int .i64 a0_4, .int .i64 a0_5, .int .i64 a0_6] 27 (0, 0)) (by (with_reducible repeat (first | refine blk_drewN ?_ _ | refine blk_drew ?_ | refine blk_alloc ?_ _)); exact BK263.out) hb); have n1_ := Aside0.mk (below_step (by repeat (first | (with_reducible first | exact HB.out | apply below_alloc | apply pw_below_drewN | apply below_drew1 | refine below_set ?_ GE263.out) | exact HB.out)) hb); clear BK263; clear HB; have BK263 := n0_; have HB := n1_; clear n0_ n1_; (try clear hb); (try clear hb2); (try clear hk); (try clear hi)))
   go_meet
   case rel => exact ⟨_, (!t265), (by first | rfl | (simp; done) | (simp [*]; done)), H', ⟨by first | omega | exact Nat.le_refl _⟩, ⟨by (with_reducible repeat (first | refine blk_drewN ?_ _ | refine blk_drew ?_ | refine blk_alloc ?_ _)); exact BK263.out⟩, ⟨by repeat (first | (with_reducible first | exact HB.out | apply below_alloc | apply pw_below_drewN | apply below_drew1 | refine below_set ?_ GE263.out) | exact HB.out)⟩⟩
  ·replace c8 := Bool.eq_false_iff.mpr c8
   subst c8
   have H1 : (lodgerlaw09_ModelCells.j0 k l1 a2 a3 true a0_0 a0_1 l0_2 a0_3 a0_4 a0_5 a0_6) = some r := by rw [if_neg (show ¬ (false = true) by decide)] at H; exact H
   clear H
   have H := H1
   clear H1
   have H' := Aside0.mk H
   clear H
   go_wp2_with (first | ((with_reducible refine gate_callee (f := 9) rfl ?_); refine goesL_ (some 15) rfl rfl Try.func9 (by kernel_rfl) rfl #[] rfl (by (try simp only [List.map_toArray, List.map_cons, List.map_nil]); first | done | rfl | (simp only [List.length_drop, List.length_take]; rfl)) ?_; (with_reducible refine (lodgerlaw09_awake.calls k  false _ A7.out).mono ?_); rintro e w13 ⟨rfl, hb⟩; refine ⟨_, rfl, ?_⟩; have n0_ := Aside0.mk (blk_below (g := gb263) (o := .cells #[.int .u32 a0_0, .int .i64 a0_1, .slice A0_2 l0_2.length c0_2, .int .i64 a0_3, .int .i64 a0_4, .int .i64 a0_5, .int .i64 a0_6] 27 (0, 0)) (by (with_reducible repeat (first | refine blk_drewN ?_ _ | refine blk_drew ?_ | refine blk_alloc ?_ _)); exact BK263.out) hb); have n1_ := Aside0.mk (below_step (by repeat (first | (with_reducible first | exact HB.out | apply below_alloc | apply pw_below_drewN | apply below_drew1 | refine below_set ?_ GE263.out) | exact HB.out)) hb); clear BK263; clear HB; have BK263 := n0_; have HB := n1_; clear n0_ n1_; (try clear hb); (try clear hb2); (try clear hk); (try clear hi)))
   go_meet
   case rel => exact ⟨_, (true), (by first | rfl | (simp; done) | (simp [*]; done)), H', ⟨by first | omega | exact Nat.le_refl _⟩, ⟨by (with_reducible repeat (first | refine blk_drewN ?_ _ | refine blk_drew ?_ | refine blk_alloc ?_ _)); exact BK263.out⟩, ⟨by repeat (first | (with_reducible first | exact HB.out | apply below_alloc | apply pw_below_drewN | apply below_drew1 | refine below_set ?_ GE263.out) | exact HB.out)⟩⟩
 case rest =>
  clear HC5
  try clear c1
  try clear p2
  try clear c8
  try clear c9
  try clear hcz11_0
  try clear hcz11_1
  try clear hcz11_2
  try clear hcz11_3
  try clear hcz11_4
  try clear hcz11_5
  try clear hcz11_6
  try clear hfz11_0
  try clear hfz11_1
  try clear hfz11_2
  try clear hfz11_3
  try clear hfz11_4
  try clear hfz11_5
  try clear hfz11_6
  obtain ⟨kq, x22_4, rfl, HA, HJ4, BK263, HB⟩ := hcut
  cases kq with
  | zero => exact absurd HA.out (by simp [lodgerlaw09_ModelCells.j0])
  | succ kj4 =>
   have H := HA.out
   clear HA
   simp only [lodgerlaw09_ModelCells.j0] at H
   by_cases c14 : x22_4 = true
   ·subst c14
    have H1 : ((lodgerlaw09_awake.f kj4).bind fun t266 => (some t266)) = some r := by rw [if_pos rfl] at H; exact H
    clear H
    have H := H1
    clear H1
    replace H := Option.bind_eq_some_iff.mp H
    obtain ⟨t266, A150, H⟩ := H
    replace H : (some t266) = some r := H
    have A15 := Aside0.mk A150
    clear A150
    first | (exfalso; rw [hr_.out] at H; exact absurd (Option.some.inj H) (by decide)) | (try clear hr_)
    all_goals
     obtain rfl := Option.some.inj H
     go_wp2_with (first | ((with_reducible refine gate_callee (f := 9) rfl ?_); refine goesL_ (some 23) rfl rfl Try.func9 (by kernel_rfl) rfl #[] rfl (by (try simp only [List.map_toArray, List.map_cons, List.map_nil]); first | done | rfl | (simp only [List.length_drop, List.length_take]; rfl)) ?_; (with_reducible refine (lodgerlaw09_awake.calls kj4  t266 _ A15.out).mono ?_); rintro e w16 ⟨rfl, hb⟩; refine ⟨_, rfl, ?_⟩; have n0_ := Aside0.mk (blk_below (g := gb263) (o := .cells #[.int .u32 a0_0, .int .i64 a0_1, .slice A0_2 l0_2.length c0_2, .int .i64 a0_3, .int .i64 a0_4, .int .i64 a0_5, .int .i64 a0_6] 27 (0, 0)) (by (with_reducible repeat (first | refine blk_drewN ?_ _ | refine blk_drew ?_ | refine blk_alloc ?_ _)); exact BK263.out) hb); have n1_ := Aside0.mk (below_step (by repeat (first | (with_reducible first | exact HB.out | apply below_alloc | apply pw_below_drewN | apply below_drew1 | refine below_set ?_ GE263.out) | exact HB.out)) hb); clear BK263; clear HB; have BK263 := n0_; have HB := n1_; clear n0_ n1_; (try clear hb); (try clear hb2); (try clear hk); (try clear hi)))
     go_ret
     exact ⟨by first | rfl | (simp [errW_none, errW_some] <;> rfl) | (simp [*, errW_none, errW_some] <;> rfl), by repeat (first | (with_reducible first | exact HB.out | apply below_alloc | apply pw_below_drewN | apply below_drew1 | refine below_set ?_ GE263.out) | exact HB.out)⟩
   ·replace c14 := Bool.eq_false_iff.mpr c14
    subst c14
    have H1 : ((lodgerref05_Many.f kj4 a0_0 a0_1).bind fun t267 => (if t267 = 0 then (none) else ((model_Of.f kj4 a0_0 a0_1 l0_2 a0_3 a0_4 a0_5 a0_6 l1).bind fun t268 => ((model_May.f kj4 a0_0 a0_1 l0_2 a0_3 a0_4 a0_5 a0_6 t268).bind fun t271 => (if t271 = true then (lodgerlaw09_ModelCells.j1 kj4 l1 a3 (Int.tmod (wrap64 (a2)) t267) t268 (decide ((t268.length : Int) > (wrap64 (t267 - (l0_2.length : Int))))) a0_0 a0_1 l0_2 a0_3 a0_4 a0_5 a0_6) else (lodgerlaw09_ModelCells.j1 kj4 l1 a3 (Int.tmod (wrap64 (a2)) t267) t268 true a0_0 a0_1 l0_2 a0_3 a0_4 a0_5 a0_6)))))) = some r := by rw [if_neg (show ¬ (false = true) by decide)] at H; exact H
    clear H
    have H := H1
    clear H1
    replace H := Option.bind_eq_some_iff.mp H
    obtain ⟨t267, A170, H⟩ := H
    replace H : (if t267 = 0 then (none) else ((model_Of.f kj4 a0_0 a0_1 l0_2 a0_3 a0_4 a0_5 a0_6 l1).bind fun t268 => ((model_May.f kj4 a0_0 a0_1 l0_2 a0_3 a0_4 a0_5 a0_6 t268).bind fun t271 => (if t271 = true then (lodgerlaw09_ModelCells.j1 kj4 l1 a3 (Int.tmod (wrap64 (a2)) t267) t268 (decide ((t268.length : Int) > (wrap64 (t267 - (l0_2.length : Int))))) a0_0 a0_1 l0_2 a0_3 a0_4 a0_5 a0_6) else (lodgerlaw09_ModelCells.j1 kj4 l1 a3 (Int.tmod (wrap64 (a2)) t267) t268 true a0_0 a0_1 l0_2 a0_3 a0_4 a0_5 a0_6))))) = some r := H
    have A17 := Aside0.mk A170
    clear A170
    by_cases c18 : t267 = 0
    ·rw [if_pos c18] at H
     exact absurd H (by simp)
    ·rw [if_neg c18] at H
     have c18b0 : (t267 == 0) = false := beq_eq_false_iff_ne.mpr c18
     have c18b1 : (t267 != 0) = true := bne_iff_ne.mpr c18
     replace H := Option.bind_eq_some_iff.mp H
     obtain ⟨t268, A190, H⟩ := H
     replace H : ((model_May.f kj4 a0_0 a0_1 l0_2 a0_3 a0_4 a0_5 a0_6 t268).bind fun t271 => (if t271 = true then (lodgerlaw09_ModelCells.j1 kj4 l1 a3 (Int.tmod (wrap64 (a2)) t267) t268 (decide ((t268.length : Int) > (wrap64 (t267 - (l0_2.length : Int))))) a0_0 a0_1 l0_2 a0_3 a0_4 a0_5 a0_6) else (lodgerlaw09_ModelCells.j1 kj4 l1 a3 (Int.tmod (wrap64 (a2)) t267) t268 true a0_0 a0_1 l0_2 a0_3 a0_4 a0_5 a0_6))) = some r := H
     have A19 := Aside0.mk A190
     clear A190
     have HC20 := Aside0.mk H
     clear H
     have hcz21_0 : wc.cell? ⟨gb263, 0, none⟩ = some (.int .u32 a0_0) := (blk_cell BK263.out 0).trans rfl
     have hcz21_1 : wc.cell? ⟨gb263, 1, none⟩ = some (.int .i64 a0_1) := (blk_cell BK263.out 1).trans rfl
     have hcz21_2 : wc.cell? ⟨gb263, 2, none⟩ = some (.slice A0_2 l0_2.length c0_2) := (blk_cell BK263.out 2).trans rfl
     have hcz21_3 : wc.cell? ⟨gb263, 3, none⟩ = some (.int .i64 a0_3) := (blk_cell BK263.out 3).trans rfl
     have hcz21_4 : wc.cell? ⟨gb263, 4, none⟩ = some (.int .i64 a0_4) := (blk_cell BK263.out 4).trans rfl
     have hcz21_5 : wc.cell? ⟨gb263, 5, none⟩ = some (.int .i64 a0_5) := (blk_cell BK263.out 5).trans rfl
     have hcz21_6 : wc.cell? ⟨gb263, 6, none⟩ = some (.int .i64 a0_6) := (blk_cell BK263.out 6).trans rfl
     have hfz21_0 := blk_frozen BK263.out 0
     have hfz21_1 := blk_frozen BK263.out 1
     have hfz21_2 := blk_frozen BK263.out 2
     have hfz21_3 := blk_frozen BK263.out 3
     have hfz21_4 := blk_frozen BK263.out 4
     have hfz21_5 := blk_frozen BK263.out 5
     have hfz21_6 := blk_frozen BK263.out 6
     go_upto_region 6 with (first | ((with_reducible refine gate_callee (f := 24) rfl ?_); refine goesL_ (some 26) rfl rfl Try.func24 (by kernel_rfl) rfl #[.agg #[.int .u32 a0_0, .int .i64 a0_1]] rfl (by (try simp only [List.map_toArray, List.map_cons, List.map_nil]); first | done | rfl | (simp only [List.length_drop, List.length_take]; rfl)) ?_; (with_reducible refine (lodgerref05_Many.calls kj4 a0_0 a0_1 t267 _ A17.out).mono ?_); rintro e w22 ⟨rfl, hb⟩; refine ⟨_, rfl, ?_⟩; have n0_ := Aside0.mk (blk_below (g := gb263) (o := .cells #[.int .u32 a0_0, .int .i64 a0_1, .slice A0_2 l0_2.length c0_2, .int .i64 a0_3, .int .i64 a0_4, .int .i64 a0_5, .int .i64 a0_6] 27 (0, 0)) (by (with_reducible repeat (first | refine blk_drewN ?_ _ | refine blk_drew ?_ | refine blk_alloc ?_ _)); exact BK263.out) hb); have n1_ := Aside0.mk (below_step (by repeat (first | (with_reducible first | exact HB.out | apply below_alloc | apply pw_below_drewN | apply below_drew1 | refine below_set ?_ GE263.out) | exact HB.out)) hb); clear BK263; clear HB; have BK263 := n0_; have HB := n1_; clear n0_ n1_; (try clear hb); (try clear hb2); (try clear hk); (try clear hi); have hcz23_0 : w22.cell? ⟨gb263, 0, none⟩ = some (.int .u32 a0_0) := (blk_cell BK263.out 0).trans rfl; have hcz23_1 : w22.cell? ⟨gb263, 1, none⟩ = some (.int .i64 a0_1) := (blk_cell BK263.out 1).trans rfl; have hcz23_2 : w22.cell? ⟨gb263, 2, none⟩ = some (.slice A0_2 l0_2.length c0_2) := (blk_cell BK263.out 2).trans rfl; have hcz23_3 : w22.cell? ⟨gb263, 3, none⟩ = some (.int .i64 a0_3) := (blk_cell BK263.out 3).trans rfl; have hcz23_4 : w22.cell? ⟨gb263, 4, none⟩ = some (.int .i64 a0_4) := (blk_cell BK263.out 4).trans rfl; have hcz23_5 : w22.cell? ⟨gb263, 5, none⟩ = some (.int .i64 a0_5) := (blk_cell BK263.out 5).trans rfl; have hcz23_6 : w22.cell? ⟨gb263, 6, none⟩ = some (.int .i64 a0_6) := (blk_cell BK263.out 6).trans rfl; have hfz23_0 := blk_frozen BK263.out 0; have hfz23_1 := blk_frozen BK263.out 1; have hfz23_2 := blk_frozen BK263.out 2; have hfz23_3 := blk_frozen BK263.out 3; have hfz23_4 := blk_frozen BK263.out 4; have hfz23_5 := blk_frozen BK263.out 5; have hfz23_6 := blk_frozen BK263.out 6) | ((with_reducible refine gate_callee (f := 22) rfl ?_); refine goesL_ (some 33) rfl rfl Try.func22 (by kernel_rfl) rfl #[.agg #[.int .u32 a0_0, .int .i64 a0_1, .slice A0_2 l0_2.length c0_2, .int .i64 a0_3, .int .i64 a0_4, .int .i64 a0_5, .int .i64 a0_6], .slice A1 l1.length c1] rfl (by (try simp only [List.map_toArray, List.map_cons, List.map_nil]); first | done | rfl | (simp only [List.length_drop, List.length_take]; rfl)) ?_; (with_reducible refine (model_Of.calls kj4 a0_0 a0_1 _ _ l0_2 a0_3 a0_4 a0_5 a0_6 _ _ l1 t268 _ ?side1 ?side2 ?side3 ?side4 A19.out).mono ?_); (case side1 => repeat (first | exact (Kd.C_below HR0_2.out HB.out) | (with_reducible refine Kd.C_alloc ?_ _) | (with_reducible refine Kd.C_drewN ?_ _) | (with_reducible refine Kd.C_drew ?_))); (case side2 => exact HC0_2.out); (case side3 => repeat (first | exact (Kd.C_below HR1.out HB.out) | (with_reducible refine Kd.C_alloc ?_ _) | (with_reducible refine Kd.C_drewN ?_ _) | (with_reducible refine Kd.C_drew ?_))); (case side4 => exact HC1.out); rintro e w24 ⟨v269, rfl, ho0, hb⟩; refine ⟨_, rfl, ?_⟩; have n0_ := Aside0.mk (Kd.R_lower ho0 (below_size (by repeat (first | (with_reducible first | exact HB.out | apply below_alloc | apply pw_below_drewN | apply below_drew1 | refine below_set ?_ GE263.out) | exact HB.out)))); have n1_ := Aside0.mk (blk_below (g := gb263) (o := .cells #[.int .u32 a0_0, .int .i64 a0_1, .slice A0_2 l0_2.length c0_2, .int .i64 a0_3, .int .i64 a0_4, .int .i64 a0_5, .int .i64 a0_6] 27 (0, 0)) (by (with_reducible repeat (first | refine blk_drewN ?_ _ | refine blk_drew ?_ | refine blk_alloc ?_ _)); exact BK263.out) hb); have n2_ := Aside0.mk (below_step (by repeat (first | (with_reducible first | exact HB.out | apply below_alloc | apply pw_below_drewN | apply below_drew1 | refine below_set ?_ GE263.out) | exact HB.out)) hb); clear BK263; clear HB; have HO270 := n0_; have BK263 := n1_; have HB := n2_; clear n0_ n1_ n2_; (try clear hb); (try clear hb2); (try clear hk); (try clear hi); (try clear ho0)))
     (try simp only [Act.put, List.setIfInBounds_toArray, List.set_cons_zero, List.set_cons_succ])
     go_cut [47] (fun v47 wc => ∃ (kq : Nat) (x47_19 : Bool), v47 = .bool x47_19 ∧ Aside0 (lodgerlaw09_ModelCells.j1 kq l1 a3 (Int.tmod (wrap64 (a2)) t267) t268 x47_19 a0_0 a0_1 l0_2 a0_3 a0_4 a0_5 a0_6 = some r) ∧ Aside0 (kq ≤ kj4) ∧ Aside0 (Kd.R (Kd.int .i64) 3 wc w.heap.size (fun _ => True) v269 t268) ∧ Aside0 (wc.heap[gb263]? = some (.cells #[.int .u32 a0_0, .int .i64 a0_1, (.slice A0_2 l0_2.length c0_2), .int .i64 a0_3, .int .i64 a0_4, .int .i64 a0_5, .int .i64 a0_6] 27 (0, 0))) ∧ Aside0 (Below w.heap.size w wc))
     case first =>
      have H := HC20.out
      clear HC20
      replace H := Option.bind_eq_some_iff.mp H
      obtain ⟨t271, A250, H⟩ := H
      replace H : (if t271 = true then (lodgerlaw09_ModelCells.j1 kj4 l1 a3 (Int.tmod (wrap64 (a2)) t267) t268 (decide ((t268.length : Int) > (wrap64 (t267 - (l0_2.length : Int))))) a0_0 a0_1 l0_2 a0_3 a0_4 a0_5 a0_6) else (lodgerlaw09_ModelCells.j1 kj4 l1 a3 (Int.tmod (wrap64 (a2)) t267) t268 true a0_0 a0_1 l0_2 a0_3 a0_4 a0_5 a0_6)) = some r := H
      have A25 := Aside0.mk A250
      clear A250
      by_cases c26 : t271 = true
      ·subst c26
       have H1 : (lodgerlaw09_ModelCells.j1 kj4 l1 a3 (Int.tmod (wrap64 (a2)) t267) t268 (decide ((t268.length : Int) > (wrap64 (t267 - (l0_2.length : Int))))) a0_0 a0_1 l0_2 a0_3 a0_4 a0_5 a0_6) = some r := by rw [if_pos rfl] at H; exact H
       clear H
       have H := H1
       clear H1
       have H' := Aside0.mk H
       clear H
       have hcz27_0 : w24.cell? ⟨gb263, 0, none⟩ = some (.int .u32 a0_0) := (blk_cell BK263.out 0).trans rfl
       have hcz27_1 : w24.cell? ⟨gb263, 1, none⟩ = some (.int .i64 a0_1) := (blk_cell BK263.out 1).trans rfl
       have hcz27_2 : w24.cell? ⟨gb263, 2, none⟩ = some (.slice A0_2 l0_2.length c0_2) := (blk_cell BK263.out 2).trans rfl
       have hcz27_3 : w24.cell? ⟨gb263, 3, none⟩ = some (.int .i64 a0_3) := (blk_cell BK263.out 3).trans rfl
       have hcz27_4 : w24.cell? ⟨gb263, 4, none⟩ = some (.int .i64 a0_4) := (blk_cell BK263.out 4).trans rfl
       have hcz27_5 : w24.cell? ⟨gb263, 5, none⟩ = some (.int .i64 a0_5) := (blk_cell BK263.out 5).trans rfl
       have hcz27_6 : w24.cell? ⟨gb263, 6, none⟩ = some (.int .i64 a0_6) := (blk_cell BK263.out 6).trans rfl
       have hfz27_0 := blk_frozen BK263.out 0
       have hfz27_1 := blk_frozen BK263.out 1
       have hfz27_2 := blk_frozen BK263.out 2
       have hfz27_3 := blk_frozen BK263.out 3
       have hfz27_4 := blk_frozen BK263.out 4
       have hfz27_5 := blk_frozen BK263.out 5
       have hfz27_6 := blk_frozen BK263.out 6
       obtain ⟨Ao28, co28, eo28⟩ := Kd.R_slice HO270.out
       subst eo28
       go_wp2_with (first | ((with_reducible refine gate_callee (f := 11) rfl ?_); refine goesL_ (some 36) rfl rfl Try.func11 (by kernel_rfl) rfl #[.agg #[.int .u32 a0_0, .int .i64 a0_1, .slice A0_2 l0_2.length c0_2, .int .i64 a0_3, .int .i64 a0_4, .int .i64 a0_5, .int .i64 a0_6], .slice Ao28 t268.length co28] rfl (by (try simp only [List.map_toArray, List.map_cons, List.map_nil]); first | done | rfl | (simp only [List.length_drop, List.length_take]; rfl)) ?_; (with_reducible refine (model_May.calls kj4 a0_0 a0_1 _ _ l0_2 a0_3 a0_4 a0_5 a0_6 _ _ t268 true _ ?side1 ?side2 ?side3 ?side4 A25.out).mono ?_); (case side1 => repeat (first | exact (Kd.C_below HR0_2.out HB.out) | (with_reducible refine Kd.C_alloc ?_ _) | (with_reducible refine Kd.C_drewN ?_ _) | (with_reducible refine Kd.C_drew ?_))); (case side2 => exact HC0_2.out); (case side3 => repeat (first | exact (Kd.R_reads' HO270.out).2.2 | (with_reducible refine Kd.C_alloc ?_ _) | (with_reducible refine Kd.C_drewN ?_ _) | (with_reducible refine Kd.C_drew ?_))); (case side4 => exact (Kd.R_reads' HO270.out).2.1); rintro e w29 ⟨rfl, hb⟩; refine ⟨_, rfl, ?_⟩; have n0_ := Aside0.mk (Kd.R_below (by (with_reducible repeat (first | apply Kd.R_alloc | apply Kd.R_drewN | apply Kd.R_drew)); exact HO270.out) hb); have n1_ := Aside0.mk (blk_below (g := gb263) (o := .cells #[.int .u32 a0_0, .int .i64 a0_1, .slice A0_2 l0_2.length c0_2, .int .i64 a0_3, .int .i64 a0_4, .int .i64 a0_5, .int .i64 a0_6] 27 (0, 0)) (by (with_reducible repeat (first | refine blk_drewN ?_ _ | refine blk_drew ?_ | refine blk_alloc ?_ _)); exact BK263.out) hb); have n2_ := Aside0.mk (below_step (by repeat (first | (with_reducible first | exact HB.out | apply below_alloc | apply pw_below_drewN | apply below_drew1 | refine below_set ?_ GE263.out) | exact HB.out)) hb); clear HO270; clear BK263; clear HB; have HO270 := n0_; have BK263 := n1_; have HB := n2_; clear n0_ n1_ n2_; (try clear hb); (try clear hb2); (try clear hk); (try clear hi); have hcz30_0 : w29.cell? ⟨gb263, 0, none⟩ = some (.int .u32 a0_0) := (blk_cell BK263.out 0).trans rfl; have hcz30_1 : w29.cell? ⟨gb263, 1, none⟩ = some (.int .i64 a0_1) := (blk_cell BK263.out 1).trans rfl; have hcz30_2 : w29.cell? ⟨gb263, 2, none⟩ = some (.slice A0_2 l0_2.length c0_2) := (blk_cell BK263.out 2).trans rfl; have hcz30_3 : w29.cell? ⟨gb263, 3, none⟩ = some (.int .i64 a0_3) := (blk_cell BK263.out 3).trans rfl; have hcz30_4 : w29.cell? ⟨gb263, 4, none⟩ = some (.int .i64 a0_4) := (blk_cell BK263.out 4).trans rfl; have hcz30_5 : w29.cell? ⟨gb263, 5, none⟩ = some (.int .i64 a0_5) := (blk_cell BK263.out 5).trans rfl; have hcz30_6 : w29.cell? ⟨gb263, 6, none⟩ = some (.int .i64 a0_6) := (blk_cell BK263.out 6).trans rfl; have hfz30_0 := blk_frozen BK263.out 0; have hfz30_1 := blk_frozen BK263.out 1; have hfz30_2 := blk_frozen BK263.out 2; have hfz30_3 := blk_frozen BK263.out 3; have hfz30_4 := blk_frozen BK263.out 4; have hfz30_5 := blk_frozen BK263.out 5; have hfz30_6 := blk_frozen BK263.out 6))
       go_meet
       case rel => exact ⟨_, (decide ((t268.length : Int) > (wrap64 (t267 - (l0_2.length : Int))))), (by first | rfl | (simp; done) | (simp [*]; done)), H', ⟨by have := HJ4.out; first | omega | exact Nat.le_refl _⟩, ⟨by (with_reducible repeat (first | apply Kd.R_alloc | apply Kd.R_drewN | apply Kd.R_drew)); exact HO270.out⟩, ⟨by (with_reducible repeat (first | refine blk_drewN ?_ _ | refine blk_drew ?_ | refine blk_alloc ?_ _)); exact BK263.out⟩, ⟨by repeat (first | (with_reducible first | exact HB.out | apply below_alloc | apply pw_below_drewN | apply below_drew1 | refine below_set ?_ GE263.out) | exact HB.out)⟩⟩
      ·replace c26 := Bool.eq_false_iff.mpr c26
       subst c26
       have H1 : (lodgerlaw09_ModelCells.j1 kj4 l1 a3 (Int.tmod (wrap64 (a2)) t267) t268 true a0_0 a0_1 l0_2 a0_3 a0_4 a0_5 a0_6) = some r := by rw [if_neg (show ¬ (false = true) by decide)] at H; exact H
       clear H
       have H := H1
       clear H1
       have H' := Aside0.mk H
       clear H
       have hcz31_0 : w24.cell? ⟨gb263, 0, none⟩ = some (.int .u32 a0_0) := (blk_cell BK263.out 0).trans rfl
       have hcz31_1 : w24.cell? ⟨gb263, 1, none⟩ = some (.int .i64 a0_1) := (blk_cell BK263.out 1).trans rfl
       have hcz31_2 : w24.cell? ⟨gb263, 2, none⟩ = some (.slice A0_2 l0_2.length c0_2) := (blk_cell BK263.out 2).trans rfl
       have hcz31_3 : w24.cell? ⟨gb263, 3, none⟩ = some (.int .i64 a0_3) := (blk_cell BK263.out 3).trans rfl
       have hcz31_4 : w24.cell? ⟨gb263, 4, none⟩ = some (.int .i64 a0_4) := (blk_cell BK263.out 4).trans rfl
       have hcz31_5 : w24.cell? ⟨gb263, 5, none⟩ = some (.int .i64 a0_5) := (blk_cell BK263.out 5).trans rfl
       have hcz31_6 : w24.cell? ⟨gb263, 6, none⟩ = some (.int .i64 a0_6) := (blk_cell BK263.out 6).trans rfl
       have hfz31_0 := blk_frozen BK263.out 0
       have hfz31_1 := blk_frozen BK263.out 1
       have hfz31_2 := blk_frozen BK263.out 2
       have hfz31_3 := blk_frozen BK263.out 3
       have hfz31_4 := blk_frozen BK263.out 4
       have hfz31_5 := blk_frozen BK263.out 5
       have hfz31_6 := blk_frozen BK263.out 6
       obtain ⟨Ao32, co32, eo32⟩ := Kd.R_slice HO270.out
       subst eo32
       go_wp2_with (first | ((with_reducible refine gate_callee (f := 11) rfl ?_); refine goesL_ (some 36) rfl rfl Try.func11 (by kernel_rfl) rfl #[.agg #[.int .u32 a0_0, .int .i64 a0_1, .slice A0_2 l0_2.length c0_2, .int .i64 a0_3, .int .i64 a0_4, .int .i64 a0_5, .int .i64 a0_6], .slice Ao32 t268.length co32] rfl (by (try simp only [List.map_toArray, List.map_cons, List.map_nil]); first | done | rfl | (simp only [List.length_drop, List.length_take]; rfl)) ?_; (with_reducible refine (model_May.calls kj4 a0_0 a0_1 _ _ l0_2 a0_3 a0_4 a0_5 a0_6 _ _ t268 false _ ?side1 ?side2 ?side3 ?side4 A25.out).mono ?_); (case side1 => repeat (first | exact (Kd.C_below HR0_2.out HB.out) | (with_reducible refine Kd.C_alloc ?_ _) | (with_reducible refine Kd.C_drewN ?_ _) | (with_reducible refine Kd.C_drew ?_))); (case side2 => exact HC0_2.out); (case side3 => repeat (first | exact (Kd.R_reads' HO270.out).2.2 | (with_reducible refine Kd.C_alloc ?_ _) | (with_reducible refine Kd.C_drewN ?_ _) | (with_reducible refine Kd.C_drew ?_))); (case side4 => exact (Kd.R_reads' HO270.out).2.1); rintro e w33 ⟨rfl, hb⟩; refine ⟨_, rfl, ?_⟩; have n0_ := Aside0.mk (Kd.R_below (by (with_reducible repeat (first | apply Kd.R_alloc | apply Kd.R_drewN | apply Kd.R_drew)); exact HO270.out) hb); have n1_ := Aside0.mk (blk_below (g := gb263) (o := .cells #[.int .u32 a0_0, .int .i64 a0_1, .slice A0_2 l0_2.length c0_2, .int .i64 a0_3, .int .i64 a0_4, .int .i64 a0_5, .int .i64 a0_6] 27 (0, 0)) (by (with_reducible repeat (first | refine blk_drewN ?_ _ | refine blk_drew ?_ | refine blk_alloc ?_ _)); exact BK263.out) hb); have n2_ := Aside0.mk (below_step (by repeat (first | (with_reducible first | exact HB.out | apply below_alloc | apply pw_below_drewN | apply below_drew1 | refine below_set ?_ GE263.out) | exact HB.out)) hb); clear HO270; clear BK263; clear HB; have HO270 := n0_; have BK263 := n1_; have HB := n2_; clear n0_ n1_ n2_; (try clear hb); (try clear hb2); (try clear hk); (try clear hi)))
       go_meet
       case rel => exact ⟨_, (true), (by first | rfl | (simp; done) | (simp [*]; done)), H', ⟨by have := HJ4.out; first | omega | exact Nat.le_refl _⟩, ⟨by (with_reducible repeat (first | apply Kd.R_alloc | apply Kd.R_drewN | apply Kd.R_drew)); exact HO270.out⟩, ⟨by (with_reducible repeat (first | refine blk_drewN ?_ _ | refine blk_drew ?_ | refine blk_alloc ?_ _)); exact BK263.out⟩, ⟨by repeat (first | (with_reducible first | exact HB.out | apply below_alloc | apply pw_below_drewN | apply below_drew1 | refine below_set ?_ GE263.out) | exact HB.out)⟩⟩
     case rest =>
      clear HC20
      try clear c1
      try clear c2
      try clear p2
      try clear p6
      try clear c8
      try clear c9
      try clear c11
      try clear c14
      try clear c18
      try clear c18b0
      try clear c18b1
      try clear c22
      try clear c24
      try clear c26
      try clear hcz11_0
      try clear hcz11_1
      try clear hcz11_2
      try clear hcz11_3
      try clear hcz11_4
      try clear hcz11_5
      try clear hcz11_6
      try clear hcz21_0
      try clear hcz21_1
      try clear hcz21_2
      try clear hcz21_3
      try clear hcz21_4
      try clear hcz21_5
      try clear hcz21_6
      try clear hcz23_0
      try clear hcz23_1
      try clear hcz23_2
      try clear hcz23_3
      try clear hcz23_4
      try clear hcz23_5
      try clear hcz23_6
      try clear hcz27_0
      try clear hcz27_1
      try clear hcz27_2
      try clear hcz27_3
      try clear hcz27_4
      try clear hcz27_5
      try clear hcz27_6
      try clear hcz30_0
      try clear hcz30_1
      try clear hcz30_2
      try clear hcz30_3
      try clear hcz30_4
      try clear hcz30_5
      try clear hcz30_6
      try clear hcz31_0
      try clear hcz31_1
      try clear hcz31_2
      try clear hcz31_3
      try clear hcz31_4
      try clear hcz31_5
      try clear hcz31_6
      try clear hfz11_0
      try clear hfz11_1
      try clear hfz11_2
      try clear hfz11_3
      try clear hfz11_4
      try clear hfz11_5
      try clear hfz11_6
      try clear hfz21_0
      try clear hfz21_1
      try clear hfz21_2
      try clear hfz21_3
      try clear hfz21_4
      try clear hfz21_5
      try clear hfz21_6
      try clear hfz23_0
      try clear hfz23_1
      try clear hfz23_2
      try clear hfz23_3
      try clear hfz23_4
      try clear hfz23_5
      try clear hfz23_6
      try clear hfz27_0
      try clear hfz27_1
      try clear hfz27_2
      try clear hfz27_3
      try clear hfz27_4
      try clear hfz27_5
      try clear hfz27_6
      try clear hfz30_0
      try clear hfz30_1
      try clear hfz30_2
      try clear hfz30_3
      try clear hfz30_4
      try clear hfz30_5
      try clear hfz30_6
      try clear hfz31_0
      try clear hfz31_1
      try clear hfz31_2
      try clear hfz31_3
      try clear hfz31_4
      try clear hfz31_5
      try clear hfz31_6
      try clear p2
      obtain ⟨kq, x47_19, rfl, HA, HJ19, HO_11, BK263, HB⟩ := hcut
      cases kq with
      | zero => exact absurd HA.out (by simp [lodgerlaw09_ModelCells.j1])
      | succ kj19 =>
       have H := HA.out
       clear HA
       simp only [lodgerlaw09_ModelCells.j1] at H
       by_cases c34 : x47_19 = true
       ·subst c34
        have H1 : (some false) = some r := by rw [if_pos rfl] at H; exact H
        rw [hr_.out] at H1
        exact absurd (Option.some.inj H1) (by decide)
       ·replace c34 := Bool.eq_false_iff.mpr c34
        subst c34
        have H1 : (if 0 ≤ (wrap64 (Int.tdiv (Int.tmod (wrap64 (a2)) t267) 32)) then (if (wrap64 (Int.tdiv (Int.tmod (wrap64 (a2)) t267) 32)) < (l1.length : Int) then ((word_Claim.f (rd l1 (wrap64 (Int.tdiv (Int.tmod (wrap64 (a2)) t267) 32))) (Int.tmod (Int.tmod (wrap64 (a2)) t267) 32)).bind fun t273 => ((lodgerref02_Set.f kj19 l1 (wrap64 (Int.tdiv (Int.tmod (wrap64 (a2)) t267) 32)) t273).bind fun t274 => ((word_Drop.f (rd l1 (wrap64 (Int.tdiv (Int.tmod (wrap64 (a2)) t267) 32))) (Int.tmod (Int.tmod (wrap64 (a2)) t267) 32)).bind fun t278 => ((lodgerref02_Set.f kj19 l1 (wrap64 (Int.tdiv (Int.tmod (wrap64 (a2)) t267) 32)) t278).bind fun t279 => ((lodgerref02_Set.f kj19 l1 (wrap64 ((l1.length : Int) - 1)) a3).bind fun t282 => ((model_Of.f kj19 a0_0 a0_1 l0_2 a0_3 a0_4 a0_5 a0_6 t282).bind fun t285 => ((lodgerref03_Ints.f kj19 t285 t268).bind fun t288 => (if t288 = true then ((lodgerref05_Held.f kj19 a0_0 a0_1 l0_2 a0_3 a0_4 a0_5 a0_6 (Int.tmod (wrap64 (a2)) t267)).bind fun t289 => (if t289 = true then ((model_Of.f kj19 a0_0 a0_1 l0_2 a0_3 a0_4 a0_5 a0_6 t274).bind fun t290 => ((lodgerref03_Ints.f kj19 t290 t268).bind fun t293 => (if t293 = true then ((model_Of.f kj19 a0_0 a0_1 l0_2 a0_3 a0_4 a0_5 a0_6 t279).bind fun t294 => ((lodgerref03_Ints.f kj19 t294 t268).bind fun t297 => (some t297))) else (some false)))) else ((model_Of.f kj19 a0_0 a0_1 l0_2 a0_3 a0_4 a0_5 a0_6 t274).bind fun t298 => ((model_With.f kj19 t268 (Int.tmod (wrap64 (a2)) t267)).bind fun t301 => ((lodgerref03_Ints.f kj19 t298 t301).bind fun t304 => (if t304 = true then ((model_Of.f kj19 a0_0 a0_1 l0_2 a0_3 a0_4 a0_5 a0_6 t279).bind fun t305 => ((model_Without.f kj19 t268 (Int.tmod (wrap64 (a2)) t267)).bind fun t308 => ((lodgerref03_Ints.f kj19 t305 t308).bind fun t311 => (if t311 = true then ((model_Has.f kj19 t268 (Int.tmod (wrap64 (a2)) t267)).bind fun t312 => ((lodgerref01_Has.f kj19 (rd l1 (wrap64 (Int.tdiv (Int.tmod (wrap64 (a2)) t267) 32))) (Int.tmod (Int.tmod (wrap64 (a2)) t267) 32)).bind fun t314 => (some (t312 == t314)))) else (some false))))) else (some false))))))) else (some false))))))))) else (none)) else (none)) = some r := by rw [if_neg (show ¬ (false = true) by decide)] at H; exact H
        clear H
        have H := H1
        clear H1
        obtain ⟨ji35, hji35⟩ : ∃ j_ : Int, (wrap64 (Int.tdiv (Int.tmod (wrap64 (a2)) t267) 32)) = j_ := ⟨_, rfl⟩
        replace H : (if 0 ≤ (ji35) then (if (ji35) < (l1.length : Int) then ((word_Claim.f (rd l1 (ji35)) (Int.tmod (Int.tmod (wrap64 (a2)) t267) 32)).bind fun t273 => ((lodgerref02_Set.f kj19 l1 (ji35) t273).bind fun t274 => ((word_Drop.f (rd l1 (ji35)) (Int.tmod (Int.tmod (wrap64 (a2)) t267) 32)).bind fun t278 => ((lodgerref02_Set.f kj19 l1 (ji35) t278).bind fun t279 => ((lodgerref02_Set.f kj19 l1 (wrap64 ((l1.length : Int) - 1)) a3).bind fun t282 => ((model_Of.f kj19 a0_0 a0_1 l0_2 a0_3 a0_4 a0_5 a0_6 t282).bind fun t285 => ((lodgerref03_Ints.f kj19 t285 t268).bind fun t288 => (if t288 = true then ((lodgerref05_Held.f kj19 a0_0 a0_1 l0_2 a0_3 a0_4 a0_5 a0_6 (Int.tmod (wrap64 (a2)) t267)).bind fun t289 => (if t289 = true then ((model_Of.f kj19 a0_0 a0_1 l0_2 a0_3 a0_4 a0_5 a0_6 t274).bind fun t290 => ((lodgerref03_Ints.f kj19 t290 t268).bind fun t293 => (if t293 = true then ((model_Of.f kj19 a0_0 a0_1 l0_2 a0_3 a0_4 a0_5 a0_6 t279).bind fun t294 => ((lodgerref03_Ints.f kj19 t294 t268).bind fun t297 => (some t297))) else (some false)))) else ((model_Of.f kj19 a0_0 a0_1 l0_2 a0_3 a0_4 a0_5 a0_6 t274).bind fun t298 => ((model_With.f kj19 t268 (Int.tmod (wrap64 (a2)) t267)).bind fun t301 => ((lodgerref03_Ints.f kj19 t298 t301).bind fun t304 => (if t304 = true then ((model_Of.f kj19 a0_0 a0_1 l0_2 a0_3 a0_4 a0_5 a0_6 t279).bind fun t305 => ((model_Without.f kj19 t268 (Int.tmod (wrap64 (a2)) t267)).bind fun t308 => ((lodgerref03_Ints.f kj19 t305 t308).bind fun t311 => (if t311 = true then ((model_Has.f kj19 t268 (Int.tmod (wrap64 (a2)) t267)).bind fun t312 => ((lodgerref01_Has.f kj19 (rd l1 (ji35)) (Int.tmod (Int.tmod (wrap64 (a2)) t267) 32)).bind fun t314 => (some (t312 == t314)))) else (some false))))) else (some false))))))) else (some false))))))))) else (none)) else (none)) = some r := by first | (rw [hji35] at H; exact H) | (simp only [hji35] at H ⊢; exact H)
        have hji35w : (IntKind.i64.wrap (Int.tdiv (Int.tmod (wrap64 (a2)) t267) 32)) = ji35 := (i64_w _).trans hji35
        by_cases c36 : 0 ≤ (ji35)
        ·rw [if_pos c36] at H
         have c36b0 : decide (0 ≤ (ji35)) = true := decide_eq_true c36
         clear c36
         by_cases c37 : (ji35) < (l1.length : Int)
         ·rw [if_pos c37] at H
          have c37b0 : decide ((ji35) < (l1.length : Int)) = true := decide_eq_true c37
          clear c37
          replace H := Option.bind_eq_some_iff.mp H
          obtain ⟨t273, A380, H⟩ := H
          replace H : ((lodgerref02_Set.f kj19 l1 (ji35) t273).bind fun t274 => ((word_Drop.f (rd l1 (ji35)) (Int.tmod (Int.tmod (wrap64 (a2)) t267) 32)).bind fun t278 => ((lodgerref02_Set.f kj19 l1 (ji35) t278).bind fun t279 => ((lodgerref02_Set.f kj19 l1 (wrap64 ((l1.length : Int) - 1)) a3).bind fun t282 => ((model_Of.f kj19 a0_0 a0_1 l0_2 a0_3 a0_4 a0_5 a0_6 t282).bind fun t285 => ((lodgerref03_Ints.f kj19 t285 t268).bind fun t288 => (if t288 = true then ((lodgerref05_Held.f kj19 a0_0 a0_1 l0_2 a0_3 a0_4 a0_5 a0_6 (Int.tmod (wrap64 (a2)) t267)).bind fun t289 => (if t289 = true then ((model_Of.f kj19 a0_0 a0_1 l0_2 a0_3 a0_4 a0_5 a0_6 t274).bind fun t290 => ((lodgerref03_Ints.f kj19 t290 t268).bind fun t293 => (if t293 = true then ((model_Of.f kj19 a0_0 a0_1 l0_2 a0_3 a0_4 a0_5 a0_6 t279).bind fun t294 => ((lodgerref03_Ints.f kj19 t294 t268).bind fun t297 => (some t297))) else (some false)))) else ((model_Of.f kj19 a0_0 a0_1 l0_2 a0_3 a0_4 a0_5 a0_6 t274).bind fun t298 => ((model_With.f kj19 t268 (Int.tmod (wrap64 (a2)) t267)).bind fun t301 => ((lodgerref03_Ints.f kj19 t298 t301).bind fun t304 => (if t304 = true then ((model_Of.f kj19 a0_0 a0_1 l0_2 a0_3 a0_4 a0_5 a0_6 t279).bind fun t305 => ((model_Without.f kj19 t268 (Int.tmod (wrap64 (a2)) t267)).bind fun t308 => ((lodgerref03_Ints.f kj19 t305 t308).bind fun t311 => (if t311 = true then ((model_Has.f kj19 t268 (Int.tmod (wrap64 (a2)) t267)).bind fun t312 => ((lodgerref01_Has.f kj19 (rd l1 (ji35)) (Int.tmod (Int.tmod (wrap64 (a2)) t267) 32)).bind fun t314 => (some (t312 == t314)))) else (some false))))) else (some false))))))) else (some false)))))))) = some r := H
          have A38 := Aside0.mk A380
          clear A380
          replace H := Option.bind_eq_some_iff.mp H
          obtain ⟨t274, A390, H⟩ := H
          replace H : ((word_Drop.f (rd l1 (ji35)) (Int.tmod (Int.tmod (wrap64 (a2)) t267) 32)).bind fun t278 => ((lodgerref02_Set.f kj19 l1 (ji35) t278).bind fun t279 => ((lodgerref02_Set.f kj19 l1 (wrap64 ((l1.length : Int) - 1)) a3).bind fun t282 => ((model_Of.f kj19 a0_0 a0_1 l0_2 a0_3 a0_4 a0_5 a0_6 t282).bind fun t285 => ((lodgerref03_Ints.f kj19 t285 t268).bind fun t288 => (if t288 = true then ((lodgerref05_Held.f kj19 a0_0 a0_1 l0_2 a0_3 a0_4 a0_5 a0_6 (Int.tmod (wrap64 (a2)) t267)).bind fun t289 => (if t289 = true then ((model_Of.f kj19 a0_0 a0_1 l0_2 a0_3 a0_4 a0_5 a0_6 t274).bind fun t290 => ((lodgerref03_Ints.f kj19 t290 t268).bind fun t293 => (if t293 = true then ((model_Of.f kj19 a0_0 a0_1 l0_2 a0_3 a0_4 a0_5 a0_6 t279).bind fun t294 => ((lodgerref03_Ints.f kj19 t294 t268).bind fun t297 => (some t297))) else (some false)))) else ((model_Of.f kj19 a0_0 a0_1 l0_2 a0_3 a0_4 a0_5 a0_6 t274).bind fun t298 => ((model_With.f kj19 t268 (Int.tmod (wrap64 (a2)) t267)).bind fun t301 => ((lodgerref03_Ints.f kj19 t298 t301).bind fun t304 => (if t304 = true then ((model_Of.f kj19 a0_0 a0_1 l0_2 a0_3 a0_4 a0_5 a0_6 t279).bind fun t305 => ((model_Without.f kj19 t268 (Int.tmod (wrap64 (a2)) t267)).bind fun t308 => ((lodgerref03_Ints.f kj19 t305 t308).bind fun t311 => (if t311 = true then ((model_Has.f kj19 t268 (Int.tmod (wrap64 (a2)) t267)).bind fun t312 => ((lodgerref01_Has.f kj19 (rd l1 (ji35)) (Int.tmod (Int.tmod (wrap64 (a2)) t267) 32)).bind fun t314 => (some (t312 == t314)))) else (some false))))) else (some false))))))) else (some false))))))) = some r := H
          have A39 := Aside0.mk A390
          clear A390
          replace H := Option.bind_eq_some_iff.mp H
          obtain ⟨t278, A400, H⟩ := H
          replace H : ((lodgerref02_Set.f kj19 l1 (ji35) t278).bind fun t279 => ((lodgerref02_Set.f kj19 l1 (wrap64 ((l1.length : Int) - 1)) a3).bind fun t282 => ((model_Of.f kj19 a0_0 a0_1 l0_2 a0_3 a0_4 a0_5 a0_6 t282).bind fun t285 => ((lodgerref03_Ints.f kj19 t285 t268).bind fun t288 => (if t288 = true then ((lodgerref05_Held.f kj19 a0_0 a0_1 l0_2 a0_3 a0_4 a0_5 a0_6 (Int.tmod (wrap64 (a2)) t267)).bind fun t289 => (if t289 = true then ((model_Of.f kj19 a0_0 a0_1 l0_2 a0_3 a0_4 a0_5 a0_6 t274).bind fun t290 => ((lodgerref03_Ints.f kj19 t290 t268).bind fun t293 => (if t293 = true then ((model_Of.f kj19 a0_0 a0_1 l0_2 a0_3 a0_4 a0_5 a0_6 t279).bind fun t294 => ((lodgerref03_Ints.f kj19 t294 t268).bind fun t297 => (some t297))) else (some false)))) else ((model_Of.f kj19 a0_0 a0_1 l0_2 a0_3 a0_4 a0_5 a0_6 t274).bind fun t298 => ((model_With.f kj19 t268 (Int.tmod (wrap64 (a2)) t267)).bind fun t301 => ((lodgerref03_Ints.f kj19 t298 t301).bind fun t304 => (if t304 = true then ((model_Of.f kj19 a0_0 a0_1 l0_2 a0_3 a0_4 a0_5 a0_6 t279).bind fun t305 => ((model_Without.f kj19 t268 (Int.tmod (wrap64 (a2)) t267)).bind fun t308 => ((lodgerref03_Ints.f kj19 t305 t308).bind fun t311 => (if t311 = true then ((model_Has.f kj19 t268 (Int.tmod (wrap64 (a2)) t267)).bind fun t312 => ((lodgerref01_Has.f kj19 (rd l1 (ji35)) (Int.tmod (Int.tmod (wrap64 (a2)) t267) 32)).bind fun t314 => (some (t312 == t314)))) else (some false))))) else (some false))))))) else (some false)))))) = some r := H
          have A40 := Aside0.mk A400
          clear A400
          replace H := Option.bind_eq_some_iff.mp H
          obtain ⟨t279, A410, H⟩ := H
          replace H : ((lodgerref02_Set.f kj19 l1 (wrap64 ((l1.length : Int) - 1)) a3).bind fun t282 => ((model_Of.f kj19 a0_0 a0_1 l0_2 a0_3 a0_4 a0_5 a0_6 t282).bind fun t285 => ((lodgerref03_Ints.f kj19 t285 t268).bind fun t288 => (if t288 = true then ((lodgerref05_Held.f kj19 a0_0 a0_1 l0_2 a0_3 a0_4 a0_5 a0_6 (Int.tmod (wrap64 (a2)) t267)).bind fun t289 => (if t289 = true then ((model_Of.f kj19 a0_0 a0_1 l0_2 a0_3 a0_4 a0_5 a0_6 t274).bind fun t290 => ((lodgerref03_Ints.f kj19 t290 t268).bind fun t293 => (if t293 = true then ((model_Of.f kj19 a0_0 a0_1 l0_2 a0_3 a0_4 a0_5 a0_6 t279).bind fun t294 => ((lodgerref03_Ints.f kj19 t294 t268).bind fun t297 => (some t297))) else (some false)))) else ((model_Of.f kj19 a0_0 a0_1 l0_2 a0_3 a0_4 a0_5 a0_6 t274).bind fun t298 => ((model_With.f kj19 t268 (Int.tmod (wrap64 (a2)) t267)).bind fun t301 => ((lodgerref03_Ints.f kj19 t298 t301).bind fun t304 => (if t304 = true then ((model_Of.f kj19 a0_0 a0_1 l0_2 a0_3 a0_4 a0_5 a0_6 t279).bind fun t305 => ((model_Without.f kj19 t268 (Int.tmod (wrap64 (a2)) t267)).bind fun t308 => ((lodgerref03_Ints.f kj19 t305 t308).bind fun t311 => (if t311 = true then ((model_Has.f kj19 t268 (Int.tmod (wrap64 (a2)) t267)).bind fun t312 => ((lodgerref01_Has.f kj19 (rd l1 (ji35)) (Int.tmod (Int.tmod (wrap64 (a2)) t267) 32)).bind fun t314 => (some (t312 == t314)))) else (some false))))) else (some false))))))) else (some false))))) = some r := H
          have A41 := Aside0.mk A410
          clear A410
          replace H := Option.bind_eq_some_iff.mp H
          obtain ⟨t282, A420, H⟩ := H
          replace H : ((model_Of.f kj19 a0_0 a0_1 l0_2 a0_3 a0_4 a0_5 a0_6 t282).bind fun t285 => ((lodgerref03_Ints.f kj19 t285 t268).bind fun t288 => (if t288 = true then ((lodgerref05_Held.f kj19 a0_0 a0_1 l0_2 a0_3 a0_4 a0_5 a0_6 (Int.tmod (wrap64 (a2)) t267)).bind fun t289 => (if t289 = true then ((model_Of.f kj19 a0_0 a0_1 l0_2 a0_3 a0_4 a0_5 a0_6 t274).bind fun t290 => ((lodgerref03_Ints.f kj19 t290 t268).bind fun t293 => (if t293 = true then ((model_Of.f kj19 a0_0 a0_1 l0_2 a0_3 a0_4 a0_5 a0_6 t279).bind fun t294 => ((lodgerref03_Ints.f kj19 t294 t268).bind fun t297 => (some t297))) else (some false)))) else ((model_Of.f kj19 a0_0 a0_1 l0_2 a0_3 a0_4 a0_5 a0_6 t274).bind fun t298 => ((model_With.f kj19 t268 (Int.tmod (wrap64 (a2)) t267)).bind fun t301 => ((lodgerref03_Ints.f kj19 t298 t301).bind fun t304 => (if t304 = true then ((model_Of.f kj19 a0_0 a0_1 l0_2 a0_3 a0_4 a0_5 a0_6 t279).bind fun t305 => ((model_Without.f kj19 t268 (Int.tmod (wrap64 (a2)) t267)).bind fun t308 => ((lodgerref03_Ints.f kj19 t305 t308).bind fun t311 => (if t311 = true then ((model_Has.f kj19 t268 (Int.tmod (wrap64 (a2)) t267)).bind fun t312 => ((lodgerref01_Has.f kj19 (rd l1 (ji35)) (Int.tmod (Int.tmod (wrap64 (a2)) t267) 32)).bind fun t314 => (some (t312 == t314)))) else (some false))))) else (some false))))))) else (some false)))) = some r := H
          have A42 := Aside0.mk A420
          clear A420
          replace H := Option.bind_eq_some_iff.mp H
          obtain ⟨t285, A430, H⟩ := H
          replace H : ((lodgerref03_Ints.f kj19 t285 t268).bind fun t288 => (if t288 = true then ((lodgerref05_Held.f kj19 a0_0 a0_1 l0_2 a0_3 a0_4 a0_5 a0_6 (Int.tmod (wrap64 (a2)) t267)).bind fun t289 => (if t289 = true then ((model_Of.f kj19 a0_0 a0_1 l0_2 a0_3 a0_4 a0_5 a0_6 t274).bind fun t290 => ((lodgerref03_Ints.f kj19 t290 t268).bind fun t293 => (if t293 = true then ((model_Of.f kj19 a0_0 a0_1 l0_2 a0_3 a0_4 a0_5 a0_6 t279).bind fun t294 => ((lodgerref03_Ints.f kj19 t294 t268).bind fun t297 => (some t297))) else (some false)))) else ((model_Of.f kj19 a0_0 a0_1 l0_2 a0_3 a0_4 a0_5 a0_6 t274).bind fun t298 => ((model_With.f kj19 t268 (Int.tmod (wrap64 (a2)) t267)).bind fun t301 => ((lodgerref03_Ints.f kj19 t298 t301).bind fun t304 => (if t304 = true then ((model_Of.f kj19 a0_0 a0_1 l0_2 a0_3 a0_4 a0_5 a0_6 t279).bind fun t305 => ((model_Without.f kj19 t268 (Int.tmod (wrap64 (a2)) t267)).bind fun t308 => ((lodgerref03_Ints.f kj19 t305 t308).bind fun t311 => (if t311 = true then ((model_Has.f kj19 t268 (Int.tmod (wrap64 (a2)) t267)).bind fun t312 => ((lodgerref01_Has.f kj19 (rd l1 (ji35)) (Int.tmod (Int.tmod (wrap64 (a2)) t267) 32)).bind fun t314 => (some (t312 == t314)))) else (some false))))) else (some false))))))) else (some false))) = some r := H
          have A43 := Aside0.mk A430
          clear A430
          replace H := Option.bind_eq_some_iff.mp H
          obtain ⟨t288, A440, H⟩ := H
          replace H : (if t288 = true then ((lodgerref05_Held.f kj19 a0_0 a0_1 l0_2 a0_3 a0_4 a0_5 a0_6 (Int.tmod (wrap64 (a2)) t267)).bind fun t289 => (if t289 = true then ((model_Of.f kj19 a0_0 a0_1 l0_2 a0_3 a0_4 a0_5 a0_6 t274).bind fun t290 => ((lodgerref03_Ints.f kj19 t290 t268).bind fun t293 => (if t293 = true then ((model_Of.f kj19 a0_0 a0_1 l0_2 a0_3 a0_4 a0_5 a0_6 t279).bind fun t294 => ((lodgerref03_Ints.f kj19 t294 t268).bind fun t297 => (some t297))) else (some false)))) else ((model_Of.f kj19 a0_0 a0_1 l0_2 a0_3 a0_4 a0_5 a0_6 t274).bind fun t298 => ((model_With.f kj19 t268 (Int.tmod (wrap64 (a2)) t267)).bind fun t301 => ((lodgerref03_Ints.f kj19 t298 t301).bind fun t304 => (if t304 = true then ((model_Of.f kj19 a0_0 a0_1 l0_2 a0_3 a0_4 a0_5 a0_6 t279).bind fun t305 => ((model_Without.f kj19 t268 (Int.tmod (wrap64 (a2)) t267)).bind fun t308 => ((lodgerref03_Ints.f kj19 t305 t308).bind fun t311 => (if t311 = true then ((model_Has.f kj19 t268 (Int.tmod (wrap64 (a2)) t267)).bind fun t312 => ((lodgerref01_Has.f kj19 (rd l1 (ji35)) (Int.tmod (Int.tmod (wrap64 (a2)) t267) 32)).bind fun t314 => (some (t312 == t314)))) else (some false))))) else (some false))))))) else (some false)) = some r := H
          have A44 := Aside0.mk A440
          clear A440
          by_cases c45 : t288 = true
          ·subst c45
           have H1 : ((lodgerref05_Held.f kj19 a0_0 a0_1 l0_2 a0_3 a0_4 a0_5 a0_6 (Int.tmod (wrap64 (a2)) t267)).bind fun t289 => (if t289 = true then ((model_Of.f kj19 a0_0 a0_1 l0_2 a0_3 a0_4 a0_5 a0_6 t274).bind fun t290 => ((lodgerref03_Ints.f kj19 t290 t268).bind fun t293 => (if t293 = true then ((model_Of.f kj19 a0_0 a0_1 l0_2 a0_3 a0_4 a0_5 a0_6 t279).bind fun t294 => ((lodgerref03_Ints.f kj19 t294 t268).bind fun t297 => (some t297))) else (some false)))) else ((model_Of.f kj19 a0_0 a0_1 l0_2 a0_3 a0_4 a0_5 a0_6 t274).bind fun t298 => ((model_With.f kj19 t268 (Int.tmod (wrap64 (a2)) t267)).bind fun t301 => ((lodgerref03_Ints.f kj19 t298 t301).bind fun t304 => (if t304 = true then ((model_Of.f kj19 a0_0 a0_1 l0_2 a0_3 a0_4 a0_5 a0_6 t279).bind fun t305 => ((model_Without.f kj19 t268 (Int.tmod (wrap64 (a2)) t267)).bind fun t308 => ((lodgerref03_Ints.f kj19 t305 t308).bind fun t311 => (if t311 = true then ((model_Has.f kj19 t268 (Int.tmod (wrap64 (a2)) t267)).bind fun t312 => ((lodgerref01_Has.f kj19 (rd l1 (ji35)) (Int.tmod (Int.tmod (wrap64 (a2)) t267) 32)).bind fun t314 => (some (t312 == t314)))) else (some false))))) else (some false))))))) = some r := by rw [if_pos rfl] at H; exact H
           clear H
           have H := H1
           clear H1
           replace H := Option.bind_eq_some_iff.mp H
           obtain ⟨t289, A460, H⟩ := H
           replace H : (if t289 = true then ((model_Of.f kj19 a0_0 a0_1 l0_2 a0_3 a0_4 a0_5 a0_6 t274).bind fun t290 => ((lodgerref03_Ints.f kj19 t290 t268).bind fun t293 => (if t293 = true then ((model_Of.f kj19 a0_0 a0_1 l0_2 a0_3 a0_4 a0_5 a0_6 t279).bind fun t294 => ((lodgerref03_Ints.f kj19 t294 t268).bind fun t297 => (some t297))) else (some false)))) else ((model_Of.f kj19 a0_0 a0_1 l0_2 a0_3 a0_4 a0_5 a0_6 t274).bind fun t298 => ((model_With.f kj19 t268 (Int.tmod (wrap64 (a2)) t267)).bind fun t301 => ((lodgerref03_Ints.f kj19 t298 t301).bind fun t304 => (if t304 = true then ((model_Of.f kj19 a0_0 a0_1 l0_2 a0_3 a0_4 a0_5 a0_6 t279).bind fun t305 => ((model_Without.f kj19 t268 (Int.tmod (wrap64 (a2)) t267)).bind fun t308 => ((lodgerref03_Ints.f kj19 t305 t308).bind fun t311 => (if t311 = true then ((model_Has.f kj19 t268 (Int.tmod (wrap64 (a2)) t267)).bind fun t312 => ((lodgerref01_Has.f kj19 (rd l1 (ji35)) (Int.tmod (Int.tmod (wrap64 (a2)) t267) 32)).bind fun t314 => (some (t312 == t314)))) else (some false))))) else (some false)))))) = some r := H
           have A46 := Aside0.mk A460
           clear A460
           by_cases c47 : t289 = true
           ·subst c47
            have H1 : ((model_Of.f kj19 a0_0 a0_1 l0_2 a0_3 a0_4 a0_5 a0_6 t274).bind fun t290 => ((lodgerref03_Ints.f kj19 t290 t268).bind fun t293 => (if t293 = true then ((model_Of.f kj19 a0_0 a0_1 l0_2 a0_3 a0_4 a0_5 a0_6 t279).bind fun t294 => ((lodgerref03_Ints.f kj19 t294 t268).bind fun t297 => (some t297))) else (some false)))) = some r := by rw [if_pos rfl] at H; exact H
            clear H
            have H := H1
            clear H1
            replace H := Option.bind_eq_some_iff.mp H
            obtain ⟨t290, A480, H⟩ := H
            replace H : ((lodgerref03_Ints.f kj19 t290 t268).bind fun t293 => (if t293 = true then ((model_Of.f kj19 a0_0 a0_1 l0_2 a0_3 a0_4 a0_5 a0_6 t279).bind fun t294 => ((lodgerref03_Ints.f kj19 t294 t268).bind fun t297 => (some t297))) else (some false))) = some r := H
            have A48 := Aside0.mk A480
            clear A480
            replace H := Option.bind_eq_some_iff.mp H
            obtain ⟨t293, A490, H⟩ := H
            replace H : (if t293 = true then ((model_Of.f kj19 a0_0 a0_1 l0_2 a0_3 a0_4 a0_5 a0_6 t279).bind fun t294 => ((lodgerref03_Ints.f kj19 t294 t268).bind fun t297 => (some t297))) else (some false)) = some r := H
            have A49 := Aside0.mk A490
            clear A490
            by_cases c50 : t293 = true
            ·subst c50
             have H1 : ((model_Of.f kj19 a0_0 a0_1 l0_2 a0_3 a0_4 a0_5 a0_6 t279).bind fun t294 => ((lodgerref03_Ints.f kj19 t294 t268).bind fun t297 => (some t297))) = some r := by rw [if_pos rfl] at H; exact H
             clear H
             have H := H1
             clear H1
             replace H := Option.bind_eq_some_iff.mp H
             obtain ⟨t294, A510, H⟩ := H
             replace H : ((lodgerref03_Ints.f kj19 t294 t268).bind fun t297 => (some t297)) = some r := H
             have A51 := Aside0.mk A510
             clear A510
             replace H := Option.bind_eq_some_iff.mp H
             obtain ⟨t297, A520, H⟩ := H
             replace H : (some t297) = some r := H
             have A52 := Aside0.mk A520
             clear A520
             first | (exfalso; rw [hr_.out] at H; exact absurd (Option.some.inj H) (by decide)) | (try clear hr_)
             all_goals
              obtain rfl := Option.some.inj H
              have p272 : 0 ≤ ((ji35) : Int) := of_decide_eq_true (by first | (with_reducible assumption) | assumption)
              have q272 : (ji35) < (l1.length : Int) := of_decide_eq_true (by first | (with_reducible assumption) | assumption)
              obtain ⟨ad272, e272, hx272_0⟩ := Kd.at_int HR1.out (ji35) p272 q272
              cases e272
              replace hx272_0 := (HB.out.cell (World.block_lt_of_cell? w _ hx272_0)).trans hx272_0
              replace p272 := eq_true p272
              replace q272 := eq_true q272
              go_wp2_with (first | ((with_reducible refine gate_callee (f := 32) rfl ?_); refine goesL_ (some 58) rfl rfl Try.func32 (by kernel_rfl) rfl #[.int .u64 (rd l1 (ji35)), .int .i64 (Int.tmod (Int.tmod (wrap64 (a2)) t267) 32)] rfl (by (try simp only [List.map_toArray, List.map_cons, List.map_nil]); first | done | (simp only [hji35]; rfl) | rfl | (simp only [List.length_drop, List.length_take]; rfl)) ?_; (with_reducible refine (word_Claim.calls (rd l1 (ji35)) (Int.tmod (Int.tmod (wrap64 (a2)) t267) 32) t273 _ A38.out).mono ?_); rintro e w' ⟨rfl, ⟨nd, rfl⟩⟩; refine ⟨_, rfl, ?_⟩) | ((with_reducible refine gate_callee (f := 31) rfl ?_); refine goesL_ (some 59) rfl rfl Try.func31 (by kernel_rfl) rfl #[.slice (some ad272) l1.length c1, .int .i64 ji35, .int .u64 t273] rfl (by (try simp only [List.map_toArray, List.map_cons, List.map_nil]); first | done | (simp only [hji35]; rfl) | rfl | (simp only [List.length_drop, List.length_take]; rfl)) ?_; (with_reducible refine (lodgerref02_Set.calls kj19 _ _ l1 ji35 t273 t274 _ ?side1 ?side2 A39.out).mono ?_); (case side1 => repeat (first | exact (Kd.C_below HR1.out (by repeat (first | (with_reducible first | exact HB.out | apply below_alloc | apply pw_below_drewN | apply below_drew1 | refine below_set ?_ GE263.out) | exact HB.out))) | (with_reducible refine Kd.C_alloc ?_ _) | (with_reducible refine Kd.C_drewN ?_ _) | (with_reducible refine Kd.C_drew ?_))); (case side2 => exact HC1.out); rintro e w53 ⟨v275, rfl, ho0, hb⟩; refine ⟨_, rfl, ?_⟩; have n0_ := Aside0.mk (Kd.R_below (by (with_reducible repeat (first | apply Kd.R_alloc | apply Kd.R_drewN | apply Kd.R_drew)); exact HO_11.out) hb); have n1_ := Aside0.mk (Kd.R_lower ho0 (below_size (by repeat (first | (with_reducible first | exact HB.out | apply below_alloc | apply pw_below_drewN | apply below_drew1 | refine below_set ?_ GE263.out) | exact HB.out)))); have n2_ := Aside0.mk (blk_below (g := gb263) (o := .cells #[.int .u32 a0_0, .int .i64 a0_1, .slice A0_2 l0_2.length c0_2, .int .i64 a0_3, .int .i64 a0_4, .int .i64 a0_5, .int .i64 a0_6] 27 (0, 0)) (by (with_reducible repeat (first | refine blk_drewN ?_ _ | refine blk_drew ?_ | refine blk_alloc ?_ _)); exact BK263.out) hb); have n3_ := Aside0.mk (below_step (by repeat (first | (with_reducible first | exact HB.out | apply below_alloc | apply pw_below_drewN | apply below_drew1 | refine below_set ?_ GE263.out) | exact HB.out)) hb); clear HO_11; clear BK263; clear HB; have HO_11 := n0_; have HO276 := n1_; have BK263 := n2_; have HB := n3_; clear n0_ n1_ n2_ n3_; (try clear hb); (try clear hb2); (try clear hk); (try clear hi); (try clear ho0); have p277 : 0 ≤ ((ji35) : Int) := of_decide_eq_true (by first | (with_reducible assumption) | assumption); have q277 : (ji35) < (l1.length : Int) := of_decide_eq_true (by first | (with_reducible assumption) | assumption); obtain ⟨ad277, e277, hx277_0⟩ := Kd.at_int HR1.out (ji35) p277 q277; obtain rfl : ad272 = ad277 := (by injection e277); replace hx277_0 := (HB.out.cell (World.block_lt_of_cell? w _ hx277_0)).trans hx277_0; replace p277 := eq_true p277; replace q277 := eq_true q277) | ((with_reducible refine gate_callee (f := 33) rfl ?_); refine goesL_ (some 70) rfl rfl Try.func33 (by kernel_rfl) rfl #[.int .u64 (rd l1 (ji35)), .int .i64 (Int.tmod (Int.tmod (wrap64 (a2)) t267) 32)] rfl (by (try simp only [List.map_toArray, List.map_cons, List.map_nil]); first | done | (simp only [hji35]; rfl) | rfl | (simp only [List.length_drop, List.length_take]; rfl)) ?_; (with_reducible refine (word_Drop.calls (rd l1 (ji35)) (Int.tmod (Int.tmod (wrap64 (a2)) t267) 32) t278 _ A40.out).mono ?_); rintro e w' ⟨rfl, ⟨nd, rfl⟩⟩; refine ⟨_, rfl, ?_⟩) | ((with_reducible refine gate_callee (f := 31) rfl ?_); refine goesL_ (some 71) rfl rfl Try.func31 (by kernel_rfl) rfl #[.slice (some ad272) l1.length c1, .int .i64 ji35, .int .u64 t278] rfl (by (try simp only [List.map_toArray, List.map_cons, List.map_nil]); first | done | (simp only [hji35]; rfl) | rfl | (simp only [List.length_drop, List.length_take]; rfl)) ?_; (with_reducible refine (lodgerref02_Set.calls kj19 _ _ l1 ji35 t278 t279 _ ?side1 ?side2 A41.out).mono ?_); (case side1 => repeat (first | exact (Kd.C_below HR1.out (by repeat (first | (with_reducible first | exact HB.out | apply below_alloc | apply pw_below_drewN | apply below_drew1 | refine below_set ?_ GE263.out) | exact HB.out))) | (with_reducible refine Kd.C_alloc ?_ _) | (with_reducible refine Kd.C_drewN ?_ _) | (with_reducible refine Kd.C_drew ?_))); (case side2 => exact HC1.out); rintro e w54 ⟨v280, rfl, ho0, hb⟩; refine ⟨_, rfl, ?_⟩; have n0_ := Aside0.mk (Kd.R_below (by (with_reducible repeat (first | apply Kd.R_alloc | apply Kd.R_drewN | apply Kd.R_drew)); exact HO_11.out) hb); have n1_ := Aside0.mk (Kd.R_elder' (by (with_reducible repeat (first | apply Kd.R_alloc | apply Kd.R_drewN | apply Kd.R_drew)); exact HO276.out) (Kd.R_base ho0) hb); have n2_ := Aside0.mk (Kd.R_lower (Kd.R_new' ho0 (Kd.R_lt (by (with_reducible repeat (first | apply Kd.R_alloc | apply Kd.R_drewN | apply Kd.R_drew)); exact HO276.out))) (below_size (by repeat (first | (with_reducible first | exact HB.out | apply below_alloc | apply pw_below_drewN | apply below_drew1 | refine below_set ?_ GE263.out) | exact HB.out)))); have n3_ := Aside0.mk (blk_below (g := gb263) (o := .cells #[.int .u32 a0_0, .int .i64 a0_1, .slice A0_2 l0_2.length c0_2, .int .i64 a0_3, .int .i64 a0_4, .int .i64 a0_5, .int .i64 a0_6] 27 (0, 0)) (by (with_reducible repeat (first | refine blk_drewN ?_ _ | refine blk_drew ?_ | refine blk_alloc ?_ _)); exact BK263.out) hb); have n4_ := Aside0.mk (below_step (by repeat (first | (with_reducible first | exact HB.out | apply below_alloc | apply pw_below_drewN | apply below_drew1 | refine below_set ?_ GE263.out) | exact HB.out)) hb); clear HO_11; clear HO276; clear BK263; clear HB; have HO_11 := n0_; have HO276 := n1_; have HO281 := n2_; have BK263 := n3_; have HB := n4_; clear n0_ n1_ n2_ n3_ n4_; (try clear hb); (try clear hb2); (try clear hk); (try clear hi); (try clear ho0)) | ((with_reducible refine gate_callee (f := 31) rfl ?_); refine goesL_ (some 77) rfl rfl Try.func31 (by kernel_rfl) rfl #[.slice (some ad272) l1.length c1, .int .i64 (wrap64 ((l1.length : Int) - 1)), .int .u64 a3] rfl (by (try simp only [List.map_toArray, List.map_cons, List.map_nil]); first | done | rfl | (simp only [List.length_drop, List.length_take]; rfl)) ?_; (with_reducible refine (lodgerref02_Set.calls kj19 _ _ l1 (wrap64 ((l1.length : Int) - 1)) a3 t282 _ ?side1 ?side2 A42.out).mono ?_); (case side1 => repeat (first | exact (Kd.C_below HR1.out HB.out) | (with_reducible refine Kd.C_alloc ?_ _) | (with_reducible refine Kd.C_drewN ?_ _) | (with_reducible refine Kd.C_drew ?_))); (case side2 => exact HC1.out); rintro e w55 ⟨v283, rfl, ho0, hb⟩; refine ⟨_, rfl, ?_⟩; have n0_ := Aside0.mk (Kd.R_below (by (with_reducible repeat (first | apply Kd.R_alloc | apply Kd.R_drewN | apply Kd.R_drew)); exact HO_11.out) hb); have n1_ := Aside0.mk (Kd.R_elder' (by (with_reducible repeat (first | apply Kd.R_alloc | apply Kd.R_drewN | apply Kd.R_drew)); exact HO276.out) (Kd.R_base ho0) hb); have n2_ := Aside0.mk (Kd.R_elder' (by (with_reducible repeat (first | apply Kd.R_alloc | apply Kd.R_drewN | apply Kd.R_drew)); exact HO281.out) (Kd.R_base ho0) hb); have n3_ := Aside0.mk (Kd.R_lower (Kd.R_new' (Kd.R_new' ho0 (Kd.R_lt (by (with_reducible repeat (first | apply Kd.R_alloc | apply Kd.R_drewN | apply Kd.R_drew)); exact HO276.out))) (Kd.R_lt (by (with_reducible repeat (first | apply Kd.R_alloc | apply Kd.R_drewN | apply Kd.R_drew)); exact HO281.out))) (below_size (by repeat (first | (with_reducible first | exact HB.out | apply below_alloc | apply pw_below_drewN | apply below_drew1 | refine below_set ?_ GE263.out) | exact HB.out)))); have n4_ := Aside0.mk (blk_below (g := gb263) (o := .cells #[.int .u32 a0_0, .int .i64 a0_1, .slice A0_2 l0_2.length c0_2, .int .i64 a0_3, .int .i64 a0_4, .int .i64 a0_5, .int .i64 a0_6] 27 (0, 0)) (by (with_reducible repeat (first | refine blk_drewN ?_ _ | refine blk_drew ?_ | refine blk_alloc ?_ _)); exact BK263.out) hb); have n5_ := Aside0.mk (below_step (by repeat (first | (with_reducible first | exact HB.out | apply below_alloc | apply pw_below_drewN | apply below_drew1 | refine below_set ?_ GE263.out) | exact HB.out)) hb); clear HO_11; clear HO276; clear HO281; clear BK263; clear HB; have HO_11 := n0_; have HO276 := n1_; have HO281 := n2_; have HO284 := n3_; have BK263 := n4_; have HB := n5_; clear n0_ n1_ n2_ n3_ n4_ n5_; (try clear hb); (try clear hb2); (try clear hk); (try clear hi); (try clear ho0); have hcz56_0 : w55.cell? ⟨gb263, 0, none⟩ = some (.int .u32 a0_0) := (blk_cell BK263.out 0).trans rfl; have hcz56_1 : w55.cell? ⟨gb263, 1, none⟩ = some (.int .i64 a0_1) := (blk_cell BK263.out 1).trans rfl; have hcz56_2 : w55.cell? ⟨gb263, 2, none⟩ = some (.slice A0_2 l0_2.length c0_2) := (blk_cell BK263.out 2).trans rfl; have hcz56_3 : w55.cell? ⟨gb263, 3, none⟩ = some (.int .i64 a0_3) := (blk_cell BK263.out 3).trans rfl; have hcz56_4 : w55.cell? ⟨gb263, 4, none⟩ = some (.int .i64 a0_4) := (blk_cell BK263.out 4).trans rfl; have hcz56_5 : w55.cell? ⟨gb263, 5, none⟩ = some (.int .i64 a0_5) := (blk_cell BK263.out 5).trans rfl; have hcz56_6 : w55.cell? ⟨gb263, 6, none⟩ = some (.int .i64 a0_6) := (blk_cell BK263.out 6).trans rfl; have hfz56_0 := blk_frozen BK263.out 0; have hfz56_1 := blk_frozen BK263.out 1; have hfz56_2 := blk_frozen BK263.out 2; have hfz56_3 := blk_frozen BK263.out 3; have hfz56_4 := blk_frozen BK263.out 4; have hfz56_5 := blk_frozen BK263.out 5; have hfz56_6 := blk_frozen BK263.out 6; obtain ⟨Ao57, co57, eo57⟩ := Kd.R_slice HO284.out; subst eo57) | ((with_reducible refine gate_callee (f := 22) rfl ?_); refine goesL_ (some 80) rfl rfl Try.func22 (by kernel_rfl) rfl #[.agg #[.int .u32 a0_0, .int .i64 a0_1, .slice A0_2 l0_2.length c0_2, .int .i64 a0_3, .int .i64 a0_4, .int .i64 a0_5, .int .i64 a0_6], .slice Ao57 t282.length co57] rfl (by (try simp only [List.map_toArray, List.map_cons, List.map_nil]); first | done | rfl | (simp only [List.length_drop, List.length_take]; rfl)) ?_; (with_reducible refine (model_Of.calls kj19 a0_0 a0_1 _ _ l0_2 a0_3 a0_4 a0_5 a0_6 _ _ t282 t285 _ ?side1 ?side2 ?side3 ?side4 A43.out).mono ?_); (case side1 => repeat (first | exact (Kd.C_below HR0_2.out HB.out) | (with_reducible refine Kd.C_alloc ?_ _) | (with_reducible refine Kd.C_drewN ?_ _) | (with_reducible refine Kd.C_drew ?_))); (case side2 => exact HC0_2.out); (case side3 => repeat (first | exact (Kd.R_reads' HO284.out).2.2 | (with_reducible refine Kd.C_alloc ?_ _) | (with_reducible refine Kd.C_drewN ?_ _) | (with_reducible refine Kd.C_drew ?_))); (case side4 => exact (Kd.R_reads' HO284.out).2.1); rintro e w58 ⟨v286, rfl, ho0, hb⟩; refine ⟨_, rfl, ?_⟩; have n0_ := Aside0.mk (Kd.R_elder' (by (with_reducible repeat (first | apply Kd.R_alloc | apply Kd.R_drewN | apply Kd.R_drew)); exact HO_11.out) (Kd.R_base ho0) hb); have n1_ := Aside0.mk (Kd.R_below (by (with_reducible repeat (first | apply Kd.R_alloc | apply Kd.R_drewN | apply Kd.R_drew)); exact HO276.out) hb); have n2_ := Aside0.mk (Kd.R_below (by (with_reducible repeat (first | apply Kd.R_alloc | apply Kd.R_drewN | apply Kd.R_drew)); exact HO281.out) hb); have n3_ := Aside0.mk (Kd.R_below (by (with_reducible repeat (first | apply Kd.R_alloc | apply Kd.R_drewN | apply Kd.R_drew)); exact HO284.out) hb); have n4_ := Aside0.mk (Kd.R_lower (Kd.R_new' ho0 (Kd.R_lt (by (with_reducible repeat (first | apply Kd.R_alloc | apply Kd.R_drewN | apply Kd.R_drew)); exact HO_11.out))) (below_size (by repeat (first | (with_reducible first | exact HB.out | apply below_alloc | apply pw_below_drewN | apply below_drew1 | refine below_set ?_ GE263.out) | exact HB.out)))); have n5_ := Aside0.mk (blk_below (g := gb263) (o := .cells #[.int .u32 a0_0, .int .i64 a0_1, .slice A0_2 l0_2.length c0_2, .int .i64 a0_3, .int .i64 a0_4, .int .i64 a0_5, .int .i64 a0_6] 27 (0, 0)) (by (with_reducible repeat (first | refine blk_drewN ?_ _ | refine blk_drew ?_ | refine blk_alloc ?_ _)); exact BK263.out) hb); have n6_ := Aside0.mk (below_step (by repeat (first | (with_reducible first | exact HB.out | apply below_alloc | apply pw_below_drewN | apply below_drew1 | refine below_set ?_ GE263.out) | exact HB.out)) hb); clear HO_11; clear HO276; clear HO281; clear HO284; clear BK263; clear HB; have HO_11 := n0_; have HO276 := n1_; have HO281 := n2_; have HO284 := n3_; have HO287 := n4_; have BK263 := n5_; have HB := n6_; clear n0_ n1_ n2_ n3_ n4_ n5_ n6_; (try clear hb); (try clear hb2); (try clear hk); (try clear hi); (try clear ho0); obtain ⟨Ao59, co59, eo59⟩ := Kd.R_slice HO287.out; subst eo59; obtain ⟨Ao60, co60, eo60⟩ := Kd.R_slice HO_11.out; subst eo60) | ((with_reducible refine gate_callee (f := 16) rfl ?_); refine goesL_ (some 82) rfl rfl Try.func16 (by kernel_rfl) rfl #[.slice Ao59 t285.length co59, .slice Ao60 t268.length co60] rfl (by (try simp only [List.map_toArray, List.map_cons, List.map_nil]); first | done | rfl | (simp only [List.length_drop, List.length_take]; rfl)) ?_; (with_reducible refine (lodgerref03_Ints.calls kj19 _ _ t285 _ _ t268 true _ ?side1 ?side2 ?side3 ?side4 A44.out).mono ?_); (case side1 => repeat (first | exact (Kd.R_reads' HO287.out).2.2 | (with_reducible refine Kd.C_alloc ?_ _) | (with_reducible refine Kd.C_drewN ?_ _) | (with_reducible refine Kd.C_drew ?_))); (case side2 => exact (Kd.R_reads' HO287.out).2.1); (case side3 => repeat (first | exact (Kd.R_reads' HO_11.out).2.2 | (with_reducible refine Kd.C_alloc ?_ _) | (with_reducible refine Kd.C_drewN ?_ _) | (with_reducible refine Kd.C_drew ?_))); (case side4 => exact (Kd.R_reads' HO_11.out).2.1); rintro e w' ⟨rfl, ⟨nd, rfl⟩⟩; refine ⟨_, rfl, ?_⟩; have hcz61_0 : w58.cell? ⟨gb263, 0, none⟩ = some (.int .u32 a0_0) := (blk_cell BK263.out 0).trans rfl; have hcz61_1 : w58.cell? ⟨gb263, 1, none⟩ = some (.int .i64 a0_1) := (blk_cell BK263.out 1).trans rfl; have hcz61_2 : w58.cell? ⟨gb263, 2, none⟩ = some (.slice A0_2 l0_2.length c0_2) := (blk_cell BK263.out 2).trans rfl; have hcz61_3 : w58.cell? ⟨gb263, 3, none⟩ = some (.int .i64 a0_3) := (blk_cell BK263.out 3).trans rfl; have hcz61_4 : w58.cell? ⟨gb263, 4, none⟩ = some (.int .i64 a0_4) := (blk_cell BK263.out 4).trans rfl; have hcz61_5 : w58.cell? ⟨gb263, 5, none⟩ = some (.int .i64 a0_5) := (blk_cell BK263.out 5).trans rfl; have hcz61_6 : w58.cell? ⟨gb263, 6, none⟩ = some (.int .i64 a0_6) := (blk_cell BK263.out 6).trans rfl; have hfz61_0 := blk_frozen BK263.out 0; have hfz61_1 := blk_frozen BK263.out 1; have hfz61_2 := blk_frozen BK263.out 2; have hfz61_3 := blk_frozen BK263.out 3; have hfz61_4 := blk_frozen BK263.out 4; have hfz61_5 := blk_frozen BK263.out 5; have hfz61_6 := blk_frozen BK263.out 6) | ((with_reducible refine gate_callee (f := 30) rfl ?_); refine goesL_ (some 86) rfl rfl Try.func30 (by kernel_rfl) rfl #[.agg #[.int .u32 a0_0, .int .i64 a0_1, .slice A0_2 l0_2.length c0_2, .int .i64 a0_3, .int .i64 a0_4, .int .i64 a0_5, .int .i64 a0_6], .int .i64 (Int.tmod (wrap64 (a2)) t267)] rfl (by (try simp only [List.map_toArray, List.map_cons, List.map_nil]); first | done | rfl | (simp only [List.length_drop, List.length_take]; rfl)) ?_; (with_reducible refine (lodgerref05_Held.calls kj19 a0_0 a0_1 _ _ l0_2 a0_3 a0_4 a0_5 a0_6 (Int.tmod (wrap64 (a2)) t267) true _ ?side1 ?side2 A46.out).mono ?_); (case side1 => repeat (first | exact (Kd.C_below HR0_2.out (by repeat (first | (with_reducible first | exact HB.out | apply below_alloc | apply pw_below_drewN | apply below_drew1 | refine below_set ?_ GE263.out) | exact HB.out))) | (with_reducible refine Kd.C_alloc ?_ _) | (with_reducible refine Kd.C_drewN ?_ _) | (with_reducible refine Kd.C_drew ?_))); (case side2 => exact HC0_2.out); rintro e w62 ⟨rfl, hb⟩; refine ⟨_, rfl, ?_⟩; have n0_ := Aside0.mk (Kd.R_below (by (with_reducible repeat (first | apply Kd.R_alloc | apply Kd.R_drewN | apply Kd.R_drew)); exact HO_11.out) hb); have n1_ := Aside0.mk (Kd.R_below (by (with_reducible repeat (first | apply Kd.R_alloc | apply Kd.R_drewN | apply Kd.R_drew)); exact HO276.out) hb); have n2_ := Aside0.mk (Kd.R_below (by (with_reducible repeat (first | apply Kd.R_alloc | apply Kd.R_drewN | apply Kd.R_drew)); exact HO281.out) hb); have n3_ := Aside0.mk (Kd.R_below (by (with_reducible repeat (first | apply Kd.R_alloc | apply Kd.R_drewN | apply Kd.R_drew)); exact HO284.out) hb); have n4_ := Aside0.mk (Kd.R_below (by (with_reducible repeat (first | apply Kd.R_alloc | apply Kd.R_drewN | apply Kd.R_drew)); exact HO287.out) hb); have n5_ := Aside0.mk (blk_below (g := gb263) (o := .cells #[.int .u32 a0_0, .int .i64 a0_1, .slice A0_2 l0_2.length c0_2, .int .i64 a0_3, .int .i64 a0_4, .int .i64 a0_5, .int .i64 a0_6] 27 (0, 0)) (by (with_reducible repeat (first | refine blk_drewN ?_ _ | refine blk_drew ?_ | refine blk_alloc ?_ _)); exact BK263.out) hb); have n6_ := Aside0.mk (below_step (by repeat (first | (with_reducible first | exact HB.out | apply below_alloc | apply pw_below_drewN | apply below_drew1 | refine below_set ?_ GE263.out) | exact HB.out)) hb); clear HO_11; clear HO276; clear HO281; clear HO284; clear HO287; clear BK263; clear HB; have HO_11 := n0_; have HO276 := n1_; have HO281 := n2_; have HO284 := n3_; have HO287 := n4_; have BK263 := n5_; have HB := n6_; clear n0_ n1_ n2_ n3_ n4_ n5_ n6_; (try clear hb); (try clear hb2); (try clear hk); (try clear hi); have hcz63_0 : w62.cell? ⟨gb263, 0, none⟩ = some (.int .u32 a0_0) := (blk_cell BK263.out 0).trans rfl; have hcz63_1 : w62.cell? ⟨gb263, 1, none⟩ = some (.int .i64 a0_1) := (blk_cell BK263.out 1).trans rfl; have hcz63_2 : w62.cell? ⟨gb263, 2, none⟩ = some (.slice A0_2 l0_2.length c0_2) := (blk_cell BK263.out 2).trans rfl; have hcz63_3 : w62.cell? ⟨gb263, 3, none⟩ = some (.int .i64 a0_3) := (blk_cell BK263.out 3).trans rfl; have hcz63_4 : w62.cell? ⟨gb263, 4, none⟩ = some (.int .i64 a0_4) := (blk_cell BK263.out 4).trans rfl; have hcz63_5 : w62.cell? ⟨gb263, 5, none⟩ = some (.int .i64 a0_5) := (blk_cell BK263.out 5).trans rfl; have hcz63_6 : w62.cell? ⟨gb263, 6, none⟩ = some (.int .i64 a0_6) := (blk_cell BK263.out 6).trans rfl; have hfz63_0 := blk_frozen BK263.out 0; have hfz63_1 := blk_frozen BK263.out 1; have hfz63_2 := blk_frozen BK263.out 2; have hfz63_3 := blk_frozen BK263.out 3; have hfz63_4 := blk_frozen BK263.out 4; have hfz63_5 := blk_frozen BK263.out 5; have hfz63_6 := blk_frozen BK263.out 6; obtain ⟨Ao64, co64, eo64⟩ := Kd.R_slice HO276.out; subst eo64) | ((with_reducible refine gate_callee (f := 22) rfl ?_); refine goesL_ (some 89) rfl rfl Try.func22 (by kernel_rfl) rfl #[.agg #[.int .u32 a0_0, .int .i64 a0_1, .slice A0_2 l0_2.length c0_2, .int .i64 a0_3, .int .i64 a0_4, .int .i64 a0_5, .int .i64 a0_6], .slice Ao64 t274.length co64] rfl (by (try simp only [List.map_toArray, List.map_cons, List.map_nil]); first | done | rfl | (simp only [List.length_drop, List.length_take]; rfl)) ?_; (with_reducible refine (model_Of.calls kj19 a0_0 a0_1 _ _ l0_2 a0_3 a0_4 a0_5 a0_6 _ _ t274 t290 _ ?side1 ?side2 ?side3 ?side4 A48.out).mono ?_); (case side1 => repeat (first | exact (Kd.C_below HR0_2.out HB.out) | (with_reducible refine Kd.C_alloc ?_ _) | (with_reducible refine Kd.C_drewN ?_ _) | (with_reducible refine Kd.C_drew ?_))); (case side2 => exact HC0_2.out); (case side3 => repeat (first | exact (Kd.R_reads' HO276.out).2.2 | (with_reducible refine Kd.C_alloc ?_ _) | (with_reducible refine Kd.C_drewN ?_ _) | (with_reducible refine Kd.C_drew ?_))); (case side4 => exact (Kd.R_reads' HO276.out).2.1); rintro e w65 ⟨v291, rfl, ho0, hb⟩; refine ⟨_, rfl, ?_⟩; have n0_ := Aside0.mk (Kd.R_elder' (by (with_reducible repeat (first | apply Kd.R_alloc | apply Kd.R_drewN | apply Kd.R_drew)); exact HO_11.out) (Kd.R_base ho0) hb); have n1_ := Aside0.mk (Kd.R_below (by (with_reducible repeat (first | apply Kd.R_alloc | apply Kd.R_drewN | apply Kd.R_drew)); exact HO276.out) hb); have n2_ := Aside0.mk (Kd.R_below (by (with_reducible repeat (first | apply Kd.R_alloc | apply Kd.R_drewN | apply Kd.R_drew)); exact HO281.out) hb); have n3_ := Aside0.mk (Kd.R_below (by (with_reducible repeat (first | apply Kd.R_alloc | apply Kd.R_drewN | apply Kd.R_drew)); exact HO284.out) hb); have n4_ := Aside0.mk (Kd.R_elder' (by (with_reducible repeat (first | apply Kd.R_alloc | apply Kd.R_drewN | apply Kd.R_drew)); exact HO287.out) (Kd.R_base ho0) hb); have n5_ := Aside0.mk (Kd.R_lower (Kd.R_new' (Kd.R_new' ho0 (Kd.R_lt (by (with_reducible repeat (first | apply Kd.R_alloc | apply Kd.R_drewN | apply Kd.R_drew)); exact HO_11.out))) (Kd.R_lt (by (with_reducible repeat (first | apply Kd.R_alloc | apply Kd.R_drewN | apply Kd.R_drew)); exact HO287.out))) (below_size (by repeat (first | (with_reducible first | exact HB.out | apply below_alloc | apply pw_below_drewN | apply below_drew1 | refine below_set ?_ GE263.out) | exact HB.out)))); have n6_ := Aside0.mk (blk_below (g := gb263) (o := .cells #[.int .u32 a0_0, .int .i64 a0_1, .slice A0_2 l0_2.length c0_2, .int .i64 a0_3, .int .i64 a0_4, .int .i64 a0_5, .int .i64 a0_6] 27 (0, 0)) (by (with_reducible repeat (first | refine blk_drewN ?_ _ | refine blk_drew ?_ | refine blk_alloc ?_ _)); exact BK263.out) hb); have n7_ := Aside0.mk (below_step (by repeat (first | (with_reducible first | exact HB.out | apply below_alloc | apply pw_below_drewN | apply below_drew1 | refine below_set ?_ GE263.out) | exact HB.out)) hb); clear HO_11; clear HO276; clear HO281; clear HO284; clear HO287; clear BK263; clear HB; have HO_11 := n0_; have HO276 := n1_; have HO281 := n2_; have HO284 := n3_; have HO287 := n4_; have HO292 := n5_; have BK263 := n6_; have HB := n7_; clear n0_ n1_ n2_ n3_ n4_ n5_ n6_ n7_; (try clear hb); (try clear hb2); (try clear hk); (try clear hi); (try clear ho0); obtain ⟨Ao66, co66, eo66⟩ := Kd.R_slice HO292.out; subst eo66) | ((with_reducible refine gate_callee (f := 16) rfl ?_); refine goesL_ (some 91) rfl rfl Try.func16 (by kernel_rfl) rfl #[.slice Ao66 t290.length co66, .slice Ao60 t268.length co60] rfl (by (try simp only [List.map_toArray, List.map_cons, List.map_nil]); first | done | rfl | (simp only [List.length_drop, List.length_take]; rfl)) ?_; (with_reducible refine (lodgerref03_Ints.calls kj19 _ _ t290 _ _ t268 true _ ?side1 ?side2 ?side3 ?side4 A49.out).mono ?_); (case side1 => repeat (first | exact (Kd.R_reads' HO292.out).2.2 | (with_reducible refine Kd.C_alloc ?_ _) | (with_reducible refine Kd.C_drewN ?_ _) | (with_reducible refine Kd.C_drew ?_))); (case side2 => exact (Kd.R_reads' HO292.out).2.1); (case side3 => repeat (first | exact (Kd.R_reads' HO_11.out).2.2 | (with_reducible refine Kd.C_alloc ?_ _) | (with_reducible refine Kd.C_drewN ?_ _) | (with_reducible refine Kd.C_drew ?_))); (case side4 => exact (Kd.R_reads' HO_11.out).2.1); rintro e w' ⟨rfl, ⟨nd, rfl⟩⟩; refine ⟨_, rfl, ?_⟩; have hcz67_0 : w65.cell? ⟨gb263, 0, none⟩ = some (.int .u32 a0_0) := (blk_cell BK263.out 0).trans rfl; have hcz67_1 : w65.cell? ⟨gb263, 1, none⟩ = some (.int .i64 a0_1) := (blk_cell BK263.out 1).trans rfl; have hcz67_2 : w65.cell? ⟨gb263, 2, none⟩ = some (.slice A0_2 l0_2.length c0_2) := (blk_cell BK263.out 2).trans rfl; have hcz67_3 : w65.cell? ⟨gb263, 3, none⟩ = some (.int .i64 a0_3) := (blk_cell BK263.out 3).trans rfl; have hcz67_4 : w65.cell? ⟨gb263, 4, none⟩ = some (.int .i64 a0_4) := (blk_cell BK263.out 4).trans rfl; have hcz67_5 : w65.cell? ⟨gb263, 5, none⟩ = some (.int .i64 a0_5) := (blk_cell BK263.out 5).trans rfl; have hcz67_6 : w65.cell? ⟨gb263, 6, none⟩ = some (.int .i64 a0_6) := (blk_cell BK263.out 6).trans rfl; have hfz67_0 := blk_frozen BK263.out 0; have hfz67_1 := blk_frozen BK263.out 1; have hfz67_2 := blk_frozen BK263.out 2; have hfz67_3 := blk_frozen BK263.out 3; have hfz67_4 := blk_frozen BK263.out 4; have hfz67_5 := blk_frozen BK263.out 5; have hfz67_6 := blk_frozen BK263.out 6; obtain ⟨Ao68, co68, eo68⟩ := Kd.R_slice HO281.out; subst eo68) | (go_at_call 22; (with_reducible refine (model_Of.calls kj19 a0_0 a0_1 _ _ l0_2 a0_3 a0_4 a0_5 a0_6 _ _ t279 t294 _ ?side1 ?side2 ?side3 ?side4 A51.out).mono ?_); (case side1 => repeat (first | exact (Kd.C_below HR0_2.out (by repeat (first | (with_reducible first | exact HB.out | apply below_alloc | apply pw_below_drewN | apply below_drew1 | refine below_set ?_ GE263.out) | exact HB.out))) | (with_reducible refine Kd.C_alloc ?_ _) | (with_reducible refine Kd.C_drewN ?_ _) | (with_reducible refine Kd.C_drew ?_))); (case side2 => exact HC0_2.out); (case side3 => repeat (first | exact (Kd.R_reads' HO281.out).2.2 | (with_reducible refine Kd.C_alloc ?_ _) | (with_reducible refine Kd.C_drewN ?_ _) | (with_reducible refine Kd.C_drew ?_))); (case side4 => exact (Kd.R_reads' HO281.out).2.1); rintro e w69 ⟨v295, rfl, ho0, hb⟩; have n0_ := Aside0.mk (Kd.R_elder' (by (with_reducible repeat (first | apply Kd.R_alloc | apply Kd.R_drewN | apply Kd.R_drew)); exact HO_11.out) (Kd.R_base ho0) hb); have n1_ := Aside0.mk (Kd.R_below (by (with_reducible repeat (first | apply Kd.R_alloc | apply Kd.R_drewN | apply Kd.R_drew)); exact HO276.out) hb); have n2_ := Aside0.mk (Kd.R_below (by (with_reducible repeat (first | apply Kd.R_alloc | apply Kd.R_drewN | apply Kd.R_drew)); exact HO281.out) hb); have n3_ := Aside0.mk (Kd.R_below (by (with_reducible repeat (first | apply Kd.R_alloc | apply Kd.R_drewN | apply Kd.R_drew)); exact HO284.out) hb); have n4_ := Aside0.mk (Kd.R_elder' (by (with_reducible repeat (first | apply Kd.R_alloc | apply Kd.R_drewN | apply Kd.R_drew)); exact HO287.out) (Kd.R_base ho0) hb); have n5_ := Aside0.mk (Kd.R_elder' (by (with_reducible repeat (first | apply Kd.R_alloc | apply Kd.R_drewN | apply Kd.R_drew)); exact HO292.out) (Kd.R_base ho0) hb); have n6_ := Aside0.mk (Kd.R_lower (Kd.R_new' (Kd.R_new' (Kd.R_new' ho0 (Kd.R_lt (by (with_reducible repeat (first | apply Kd.R_alloc | apply Kd.R_drewN | apply Kd.R_drew)); exact HO_11.out))) (Kd.R_lt (by (with_reducible repeat (first | apply Kd.R_alloc | apply Kd.R_drewN | apply Kd.R_drew)); exact HO287.out))) (Kd.R_lt (by (with_reducible repeat (first | apply Kd.R_alloc | apply Kd.R_drewN | apply Kd.R_drew)); exact HO292.out))) (below_size (by repeat (first | (with_reducible first | exact HB.out | apply below_alloc | apply pw_below_drewN | apply below_drew1 | refine below_set ?_ GE263.out) | exact HB.out)))); have n7_ := Aside0.mk (blk_below (g := gb263) (o := .cells #[.int .u32 a0_0, .int .i64 a0_1, .slice A0_2 l0_2.length c0_2, .int .i64 a0_3, .int .i64 a0_4, .int .i64 a0_5, .int .i64 a0_6] 27 (0, 0)) (by (with_reducible repeat (first | refine blk_drewN ?_ _ | refine blk_drew ?_ | refine blk_alloc ?_ _)); exact BK263.out) hb); have n8_ := Aside0.mk (below_step (by repeat (first | (with_reducible first | exact HB.out | apply below_alloc | apply pw_below_drewN | apply below_drew1 | refine below_set ?_ GE263.out) | exact HB.out)) hb); clear HO_11; clear HO276; clear HO281; clear HO284; clear HO287; clear HO292; clear BK263; clear HB; have HO_11 := n0_; have HO276 := n1_; have HO281 := n2_; have HO284 := n3_; have HO287 := n4_; have HO292 := n5_; have HO296 := n6_; have BK263 := n7_; have HB := n8_; clear n0_ n1_ n2_ n3_ n4_ n5_ n6_ n7_ n8_; (try clear hb); (try clear hb2); (try clear hk); (try clear hi); (try clear ho0); obtain ⟨Ao70, co70, eo70⟩ := Kd.R_slice HO296.out; subst eo70) | (go_at_call 16; (with_reducible refine (lodgerref03_Ints.calls kj19 _ _ t294 _ _ t268 t297 _ ?side1 ?side2 ?side3 ?side4 A52.out).mono ?_); (case side1 => repeat (first | exact (Kd.R_reads' HO296.out).2.2 | (with_reducible refine Kd.C_alloc ?_ _) | (with_reducible refine Kd.C_drewN ?_ _) | (with_reducible refine Kd.C_drew ?_))); (case side2 => exact (Kd.R_reads' HO296.out).2.1); (case side3 => repeat (first | exact (Kd.R_reads' HO_11.out).2.2 | (with_reducible refine Kd.C_alloc ?_ _) | (with_reducible refine Kd.C_drewN ?_ _) | (with_reducible refine Kd.C_drew ?_))); (case side4 => exact (Kd.R_reads' HO_11.out).2.1); rintro e w' ⟨rfl, ⟨nd, rfl⟩⟩) | (go_at_call 32; (with_reducible refine (word_Claim.calls (rd l1 (ji35)) (Int.tmod (Int.tmod (wrap64 (a2)) t267) 32) t273 _ A38.out).mono ?_); rintro e w' ⟨rfl, ⟨nd, rfl⟩⟩) | (go_at_call 31; (with_reducible refine (word_Drop.calls (rd l1 (ji35)) (Int.tmod (Int.tmod (wrap64 (a2)) t267) 32) t278 _ A40.out).mono ?_); rintro e w' ⟨rfl, ⟨nd, rfl⟩⟩))
              go_ret
              exact ⟨by first | rfl | (simp [errW_none, errW_some] <;> rfl) | (simp only [← hji35]; first | rfl | (simp [errW_none, errW_some] <;> rfl)) | (simp [*, errW_none, errW_some] <;> rfl), by repeat (first | (with_reducible first | exact HB.out | apply below_alloc | apply pw_below_drewN | apply below_drew1 | refine below_set ?_ GE263.out) | exact HB.out)⟩
            ·replace c50 := Bool.eq_false_iff.mpr c50
             subst c50
             have H1 : (some false) = some r := by rw [if_neg (show ¬ (false = true) by decide)] at H; exact H
             rw [hr_.out] at H1
             exact absurd (Option.some.inj H1) (by decide)
           ·replace c47 := Bool.eq_false_iff.mpr c47
            subst c47
            have H1 : ((model_Of.f kj19 a0_0 a0_1 l0_2 a0_3 a0_4 a0_5 a0_6 t274).bind fun t298 => ((model_With.f kj19 t268 (Int.tmod (wrap64 (a2)) t267)).bind fun t301 => ((lodgerref03_Ints.f kj19 t298 t301).bind fun t304 => (if t304 = true then ((model_Of.f kj19 a0_0 a0_1 l0_2 a0_3 a0_4 a0_5 a0_6 t279).bind fun t305 => ((model_Without.f kj19 t268 (Int.tmod (wrap64 (a2)) t267)).bind fun t308 => ((lodgerref03_Ints.f kj19 t305 t308).bind fun t311 => (if t311 = true then ((model_Has.f kj19 t268 (Int.tmod (wrap64 (a2)) t267)).bind fun t312 => ((lodgerref01_Has.f kj19 (rd l1 (ji35)) (Int.tmod (Int.tmod (wrap64 (a2)) t267) 32)).bind fun t314 => (some (t312 == t314)))) else (some false))))) else (some false))))) = some r := by rw [if_neg (show ¬ (false = true) by decide)] at H; exact H
            clear H
            have H := H1
            clear H1
            replace H := Option.bind_eq_some_iff.mp H
            obtain ⟨t298, A850, H⟩ := H
            replace H : ((model_With.f kj19 t268 (Int.tmod (wrap64 (a2)) t267)).bind fun t301 => ((lodgerref03_Ints.f kj19 t298 t301).bind fun t304 => (if t304 = true then ((model_Of.f kj19 a0_0 a0_1 l0_2 a0_3 a0_4 a0_5 a0_6 t279).bind fun t305 => ((model_Without.f kj19 t268 (Int.tmod (wrap64 (a2)) t267)).bind fun t308 => ((lodgerref03_Ints.f kj19 t305 t308).bind fun t311 => (if t311 = true then ((model_Has.f kj19 t268 (Int.tmod (wrap64 (a2)) t267)).bind fun t312 => ((lodgerref01_Has.f kj19 (rd l1 (ji35)) (Int.tmod (Int.tmod (wrap64 (a2)) t267) 32)).bind fun t314 => (some (t312 == t314)))) else (some false))))) else (some false)))) = some r := H
            have A85 := Aside0.mk A850
            clear A850
            replace H := Option.bind_eq_some_iff.mp H
            obtain ⟨t301, A860, H⟩ := H
            replace H : ((lodgerref03_Ints.f kj19 t298 t301).bind fun t304 => (if t304 = true then ((model_Of.f kj19 a0_0 a0_1 l0_2 a0_3 a0_4 a0_5 a0_6 t279).bind fun t305 => ((model_Without.f kj19 t268 (Int.tmod (wrap64 (a2)) t267)).bind fun t308 => ((lodgerref03_Ints.f kj19 t305 t308).bind fun t311 => (if t311 = true then ((model_Has.f kj19 t268 (Int.tmod (wrap64 (a2)) t267)).bind fun t312 => ((lodgerref01_Has.f kj19 (rd l1 (ji35)) (Int.tmod (Int.tmod (wrap64 (a2)) t267) 32)).bind fun t314 => (some (t312 == t314)))) else (some false))))) else (some false))) = some r := H
            have A86 := Aside0.mk A860
            clear A860
            replace H := Option.bind_eq_some_iff.mp H
            obtain ⟨t304, A870, H⟩ := H
            replace H : (if t304 = true then ((model_Of.f kj19 a0_0 a0_1 l0_2 a0_3 a0_4 a0_5 a0_6 t279).bind fun t305 => ((model_Without.f kj19 t268 (Int.tmod (wrap64 (a2)) t267)).bind fun t308 => ((lodgerref03_Ints.f kj19 t305 t308).bind fun t311 => (if t311 = true then ((model_Has.f kj19 t268 (Int.tmod (wrap64 (a2)) t267)).bind fun t312 => ((lodgerref01_Has.f kj19 (rd l1 (ji35)) (Int.tmod (Int.tmod (wrap64 (a2)) t267) 32)).bind fun t314 => (some (t312 == t314)))) else (some false))))) else (some false)) = some r := H
            have A87 := Aside0.mk A870
            clear A870
            by_cases c88 : t304 = true
            ·subst c88
             have H1 : ((model_Of.f kj19 a0_0 a0_1 l0_2 a0_3 a0_4 a0_5 a0_6 t279).bind fun t305 => ((model_Without.f kj19 t268 (Int.tmod (wrap64 (a2)) t267)).bind fun t308 => ((lodgerref03_Ints.f kj19 t305 t308).bind fun t311 => (if t311 = true then ((model_Has.f kj19 t268 (Int.tmod (wrap64 (a2)) t267)).bind fun t312 => ((lodgerref01_Has.f kj19 (rd l1 (ji35)) (Int.tmod (Int.tmod (wrap64 (a2)) t267) 32)).bind fun t314 => (some (t312 == t314)))) else (some false))))) = some r := by rw [if_pos rfl] at H; exact H
             clear H
             have H := H1
             clear H1
             replace H := Option.bind_eq_some_iff.mp H
             obtain ⟨t305, A890, H⟩ := H
             replace H : ((model_Without.f kj19 t268 (Int.tmod (wrap64 (a2)) t267)).bind fun t308 => ((lodgerref03_Ints.f kj19 t305 t308).bind fun t311 => (if t311 = true then ((model_Has.f kj19 t268 (Int.tmod (wrap64 (a2)) t267)).bind fun t312 => ((lodgerref01_Has.f kj19 (rd l1 (ji35)) (Int.tmod (Int.tmod (wrap64 (a2)) t267) 32)).bind fun t314 => (some (t312 == t314)))) else (some false)))) = some r := H
             have A89 := Aside0.mk A890
             clear A890
             replace H := Option.bind_eq_some_iff.mp H
             obtain ⟨t308, A900, H⟩ := H
             replace H : ((lodgerref03_Ints.f kj19 t305 t308).bind fun t311 => (if t311 = true then ((model_Has.f kj19 t268 (Int.tmod (wrap64 (a2)) t267)).bind fun t312 => ((lodgerref01_Has.f kj19 (rd l1 (ji35)) (Int.tmod (Int.tmod (wrap64 (a2)) t267) 32)).bind fun t314 => (some (t312 == t314)))) else (some false))) = some r := H
             have A90 := Aside0.mk A900
             clear A900
             replace H := Option.bind_eq_some_iff.mp H
             obtain ⟨t311, A910, H⟩ := H
             replace H : (if t311 = true then ((model_Has.f kj19 t268 (Int.tmod (wrap64 (a2)) t267)).bind fun t312 => ((lodgerref01_Has.f kj19 (rd l1 (ji35)) (Int.tmod (Int.tmod (wrap64 (a2)) t267) 32)).bind fun t314 => (some (t312 == t314)))) else (some false)) = some r := H
             have A91 := Aside0.mk A910
             clear A910
             by_cases c92 : t311 = true
             ·subst c92
              have H1 : ((model_Has.f kj19 t268 (Int.tmod (wrap64 (a2)) t267)).bind fun t312 => ((lodgerref01_Has.f kj19 (rd l1 (ji35)) (Int.tmod (Int.tmod (wrap64 (a2)) t267) 32)).bind fun t314 => (some (t312 == t314)))) = some r := by rw [if_pos rfl] at H; exact H
              clear H
              have H := H1
              clear H1
              replace H := Option.bind_eq_some_iff.mp H
              obtain ⟨t312, A930, H⟩ := H
              replace H : ((lodgerref01_Has.f kj19 (rd l1 (ji35)) (Int.tmod (Int.tmod (wrap64 (a2)) t267) 32)).bind fun t314 => (some (t312 == t314))) = some r := H
              have A93 := Aside0.mk A930
              clear A930
              replace H := Option.bind_eq_some_iff.mp H
              obtain ⟨t314, A940, H⟩ := H
              replace H : (some (t312 == t314)) = some r := H
              have A94 := Aside0.mk A940
              clear A940
              first | (exfalso; rw [hr_.out] at H; exact absurd (Option.some.inj H) (by decide)) | (try clear hr_)
              all_goals
               obtain rfl := Option.some.inj H
               have p272 : 0 ≤ ((ji35) : Int) := of_decide_eq_true (by first | (with_reducible assumption) | assumption)
               have q272 : (ji35) < (l1.length : Int) := of_decide_eq_true (by first | (with_reducible assumption) | assumption)
               obtain ⟨ad272, e272, hx272_0⟩ := Kd.at_int HR1.out (ji35) p272 q272
               cases e272
               replace hx272_0 := (HB.out.cell (World.block_lt_of_cell? w _ hx272_0)).trans hx272_0
               replace p272 := eq_true p272
               replace q272 := eq_true q272
               try go_wp2_with (first | ((with_reducible refine gate_callee (f := 32) rfl ?_); refine goesL_ (some 58) rfl rfl Try.func32 (by kernel_rfl) rfl #[.int .u64 (rd l1 (ji35)), .int .i64 (Int.tmod (Int.tmod (wrap64 (a2)) t267) 32)] rfl (by (try simp only [List.map_toArray, List.map_cons, List.map_nil]); first | done | (simp only [hji35]; rfl) | rfl | (simp only [List.length_drop, List.length_take]; rfl)) ?_; (with_reducible refine (word_Claim.calls (rd l1 (ji35)) (Int.tmod (Int.tmod (wrap64 (a2)) t267) 32) t273 _ A38.out).mono ?_); rintro e w' ⟨rfl, ⟨nd, rfl⟩⟩; refine ⟨_, rfl, ?_⟩) | ((with_reducible refine gate_callee (f := 31) rfl ?_); refine goesL_ (some 59) rfl rfl Try.func31 (by kernel_rfl) rfl #[.slice (some ad272) l1.length c1, .int .i64 ji35, .int .u64 t273] rfl (by (try simp only [List.map_toArray, List.map_cons, List.map_nil]); first | done | (simp only [hji35]; rfl) | rfl | (simp only [List.length_drop, List.length_take]; rfl)) ?_; (with_reducible refine (lodgerref02_Set.calls kj19 _ _ l1 ji35 t273 t274 _ ?side1 ?side2 A39.out).mono ?_); (case side1 => repeat (first | exact (Kd.C_below HR1.out (by repeat (first | (with_reducible first | exact HB.out | apply below_alloc | apply pw_below_drewN | apply below_drew1 | refine below_set ?_ GE263.out) | exact HB.out))) | (with_reducible refine Kd.C_alloc ?_ _) | (with_reducible refine Kd.C_drewN ?_ _) | (with_reducible refine Kd.C_drew ?_))); (case side2 => exact HC1.out); rintro e w95 ⟨v275, rfl, ho0, hb⟩; refine ⟨_, rfl, ?_⟩; have n0_ := Aside0.mk (Kd.R_below (by (with_reducible repeat (first | apply Kd.R_alloc | apply Kd.R_drewN | apply Kd.R_drew)); exact HO_11.out) hb); have n1_ := Aside0.mk (Kd.R_lower ho0 (below_size (by repeat (first | (with_reducible first | exact HB.out | apply below_alloc | apply pw_below_drewN | apply below_drew1 | refine below_set ?_ GE263.out) | exact HB.out)))); have n2_ := Aside0.mk (blk_below (g := gb263) (o := .cells #[.int .u32 a0_0, .int .i64 a0_1, .slice A0_2 l0_2.length c0_2, .int .i64 a0_3, .int .i64 a0_4, .int .i64 a0_5, .int .i64 a0_6] 27 (0, 0)) (by (with_reducible repeat (first | refine blk_drewN ?_ _ | refine blk_drew ?_ | refine blk_alloc ?_ _)); exact BK263.out) hb); have n3_ := Aside0.mk (below_step (by repeat (first | (with_reducible first | exact HB.out | apply below_alloc | apply pw_below_drewN | apply below_drew1 | refine below_set ?_ GE263.out) | exact HB.out)) hb); clear HO_11; clear BK263; clear HB; have HO_11 := n0_; have HO276 := n1_; have BK263 := n2_; have HB := n3_; clear n0_ n1_ n2_ n3_; (try clear hb); (try clear hb2); (try clear hk); (try clear hi); (try clear ho0); have p277 : 0 ≤ ((ji35) : Int) := of_decide_eq_true (by first | (with_reducible assumption) | assumption); have q277 : (ji35) < (l1.length : Int) := of_decide_eq_true (by first | (with_reducible assumption) | assumption); obtain ⟨ad277, e277, hx277_0⟩ := Kd.at_int HR1.out (ji35) p277 q277; obtain rfl : ad272 = ad277 := (by injection e277); replace hx277_0 := (HB.out.cell (World.block_lt_of_cell? w _ hx277_0)).trans hx277_0; replace p277 := eq_true p277; replace q277 := eq_true q277) | ((with_reducible refine gate_callee (f := 33) rfl ?_); refine goesL_ (some 70) rfl rfl Try.func33 (by kernel_rfl) rfl #[.int .u64 (rd l1 (ji35)), .int .i64 (Int.tmod (Int.tmod (wrap64 (a2)) t267) 32)] rfl (by (try simp only [List.map_toArray, List.map_cons, List.map_nil]); first | done | (simp only [hji35]; rfl) | rfl | (simp only [List.length_drop, List.length_take]; rfl)) ?_; (with_reducible refine (word_Drop.calls (rd l1 (ji35)) (Int.tmod (Int.tmod (wrap64 (a2)) t267) 32) t278 _ A40.out).mono ?_); rintro e w' ⟨rfl, ⟨nd, rfl⟩⟩; refine ⟨_, rfl, ?_⟩) | ((with_reducible refine gate_callee (f := 31) rfl ?_); refine goesL_ (some 71) rfl rfl Try.func31 (by kernel_rfl) rfl #[.slice (some ad272) l1.length c1, .int .i64 ji35, .int .u64 t278] rfl (by (try simp only [List.map_toArray, List.map_cons, List.map_nil]); first | done | (simp only [hji35]; rfl) | rfl | (simp only [List.length_drop, List.length_take]; rfl)) ?_; (with_reducible refine (lodgerref02_Set.calls kj19 _ _ l1 ji35 t278 t279 _ ?side1 ?side2 A41.out).mono ?_); (case side1 => repeat (first | exact (Kd.C_below HR1.out (by repeat (first | (with_reducible first | exact HB.out | apply below_alloc | apply pw_below_drewN | apply below_drew1 | refine below_set ?_ GE263.out) | exact HB.out))) | (with_reducible refine Kd.C_alloc ?_ _) | (with_reducible refine Kd.C_drewN ?_ _) | (with_reducible refine Kd.C_drew ?_))); (case side2 => exact HC1.out); rintro e w96 ⟨v280, rfl, ho0, hb⟩; refine ⟨_, rfl, ?_⟩; have n0_ := Aside0.mk (Kd.R_below (by (with_reducible repeat (first | apply Kd.R_alloc | apply Kd.R_drewN | apply Kd.R_drew)); exact HO_11.out) hb); have n1_ := Aside0.mk (Kd.R_elder' (by (with_reducible repeat (first | apply Kd.R_alloc | apply Kd.R_drewN | apply Kd.R_drew)); exact HO276.out) (Kd.R_base ho0) hb); have n2_ := Aside0.mk (Kd.R_lower (Kd.R_new' ho0 (Kd.R_lt (by (with_reducible repeat (first | apply Kd.R_alloc | apply Kd.R_drewN | apply Kd.R_drew)); exact HO276.out))) (below_size (by repeat (first | (with_reducible first | exact HB.out | apply below_alloc | apply pw_below_drewN | apply below_drew1 | refine below_set ?_ GE263.out) | exact HB.out)))); have n3_ := Aside0.mk (blk_below (g := gb263) (o := .cells #[.int .u32 a0_0, .int .i64 a0_1, .slice A0_2 l0_2.length c0_2, .int .i64 a0_3, .int .i64 a0_4, .int .i64 a0_5, .int .i64 a0_6] 27 (0, 0)) (by (with_reducible repeat (first | refine blk_drewN ?_ _ | refine blk_drew ?_ | refine blk_alloc ?_ _)); exact BK263.out) hb); have n4_ := Aside0.mk (below_step (by repeat (first | (with_reducible first | exact HB.out | apply below_alloc | apply pw_below_drewN | apply below_drew1 | refine below_set ?_ GE263.out) | exact HB.out)) hb); clear HO_11; clear HO276; clear BK263; clear HB; have HO_11 := n0_; have HO276 := n1_; have HO281 := n2_; have BK263 := n3_; have HB := n4_; clear n0_ n1_ n2_ n3_ n4_; (try clear hb); (try clear hb2); (try clear hk); (try clear hi); (try clear ho0)) | ((with_reducible refine gate_callee (f := 31) rfl ?_); refine goesL_ (some 77) rfl rfl Try.func31 (by kernel_rfl) rfl #[.slice (some ad272) l1.length c1, .int .i64 (wrap64 ((l1.length : Int) - 1)), .int .u64 a3] rfl (by (try simp only [List.map_toArray, List.map_cons, List.map_nil]); first | done | rfl | (simp only [List.length_drop, List.length_take]; rfl)) ?_; (with_reducible refine (lodgerref02_Set.calls kj19 _ _ l1 (wrap64 ((l1.length : Int) - 1)) a3 t282 _ ?side1 ?side2 A42.out).mono ?_); (case side1 => repeat (first | exact (Kd.C_below HR1.out HB.out) | (with_reducible refine Kd.C_alloc ?_ _) | (with_reducible refine Kd.C_drewN ?_ _) | (with_reducible refine Kd.C_drew ?_))); (case side2 => exact HC1.out); rintro e w97 ⟨v283, rfl, ho0, hb⟩; refine ⟨_, rfl, ?_⟩; have n0_ := Aside0.mk (Kd.R_below (by (with_reducible repeat (first | apply Kd.R_alloc | apply Kd.R_drewN | apply Kd.R_drew)); exact HO_11.out) hb); have n1_ := Aside0.mk (Kd.R_elder' (by (with_reducible repeat (first | apply Kd.R_alloc | apply Kd.R_drewN | apply Kd.R_drew)); exact HO276.out) (Kd.R_base ho0) hb); have n2_ := Aside0.mk (Kd.R_elder' (by (with_reducible repeat (first | apply Kd.R_alloc | apply Kd.R_drewN | apply Kd.R_drew)); exact HO281.out) (Kd.R_base ho0) hb); have n3_ := Aside0.mk (Kd.R_lower (Kd.R_new' (Kd.R_new' ho0 (Kd.R_lt (by (with_reducible repeat (first | apply Kd.R_alloc | apply Kd.R_drewN | apply Kd.R_drew)); exact HO276.out))) (Kd.R_lt (by (with_reducible repeat (first | apply Kd.R_alloc | apply Kd.R_drewN | apply Kd.R_drew)); exact HO281.out))) (below_size (by repeat (first | (with_reducible first | exact HB.out | apply below_alloc | apply pw_below_drewN | apply below_drew1 | refine below_set ?_ GE263.out) | exact HB.out)))); have n4_ := Aside0.mk (blk_below (g := gb263) (o := .cells #[.int .u32 a0_0, .int .i64 a0_1, .slice A0_2 l0_2.length c0_2, .int .i64 a0_3, .int .i64 a0_4, .int .i64 a0_5, .int .i64 a0_6] 27 (0, 0)) (by (with_reducible repeat (first | refine blk_drewN ?_ _ | refine blk_drew ?_ | refine blk_alloc ?_ _)); exact BK263.out) hb); have n5_ := Aside0.mk (below_step (by repeat (first | (with_reducible first | exact HB.out | apply below_alloc | apply pw_below_drewN | apply below_drew1 | refine below_set ?_ GE263.out) | exact HB.out)) hb); clear HO_11; clear HO276; clear HO281; clear BK263; clear HB; have HO_11 := n0_; have HO276 := n1_; have HO281 := n2_; have HO284 := n3_; have BK263 := n4_; have HB := n5_; clear n0_ n1_ n2_ n3_ n4_ n5_; (try clear hb); (try clear hb2); (try clear hk); (try clear hi); (try clear ho0); have hcz98_0 : w97.cell? ⟨gb263, 0, none⟩ = some (.int .u32 a0_0) := (blk_cell BK263.out 0).trans rfl; have hcz98_1 : w97.cell? ⟨gb263, 1, none⟩ = some (.int .i64 a0_1) := (blk_cell BK263.out 1).trans rfl; have hcz98_2 : w97.cell? ⟨gb263, 2, none⟩ = some (.slice A0_2 l0_2.length c0_2) := (blk_cell BK263.out 2).trans rfl; have hcz98_3 : w97.cell? ⟨gb263, 3, none⟩ = some (.int .i64 a0_3) := (blk_cell BK263.out 3).trans rfl; have hcz98_4 : w97.cell? ⟨gb263, 4, none⟩ = some (.int .i64 a0_4) := (blk_cell BK263.out 4).trans rfl; have hcz98_5 : w97.cell? ⟨gb263, 5, none⟩ = some (.int .i64 a0_5) := (blk_cell BK263.out 5).trans rfl; have hcz98_6 : w97.cell? ⟨gb263, 6, none⟩ = some (.int .i64 a0_6) := (blk_cell BK263.out 6).trans rfl; have hfz98_0 := blk_frozen BK263.out 0; have hfz98_1 := blk_frozen BK263.out 1; have hfz98_2 := blk_frozen BK263.out 2; have hfz98_3 := blk_frozen BK263.out 3; have hfz98_4 := blk_frozen BK263.out 4; have hfz98_5 := blk_frozen BK263.out 5; have hfz98_6 := blk_frozen BK263.out 6; obtain ⟨Ao99, co99, eo99⟩ := Kd.R_slice HO284.out; subst eo99) | ((with_reducible refine gate_callee (f := 22) rfl ?_); refine goesL_ (some 80) rfl rfl Try.func22 (by kernel_rfl) rfl #[.agg #[.int .u32 a0_0, .int .i64 a0_1, .slice A0_2 l0_2.length c0_2, .int .i64 a0_3, .int .i64 a0_4, .int .i64 a0_5, .int .i64 a0_6], .slice Ao99 t282.length co99] rfl (by (try simp only [List.map_toArray, List.map_cons, List.map_nil]); first | done | rfl | (simp only [List.length_drop, List.length_take]; rfl)) ?_; (with_reducible refine (model_Of.calls kj19 a0_0 a0_1 _ _ l0_2 a0_3 a0_4 a0_5 a0_6 _ _ t282 t285 _ ?side1 ?side2 ?side3 ?side4 A43.out).mono ?_); (case side1 => repeat (first | exact (Kd.C_below HR0_2.out HB.out) | (with_reducible refine Kd.C_alloc ?_ _) | (with_reducible refine Kd.C_drewN ?_ _) | (with_reducible refine Kd.C_drew ?_))); (case side2 => exact HC0_2.out); (case side3 => repeat (first | exact (Kd.R_reads' HO284.out).2.2 | (with_reducible refine Kd.C_alloc ?_ _) | (with_reducible refine Kd.C_drewN ?_ _) | (with_reducible refine Kd.C_drew ?_))); (case side4 => exact (Kd.R_reads' HO284.out).2.1); rintro e w100 ⟨v286, rfl, ho0, hb⟩; refine ⟨_, rfl, ?_⟩; have n0_ := Aside0.mk (Kd.R_elder' (by (with_reducible repeat (first | apply Kd.R_alloc | apply Kd.R_drewN | apply Kd.R_drew)); exact HO_11.out) (Kd.R_base ho0) hb); have n1_ := Aside0.mk (Kd.R_below (by (with_reducible repeat (first | apply Kd.R_alloc | apply Kd.R_drewN | apply Kd.R_drew)); exact HO276.out) hb); have n2_ := Aside0.mk (Kd.R_below (by (with_reducible repeat (first | apply Kd.R_alloc | apply Kd.R_drewN | apply Kd.R_drew)); exact HO281.out) hb); have n3_ := Aside0.mk (Kd.R_below (by (with_reducible repeat (first | apply Kd.R_alloc | apply Kd.R_drewN | apply Kd.R_drew)); exact HO284.out) hb); have n4_ := Aside0.mk (Kd.R_lower (Kd.R_new' ho0 (Kd.R_lt (by (with_reducible repeat (first | apply Kd.R_alloc | apply Kd.R_drewN | apply Kd.R_drew)); exact HO_11.out))) (below_size (by repeat (first | (with_reducible first | exact HB.out | apply below_alloc | apply pw_below_drewN | apply below_drew1 | refine below_set ?_ GE263.out) | exact HB.out)))); have n5_ := Aside0.mk (blk_below (g := gb263) (o := .cells #[.int .u32 a0_0, .int .i64 a0_1, .slice A0_2 l0_2.length c0_2, .int .i64 a0_3, .int .i64 a0_4, .int .i64 a0_5, .int .i64 a0_6] 27 (0, 0)) (by (with_reducible repeat (first | refine blk_drewN ?_ _ | refine blk_drew ?_ | refine blk_alloc ?_ _)); exact BK263.out) hb); have n6_ := Aside0.mk (below_step (by repeat (first | (with_reducible first | exact HB.out | apply below_alloc | apply pw_below_drewN | apply below_drew1 | refine below_set ?_ GE263.out) | exact HB.out)) hb); clear HO_11; clear HO276; clear HO281; clear HO284; clear BK263; clear HB; have HO_11 := n0_; have HO276 := n1_; have HO281 := n2_; have HO284 := n3_; have HO287 := n4_; have BK263 := n5_; have HB := n6_; clear n0_ n1_ n2_ n3_ n4_ n5_ n6_; (try clear hb); (try clear hb2); (try clear hk); (try clear hi); (try clear ho0); obtain ⟨Ao101, co101, eo101⟩ := Kd.R_slice HO287.out; subst eo101; obtain ⟨Ao102, co102, eo102⟩ := Kd.R_slice HO_11.out; subst eo102) | ((with_reducible refine gate_callee (f := 16) rfl ?_); refine goesL_ (some 82) rfl rfl Try.func16 (by kernel_rfl) rfl #[.slice Ao101 t285.length co101, .slice Ao102 t268.length co102] rfl (by (try simp only [List.map_toArray, List.map_cons, List.map_nil]); first | done | rfl | (simp only [List.length_drop, List.length_take]; rfl)) ?_; (with_reducible refine (lodgerref03_Ints.calls kj19 _ _ t285 _ _ t268 true _ ?side1 ?side2 ?side3 ?side4 A44.out).mono ?_); (case side1 => repeat (first | exact (Kd.R_reads' HO287.out).2.2 | (with_reducible refine Kd.C_alloc ?_ _) | (with_reducible refine Kd.C_drewN ?_ _) | (with_reducible refine Kd.C_drew ?_))); (case side2 => exact (Kd.R_reads' HO287.out).2.1); (case side3 => repeat (first | exact (Kd.R_reads' HO_11.out).2.2 | (with_reducible refine Kd.C_alloc ?_ _) | (with_reducible refine Kd.C_drewN ?_ _) | (with_reducible refine Kd.C_drew ?_))); (case side4 => exact (Kd.R_reads' HO_11.out).2.1); rintro e w' ⟨rfl, ⟨nd, rfl⟩⟩; refine ⟨_, rfl, ?_⟩; have hcz103_0 : w100.cell? ⟨gb263, 0, none⟩ = some (.int .u32 a0_0) := (blk_cell BK263.out 0).trans rfl; have hcz103_1 : w100.cell? ⟨gb263, 1, none⟩ = some (.int .i64 a0_1) := (blk_cell BK263.out 1).trans rfl; have hcz103_2 : w100.cell? ⟨gb263, 2, none⟩ = some (.slice A0_2 l0_2.length c0_2) := (blk_cell BK263.out 2).trans rfl; have hcz103_3 : w100.cell? ⟨gb263, 3, none⟩ = some (.int .i64 a0_3) := (blk_cell BK263.out 3).trans rfl; have hcz103_4 : w100.cell? ⟨gb263, 4, none⟩ = some (.int .i64 a0_4) := (blk_cell BK263.out 4).trans rfl; have hcz103_5 : w100.cell? ⟨gb263, 5, none⟩ = some (.int .i64 a0_5) := (blk_cell BK263.out 5).trans rfl; have hcz103_6 : w100.cell? ⟨gb263, 6, none⟩ = some (.int .i64 a0_6) := (blk_cell BK263.out 6).trans rfl; have hfz103_0 := blk_frozen BK263.out 0; have hfz103_1 := blk_frozen BK263.out 1; have hfz103_2 := blk_frozen BK263.out 2; have hfz103_3 := blk_frozen BK263.out 3; have hfz103_4 := blk_frozen BK263.out 4; have hfz103_5 := blk_frozen BK263.out 5; have hfz103_6 := blk_frozen BK263.out 6) | ((with_reducible refine gate_callee (f := 30) rfl ?_); refine goesL_ (some 86) rfl rfl Try.func30 (by kernel_rfl) rfl #[.agg #[.int .u32 a0_0, .int .i64 a0_1, .slice A0_2 l0_2.length c0_2, .int .i64 a0_3, .int .i64 a0_4, .int .i64 a0_5, .int .i64 a0_6], .int .i64 (Int.tmod (wrap64 (a2)) t267)] rfl (by (try simp only [List.map_toArray, List.map_cons, List.map_nil]); first | done | rfl | (simp only [List.length_drop, List.length_take]; rfl)) ?_; (with_reducible refine (lodgerref05_Held.calls kj19 a0_0 a0_1 _ _ l0_2 a0_3 a0_4 a0_5 a0_6 (Int.tmod (wrap64 (a2)) t267) false _ ?side1 ?side2 A46.out).mono ?_); (case side1 => repeat (first | exact (Kd.C_below HR0_2.out (by repeat (first | (with_reducible first | exact HB.out | apply below_alloc | apply pw_below_drewN | apply below_drew1 | refine below_set ?_ GE263.out) | exact HB.out))) | (with_reducible refine Kd.C_alloc ?_ _) | (with_reducible refine Kd.C_drewN ?_ _) | (with_reducible refine Kd.C_drew ?_))); (case side2 => exact HC0_2.out); rintro e w104 ⟨rfl, hb⟩; refine ⟨_, rfl, ?_⟩; have n0_ := Aside0.mk (Kd.R_below (by (with_reducible repeat (first | apply Kd.R_alloc | apply Kd.R_drewN | apply Kd.R_drew)); exact HO_11.out) hb); have n1_ := Aside0.mk (Kd.R_below (by (with_reducible repeat (first | apply Kd.R_alloc | apply Kd.R_drewN | apply Kd.R_drew)); exact HO276.out) hb); have n2_ := Aside0.mk (Kd.R_below (by (with_reducible repeat (first | apply Kd.R_alloc | apply Kd.R_drewN | apply Kd.R_drew)); exact HO281.out) hb); have n3_ := Aside0.mk (Kd.R_below (by (with_reducible repeat (first | apply Kd.R_alloc | apply Kd.R_drewN | apply Kd.R_drew)); exact HO284.out) hb); have n4_ := Aside0.mk (Kd.R_below (by (with_reducible repeat (first | apply Kd.R_alloc | apply Kd.R_drewN | apply Kd.R_drew)); exact HO287.out) hb); have n5_ := Aside0.mk (blk_below (g := gb263) (o := .cells #[.int .u32 a0_0, .int .i64 a0_1, .slice A0_2 l0_2.length c0_2, .int .i64 a0_3, .int .i64 a0_4, .int .i64 a0_5, .int .i64 a0_6] 27 (0, 0)) (by (with_reducible repeat (first | refine blk_drewN ?_ _ | refine blk_drew ?_ | refine blk_alloc ?_ _)); exact BK263.out) hb); have n6_ := Aside0.mk (below_step (by repeat (first | (with_reducible first | exact HB.out | apply below_alloc | apply pw_below_drewN | apply below_drew1 | refine below_set ?_ GE263.out) | exact HB.out)) hb); clear HO_11; clear HO276; clear HO281; clear HO284; clear HO287; clear BK263; clear HB; have HO_11 := n0_; have HO276 := n1_; have HO281 := n2_; have HO284 := n3_; have HO287 := n4_; have BK263 := n5_; have HB := n6_; clear n0_ n1_ n2_ n3_ n4_ n5_ n6_; (try clear hb); (try clear hb2); (try clear hk); (try clear hi)) | (go_at_call 32; (with_reducible refine (word_Claim.calls (rd l1 (ji35)) (Int.tmod (Int.tmod (wrap64 (a2)) t267) 32) t273 _ A38.out).mono ?_); rintro e w' ⟨rfl, ⟨nd, rfl⟩⟩) | (go_at_call 31; (with_reducible refine (word_Drop.calls (rd l1 (ji35)) (Int.tmod (Int.tmod (wrap64 (a2)) t267) 32) t278 _ A40.out).mono ?_); rintro e w' ⟨rfl, ⟨nd, rfl⟩⟩))
               have n0_ := Aside0.mk (Kd.R_drew HO_11.out)
               have n1_ := Aside0.mk (Kd.R_drew HO276.out)
               have n2_ := Aside0.mk (Kd.R_drew HO281.out)
               have n3_ := Aside0.mk (Kd.R_drew HO284.out)
               have n4_ := Aside0.mk (Kd.R_drew HO287.out)
               have n5_ := Aside0.mk (blk_drew BK263.out)
               have n6_ := Aside0.mk (below_drew1 HB.out)
               clear HO_11
               clear HO276
               clear HO281
               clear HO284
               clear HO287
               clear BK263
               clear HB
               have HO_11 := n0_
               have HO276 := n1_
               have HO281 := n2_
               have HO284 := n3_
               have HO287 := n4_
               have BK263 := n5_
               have HB := n6_
               clear n0_ n1_ n2_ n3_ n4_ n5_ n6_
               obtain ⟨Ao106, co106, eo106⟩ := Kd.R_slice HO276.out
               (first | subst eo106 | (injection eo106 with f1_ f2_ f3_; have f4_ := f1_.symm; have f5_ := f3_.symm; clear f1_ f2_ f3_; subst f4_; subst f5_))
               have p313 : 0 ≤ ((ji35) : Int) := of_decide_eq_true (by first | (with_reducible assumption) | assumption)
               have q313 : (ji35) < (l1.length : Int) := of_decide_eq_true (by first | (with_reducible assumption) | assumption)
               obtain ⟨ad313, e313, hx313_0⟩ := Kd.at_int HR1.out (ji35) p313 q313
               have hw313_0 := hx313_0
               obtain rfl : ad272 = ad313 := (by injection e313)
               replace hx313_0 := (HB.out.cell (World.block_lt_of_cell? w _ hx313_0)).trans hx313_0
               replace p313 := eq_true p313
               replace q313 := eq_true q313
               refine start_ (n := 31) (S := fun w' => w'.cell? ⟨gb263, 0, none⟩ = some (.int .u32 a0_0) ∧ w'.cell? ⟨gb263, 1, none⟩ = some (.int .i64 a0_1) ∧ w'.cell? ⟨gb263, 2, none⟩ = some (.slice A0_2 l0_2.length c0_2) ∧ w'.cell? ⟨gb263, 3, none⟩ = some (.int .i64 a0_3) ∧ w'.cell? ⟨gb263, 4, none⟩ = some (.int .i64 a0_4) ∧ w'.cell? ⟨gb263, 5, none⟩ = some (.int .i64 a0_5) ∧ w'.cell? ⟨gb263, 6, none⟩ = some (.int .i64 a0_6) ∧ w'.cell? (ad272.add ((ji35)).toNat) = some (.int .u64 (rd l1 (ji35)))) (ds := []) #[false, false, false, false, false, false, false, false, false, false, false, false, false, false, false, false, false, false, false, false, false, false, false, false, false, false, false, false, false, false, false] (by kernel_rfl) rfl rfl ⟨(blk_cell BK263.out 0).trans rfl, (blk_cell BK263.out 1).trans rfl, (blk_cell BK263.out 2).trans rfl, (blk_cell BK263.out 3).trans rfl, (blk_cell BK263.out 4).trans rfl, (blk_cell BK263.out 5).trans rfl, (blk_cell BK263.out 6).trans rfl, ((HB.out.cell (World.block_lt_of_cell? w _ hw313_0)).trans hw313_0)⟩ (fun hHeld => ?_); refine with_tabW lodgerlaw09_ModelCells.tab15 lodgerlaw09_ModelCells.bits15 (fun HT_ HW_ => ?_)
               generalize w104.drew = w105 at HO_11 HO276 HO281 HO284 HO287 BK263 HB hx313_0 hHeld ⊢
               refine pu_ (i := 1) (N := some 100) (tf 31 2) HT_ ?_
               refine pu_ (i := 3) (N := some 102) (tf 31 10) HT_ ?_
               refine pu_ (i := 4) (N := some 103) (tf 31 26) HT_ ?_
               refine tk_ (i := 0) (N := some 99) (tf 31 27) rfl rfl HT_ HW_ hHeld (by rintro w' ⟨s0, s1, s2, s3, s4, s5, s6, s7⟩; go_simp; with_reducible rfl) ?_
               refine one_ (i := 2) (N := some 101) #[true, true, true, true, true, false, false, false, false, false, false, false, false, false, false, false, false, false, false, false, false, false, false, false, false, false, false, false, false, false, false] rfl rfl (one_of HT_.out (by kernel_rfl)) (by decide) (fun K hK => ?_)
               refine goes_ Try.func22 (by kernel_rfl) rfl #[.agg #[.int .u32 a0_0, .int .i64 a0_1, .slice A0_2 l0_2.length c0_2, .int .i64 a0_3, .int .i64 a0_4, .int .i64 a0_5, .int .i64 a0_6], .slice Ao106 t274.length co106] (by rfl) rfl rfl (by (try simp only [List.map_toArray, List.map_cons, List.map_nil]); first | done | rfl | (simp only [List.length_drop, List.length_take]; rfl)) ?_
               with_reducible refine (model_Of.calls kj19 a0_0 a0_1 _ _ l0_2 a0_3 a0_4 a0_5 a0_6 _ _ t274 t298 _ ?side1 ?side2 ?side3 ?side4 A85.out).mono ?_
               (case side1 => repeat (first | exact (Kd.C_below HR0_2.out HB.out) | (with_reducible refine Kd.C_alloc ?_ _) | (with_reducible refine Kd.C_drewN ?_ _) | (with_reducible refine Kd.C_drew ?_)))
               (case side2 => exact HC0_2.out)
               (case side3 => repeat (first | exact (Kd.R_reads' HO276.out).2.2 | (with_reducible refine Kd.C_alloc ?_ _) | (with_reducible refine Kd.C_drewN ?_ _) | (with_reducible refine Kd.C_drew ?_)))
               (case side4 => exact (Kd.R_reads' HO276.out).2.1)
               rintro e w107 ⟨v299, rfl, ho0, hb⟩
               refine ⟨_, rfl, ?_⟩
               have n0_ := Aside0.mk (Kd.R_elder' (by (with_reducible repeat (first | apply Kd.R_alloc | apply Kd.R_drewN | apply Kd.R_drew)); exact HO_11.out) (Kd.R_base ho0) hb)
               have n1_ := Aside0.mk (Kd.R_below (by (with_reducible repeat (first | apply Kd.R_alloc | apply Kd.R_drewN | apply Kd.R_drew)); exact HO276.out) hb)
               have n2_ := Aside0.mk (Kd.R_below (by (with_reducible repeat (first | apply Kd.R_alloc | apply Kd.R_drewN | apply Kd.R_drew)); exact HO281.out) hb)
               have n3_ := Aside0.mk (Kd.R_below (by (with_reducible repeat (first | apply Kd.R_alloc | apply Kd.R_drewN | apply Kd.R_drew)); exact HO284.out) hb)
               have n4_ := Aside0.mk (Kd.R_elder' (by (with_reducible repeat (first | apply Kd.R_alloc | apply Kd.R_drewN | apply Kd.R_drew)); exact HO287.out) (Kd.R_base ho0) hb)
               have n5_ := Aside0.mk (Kd.R_lower (Kd.R_new' (Kd.R_new' ho0 (Kd.R_lt (by (with_reducible repeat (first | apply Kd.R_alloc | apply Kd.R_drewN | apply Kd.R_drew)); exact HO_11.out))) (Kd.R_lt (by (with_reducible repeat (first | apply Kd.R_alloc | apply Kd.R_drewN | apply Kd.R_drew)); exact HO287.out))) (below_size (by repeat (first | (with_reducible first | exact HB.out | apply below_alloc | apply pw_below_drewN | apply below_drew1 | refine below_set ?_ GE263.out) | exact HB.out))))
               have n6_ := Aside0.mk (blk_below (g := gb263) (o := .cells #[.int .u32 a0_0, .int .i64 a0_1, .slice A0_2 l0_2.length c0_2, .int .i64 a0_3, .int .i64 a0_4, .int .i64 a0_5, .int .i64 a0_6] 27 (0, 0)) (by (with_reducible repeat (first | refine blk_drewN ?_ _ | refine blk_drew ?_ | refine blk_alloc ?_ _)); exact BK263.out) hb)
               have n7_ := Aside0.mk (below_step (by repeat (first | (with_reducible first | exact HB.out | apply below_alloc | apply pw_below_drewN | apply below_drew1 | refine below_set ?_ GE263.out) | exact HB.out)) hb)
               clear HO_11
               clear HO276
               clear HO281
               clear HO284
               clear HO287
               clear BK263
               clear HB
               have HO_11 := n0_
               have HO276 := n1_
               have HO281 := n2_
               have HO284 := n3_
               have HO287 := n4_
               have HO300 := n5_
               have BK263 := n6_
               have HB := n7_
               clear n0_ n1_ n2_ n3_ n4_ n5_ n6_ n7_
               (try clear hb)
               (try clear hb2)
               (try clear hk)
               (try clear hi)
               (try clear ho0)
               refine hK.out _ _ ⟨(blk_cell BK263.out 0).trans rfl, (blk_cell BK263.out 1).trans rfl, (blk_cell BK263.out 2).trans rfl, (blk_cell BK263.out 3).trans rfl, (blk_cell BK263.out 4).trans rfl, (blk_cell BK263.out 5).trans rfl, (blk_cell BK263.out 6).trans rfl, ((HB.out.cell (World.block_lt_of_cell? w _ hw313_0)).trans hw313_0)⟩ (fun hHeld => ?_)
               clear hK K
               refine norm_ (a' := ?_) ?_ ?_
               rotate_left
               ·show Act.put _ (some 101) _ = _
                simp only [Act.put, List.setIfInBounds_toArray, List.set_cons_zero, List.set_cons_succ, i64_w, i32_w]
                rfl
               refine one_ (i := 5) (N := some 104) #[true, true, true, true, true, true, false, false, false, false, false, false, false, false, false, false, false, false, false, false, false, false, false, false, false, false, false, false, false, false, false] rfl rfl (one_of HT_.out (by kernel_rfl)) (by decide) (fun K hK => ?_)
               refine goes_ Try.func17 (by kernel_rfl) rfl #[.slice Ao102 t268.length co102, .int .i64 (Int.tmod (wrap64 (a2)) t267)] (by rfl) rfl rfl (by (try simp only [List.map_toArray, List.map_cons, List.map_nil]); first | done | rfl | (simp only [List.length_drop, List.length_take]; rfl)) ?_
               with_reducible refine (model_With.calls kj19 (fun k_ => some k_ = (.slice Ao102 t268.length co102 : Value).ownBlock) _ _ t268 (Int.tmod (wrap64 (a2)) t267) t301 _ ?side1 A86.out).mono ?_
               (case side1 => exact Kd.R_V (Kd.R_tight rfl (Kd.R_types (Kd.R_apart' (Kd.R_apart' (Kd.R_apart' (HO_11.out) (Kd.R_typed HO276.out) (by decide)) (Kd.R_typed HO281.out) (by decide)) (Kd.R_typed HO284.out) (by decide)) BK263.out (by decide))))
               rintro e w108 ⟨v302, rfl, ho0, hb⟩
               refine ⟨_, rfl, ?_⟩
               have n0_ := Aside0.mk (Kd.R_below (by (with_reducible repeat (first | apply Kd.R_alloc | apply Kd.R_drewN | apply Kd.R_drew)); exact HO_11.out) hb)
               have n1_ := Aside0.mk (Kd.R_below (by (with_reducible repeat (first | apply Kd.R_alloc | apply Kd.R_drewN | apply Kd.R_drew)); exact HO276.out) hb)
               have n2_ := Aside0.mk (Kd.R_below (by (with_reducible repeat (first | apply Kd.R_alloc | apply Kd.R_drewN | apply Kd.R_drew)); exact HO281.out) hb)
               have n3_ := Aside0.mk (Kd.R_below (by (with_reducible repeat (first | apply Kd.R_alloc | apply Kd.R_drewN | apply Kd.R_drew)); exact HO284.out) hb)
               have n4_ := Aside0.mk (Kd.R_below (by (with_reducible repeat (first | apply Kd.R_alloc | apply Kd.R_drewN | apply Kd.R_drew)); exact HO287.out) hb)
               have n5_ := Aside0.mk (Kd.R_below (by (with_reducible repeat (first | apply Kd.R_alloc | apply Kd.R_drewN | apply Kd.R_drew)); exact HO300.out) hb)
               have n6_ := Aside0.mk (Kd.V_lower (Kd.V_mono (ok' := fun k_ => some k_ ≠ (.slice Ao106 t274.length co106 : Value).ownBlock ∧ some k_ ≠ (v280 : Value).ownBlock ∧ some k_ ≠ (.slice Ao99 t282.length co99 : Value).ownBlock ∧ some k_ ≠ (.slice Ao101 t285.length co101 : Value).ownBlock ∧ some k_ ≠ (v299 : Value).ownBlock ∧ k_ ≠ gb263) ho0 (fun k_ hk_ => ⟨Or.elim hk_ (fun hs_ => ((Kd.R_types (Kd.R_apart' (Kd.R_apart' (Kd.R_apart' (HO_11.out) (Kd.R_typed HO276.out) (by decide)) (Kd.R_typed HO281.out) (by decide)) (Kd.R_typed HO284.out) (by decide)) BK263.out (by decide)).1 k_ hs_.symm).1.1.1.2) (fun hn_ => (Kd.fresh' (Kd.R_lt (by (with_reducible repeat (first | apply Kd.R_alloc | apply Kd.R_drewN | apply Kd.R_drew)); exact HO276.out)) k_ hn_)), Or.elim hk_ (fun hs_ => ((Kd.R_types (Kd.R_apart' (Kd.R_apart' (Kd.R_apart' (HO_11.out) (Kd.R_typed HO276.out) (by decide)) (Kd.R_typed HO281.out) (by decide)) (Kd.R_typed HO284.out) (by decide)) BK263.out (by decide)).1 k_ hs_.symm).1.1.2) (fun hn_ => (Kd.fresh' (Kd.R_lt (by (with_reducible repeat (first | apply Kd.R_alloc | apply Kd.R_drewN | apply Kd.R_drew)); exact HO281.out)) k_ hn_)), Or.elim hk_ (fun hs_ => ((Kd.R_types (Kd.R_apart' (Kd.R_apart' (Kd.R_apart' (HO_11.out) (Kd.R_typed HO276.out) (by decide)) (Kd.R_typed HO281.out) (by decide)) (Kd.R_typed HO284.out) (by decide)) BK263.out (by decide)).1 k_ hs_.symm).1.2) (fun hn_ => (Kd.fresh' (Kd.R_lt (by (with_reducible repeat (first | apply Kd.R_alloc | apply Kd.R_drewN | apply Kd.R_drew)); exact HO284.out)) k_ hn_)), Or.elim hk_ (fun hs_ => ((Kd.R_types (Kd.R_apart' (Kd.R_apart' (Kd.R_apart' (HO_11.out) (Kd.R_typed HO276.out) (by decide)) (Kd.R_typed HO281.out) (by decide)) (Kd.R_typed HO284.out) (by decide)) BK263.out (by decide)).1 k_ hs_.symm).1.1.1.1.1.2) (fun hn_ => (Kd.fresh' (Kd.R_lt (by (with_reducible repeat (first | apply Kd.R_alloc | apply Kd.R_drewN | apply Kd.R_drew)); exact HO287.out)) k_ hn_)), Or.elim hk_ (fun hs_ => ((Kd.R_types (Kd.R_apart' (Kd.R_apart' (Kd.R_apart' (HO_11.out) (Kd.R_typed HO276.out) (by decide)) (Kd.R_typed HO281.out) (by decide)) (Kd.R_typed HO284.out) (by decide)) BK263.out (by decide)).1 k_ hs_.symm).1.1.1.1.2) (fun hn_ => (Kd.fresh' (Kd.R_lt (by (with_reducible repeat (first | apply Kd.R_alloc | apply Kd.R_drewN | apply Kd.R_drew)); exact HO300.out)) k_ hn_)), Or.elim hk_ (fun hs_ => ((Kd.R_types (Kd.R_apart' (Kd.R_apart' (Kd.R_apart' (HO_11.out) (Kd.R_typed HO276.out) (by decide)) (Kd.R_typed HO281.out) (by decide)) (Kd.R_typed HO284.out) (by decide)) BK263.out (by decide)).1 k_ hs_.symm).2) (fun hn_ => (Kd.freshB (g := gb263) (o := .cells #[.int .u32 a0_0, .int .i64 a0_1, .slice A0_2 l0_2.length c0_2, .int .i64 a0_3, .int .i64 a0_4, .int .i64 a0_5, .int .i64 a0_6] 27 (0, 0)) (by (with_reducible repeat (first | refine blk_drewN ?_ _ | refine blk_drew ?_ | refine blk_alloc ?_ _)); exact BK263.out) k_ hn_))⟩)) (below_size (by repeat (first | (with_reducible first | exact HB.out | apply below_alloc | apply pw_below_drewN | apply below_drew1 | refine below_set ?_ GE263.out) | exact HB.out))))
               have n7_ := Aside0.mk (blk_below (g := gb263) (o := .cells #[.int .u32 a0_0, .int .i64 a0_1, .slice A0_2 l0_2.length c0_2, .int .i64 a0_3, .int .i64 a0_4, .int .i64 a0_5, .int .i64 a0_6] 27 (0, 0)) (by (with_reducible repeat (first | refine blk_drewN ?_ _ | refine blk_drew ?_ | refine blk_alloc ?_ _)); exact BK263.out) hb)
               have n8_ := Aside0.mk (below_step (by repeat (first | (with_reducible first | exact HB.out | apply below_alloc | apply pw_below_drewN | apply below_drew1 | refine below_set ?_ GE263.out) | exact HB.out)) hb)
               clear HO_11
               clear HO276
               clear HO281
               clear HO284
               clear HO287
               clear HO300
               clear BK263
               clear HB
               have HO_11 := n0_
               have HO276 := n1_
               have HO281 := n2_
               have HO284 := n3_
               have HO287 := n4_
               have HO300 := n5_
               have HO303 := n6_
               have BK263 := n7_
               have HB := n8_
               clear n0_ n1_ n2_ n3_ n4_ n5_ n6_ n7_ n8_
               (try clear hb)
               (try clear hb2)
               (try clear hk)
               (try clear hi)
               (try clear ho0)
               obtain ⟨Ao109, co109, eo109⟩ := Kd.R_slice HO300.out
               (first | subst eo109 | (injection eo109 with f1_ f2_ f3_; have f4_ := f1_.symm; have f5_ := f3_.symm; clear f1_ f2_ f3_; subst f4_; subst f5_))
               obtain ⟨Ao110, co110, eo110⟩ := Kd.V_slice HO303.out
               (first | subst eo110 | (injection eo110 with f1_ f2_ f3_; have f4_ := f1_.symm; have f5_ := f3_.symm; clear f1_ f2_ f3_; subst f4_; subst f5_))
               refine hK.out _ _ ⟨(blk_cell BK263.out 0).trans rfl, (blk_cell BK263.out 1).trans rfl, (blk_cell BK263.out 2).trans rfl, (blk_cell BK263.out 3).trans rfl, (blk_cell BK263.out 4).trans rfl, (blk_cell BK263.out 5).trans rfl, (blk_cell BK263.out 6).trans rfl, ((HB.out.cell (World.block_lt_of_cell? w _ hw313_0)).trans hw313_0)⟩ (fun hHeld => ?_)
               clear hK K
               refine norm_ (a' := ?_) ?_ ?_
               rotate_left
               ·show Act.put _ (some 104) _ = _
                simp only [Act.put, List.setIfInBounds_toArray, List.set_cons_zero, List.set_cons_succ, i64_w, i32_w]
                rfl
               refine one_ (i := 6) (N := some 105) #[true, true, true, true, true, true, true, false, false, false, false, false, false, false, false, false, false, false, false, false, false, false, false, false, false, false, false, false, false, false, false] rfl rfl (one_of HT_.out (by kernel_rfl)) (by decide) (fun K hK => ?_)
               refine goes_ Try.func16 (by kernel_rfl) rfl #[.slice Ao109 t298.length co109, .slice Ao110 t301.length co110] (by rfl) rfl rfl (by (try simp only [List.map_toArray, List.map_cons, List.map_nil]); first | done | rfl | (simp only [List.length_drop, List.length_take]; rfl)) ?_
               with_reducible refine (lodgerref03_Ints.calls kj19 _ _ t298 _ _ t301 true _ ?side1 ?side2 ?side3 ?side4 A87.out).mono ?_
               (case side1 => repeat (first | exact (Kd.R_reads' HO300.out).2.2 | (with_reducible refine Kd.C_alloc ?_ _) | (with_reducible refine Kd.C_drewN ?_ _) | (with_reducible refine Kd.C_drew ?_)))
               (case side2 => exact (Kd.R_reads' HO300.out).2.1)
               (case side3 => repeat (first | exact (Kd.V_reads' HO303.out).2.2 | (with_reducible refine Kd.C_alloc ?_ _) | (with_reducible refine Kd.C_drewN ?_ _) | (with_reducible refine Kd.C_drew ?_)))
               (case side4 => exact (Kd.V_reads' HO303.out).2.1)
               rintro e w' ⟨rfl, ⟨nd, rfl⟩⟩
               refine ⟨_, rfl, ?_⟩
               obtain ⟨Ao111, co111, eo111⟩ := Kd.R_slice HO281.out
               (first | subst eo111 | (injection eo111 with f1_ f2_ f3_; have f4_ := f1_.symm; have f5_ := f3_.symm; clear f1_ f2_ f3_; subst f4_; subst f5_))
               refine hK.out _ _ ⟨(blk_cell BK263.out 0).trans rfl, (blk_cell BK263.out 1).trans rfl, (blk_cell BK263.out 2).trans rfl, (blk_cell BK263.out 3).trans rfl, (blk_cell BK263.out 4).trans rfl, (blk_cell BK263.out 5).trans rfl, (blk_cell BK263.out 6).trans rfl, ((HB.out.cell (World.block_lt_of_cell? w _ hw313_0)).trans hw313_0)⟩ (fun hHeld => ?_)
               clear hK K
               refine norm_ (a' := ?_) ?_ ?_
               rotate_left
               ·show Act.put _ (some 105) _ = _
                simp only [Act.put, List.setIfInBounds_toArray, List.set_cons_zero, List.set_cons_succ, i64_w, i32_w]
                rfl
               refine pu_ (i := 7) (N := some 106) (tf 31 255) HT_ ?_
               refine pu_ (i := 9) (N := some 108) (tf 31 767) HT_ ?_
               refine pu_ (i := 11) (N := some 110) (tf 31 2815) HT_ ?_
               refine pu_ (i := 12) (N := some 111) (tf 31 6911) HT_ ?_
               refine tk_ (i := 8) (N := some 107) (tf 31 7167) rfl rfl HT_ HW_ hHeld (by rintro w' ⟨s0, s1, s2, s3, s4, s5, s6, s7⟩; go_simp; with_reducible rfl) ?_
               refine one_ (i := 10) (N := some 109) #[true, true, true, true, true, true, true, true, true, true, true, true, true, false, false, false, false, false, false, false, false, false, false, false, false, false, false, false, false, false, false] rfl rfl (one_of HT_.out (by kernel_rfl)) (by decide) (fun K hK => ?_)
               refine goes_ Try.func22 (by kernel_rfl) rfl #[.agg #[.int .u32 a0_0, .int .i64 a0_1, .slice A0_2 l0_2.length c0_2, .int .i64 a0_3, .int .i64 a0_4, .int .i64 a0_5, .int .i64 a0_6], .slice Ao111 t279.length co111] (by rfl) rfl rfl (by (try simp only [List.map_toArray, List.map_cons, List.map_nil]); first | done | rfl | (simp only [List.length_drop, List.length_take]; rfl)) ?_
               with_reducible refine (model_Of.calls kj19 a0_0 a0_1 _ _ l0_2 a0_3 a0_4 a0_5 a0_6 _ _ t279 t305 _ ?side1 ?side2 ?side3 ?side4 A89.out).mono ?_
               (case side1 => repeat (first | exact (Kd.C_below HR0_2.out (by repeat (first | (with_reducible first | exact HB.out | apply below_alloc | apply pw_below_drewN | apply below_drew1 | refine below_set ?_ GE263.out) | exact HB.out))) | (with_reducible refine Kd.C_alloc ?_ _) | (with_reducible refine Kd.C_drewN ?_ _) | (with_reducible refine Kd.C_drew ?_)))
               (case side2 => exact HC0_2.out)
               (case side3 => repeat (first | exact (Kd.R_reads' HO281.out).2.2 | (with_reducible refine Kd.C_alloc ?_ _) | (with_reducible refine Kd.C_drewN ?_ _) | (with_reducible refine Kd.C_drew ?_)))
               (case side4 => exact (Kd.R_reads' HO281.out).2.1)
               rintro e w112 ⟨v306, rfl, ho0, hb⟩
               refine ⟨_, rfl, ?_⟩
               have n0_ := Aside0.mk (Kd.R_elder' (by (with_reducible repeat (first | apply Kd.R_alloc | apply Kd.R_drewN | apply Kd.R_drew)); exact HO_11.out) (Kd.R_base ho0) hb)
               have n1_ := Aside0.mk (Kd.R_below (by (with_reducible repeat (first | apply Kd.R_alloc | apply Kd.R_drewN | apply Kd.R_drew)); exact HO276.out) hb)
               have n2_ := Aside0.mk (Kd.R_below (by (with_reducible repeat (first | apply Kd.R_alloc | apply Kd.R_drewN | apply Kd.R_drew)); exact HO281.out) hb)
               have n3_ := Aside0.mk (Kd.R_below (by (with_reducible repeat (first | apply Kd.R_alloc | apply Kd.R_drewN | apply Kd.R_drew)); exact HO284.out) hb)
               have n4_ := Aside0.mk (Kd.R_elder' (by (with_reducible repeat (first | apply Kd.R_alloc | apply Kd.R_drewN | apply Kd.R_drew)); exact HO287.out) (Kd.R_base ho0) hb)
               have n5_ := Aside0.mk (Kd.R_elder' (by (with_reducible repeat (first | apply Kd.R_alloc | apply Kd.R_drewN | apply Kd.R_drew)); exact HO300.out) (Kd.R_base ho0) hb)
               have n6_ := Aside0.mk (Kd.V_elder' (by (with_reducible repeat (first | apply Kd.V_alloc | apply Kd.V_drewN | apply Kd.V_drew)); exact HO303.out) (Kd.R_base ho0) hb)
               have n7_ := Aside0.mk (Kd.R_lower (Kd.R_new' (Kd.R_new' (Kd.R_new' ho0 (Kd.R_lt (by (with_reducible repeat (first | apply Kd.R_alloc | apply Kd.R_drewN | apply Kd.R_drew)); exact HO_11.out))) (Kd.R_lt (by (with_reducible repeat (first | apply Kd.R_alloc | apply Kd.R_drewN | apply Kd.R_drew)); exact HO287.out))) (Kd.R_lt (by (with_reducible repeat (first | apply Kd.R_alloc | apply Kd.R_drewN | apply Kd.R_drew)); exact HO300.out))) (below_size (by repeat (first | (with_reducible first | exact HB.out | apply below_alloc | apply pw_below_drewN | apply below_drew1 | refine below_set ?_ GE263.out) | exact HB.out))))
               have n8_ := Aside0.mk (blk_below (g := gb263) (o := .cells #[.int .u32 a0_0, .int .i64 a0_1, .slice A0_2 l0_2.length c0_2, .int .i64 a0_3, .int .i64 a0_4, .int .i64 a0_5, .int .i64 a0_6] 27 (0, 0)) (by (with_reducible repeat (first | refine blk_drewN ?_ _ | refine blk_drew ?_ | refine blk_alloc ?_ _)); exact BK263.out) hb)
               have n9_ := Aside0.mk (below_step (by repeat (first | (with_reducible first | exact HB.out | apply below_alloc | apply pw_below_drewN | apply below_drew1 | refine below_set ?_ GE263.out) | exact HB.out)) hb)
               clear HO_11
               clear HO276
               clear HO281
               clear HO284
               clear HO287
               clear HO300
               clear HO303
               clear BK263
               clear HB
               have HO_11 := n0_
               have HO276 := n1_
               have HO281 := n2_
               have HO284 := n3_
               have HO287 := n4_
               have HO300 := n5_
               have HO303 := n6_
               have HO307 := n7_
               have BK263 := n8_
               have HB := n9_
               clear n0_ n1_ n2_ n3_ n4_ n5_ n6_ n7_ n8_ n9_
               (try clear hb)
               (try clear hb2)
               (try clear hk)
               (try clear hi)
               (try clear ho0)
               refine hK.out _ _ ⟨(blk_cell BK263.out 0).trans rfl, (blk_cell BK263.out 1).trans rfl, (blk_cell BK263.out 2).trans rfl, (blk_cell BK263.out 3).trans rfl, (blk_cell BK263.out 4).trans rfl, (blk_cell BK263.out 5).trans rfl, (blk_cell BK263.out 6).trans rfl, ((HB.out.cell (World.block_lt_of_cell? w _ hw313_0)).trans hw313_0)⟩ (fun hHeld => ?_)
               clear hK K
               refine norm_ (a' := ?_) ?_ ?_
               rotate_left
               ·show Act.put _ (some 109) _ = _
                simp only [Act.put, List.setIfInBounds_toArray, List.set_cons_zero, List.set_cons_succ, i64_w, i32_w]
                rfl
               refine one_ (i := 13) (N := some 112) #[true, true, true, true, true, true, true, true, true, true, true, true, true, true, false, false, false, false, false, false, false, false, false, false, false, false, false, false, false, false, false] rfl rfl (one_of HT_.out (by kernel_rfl)) (by decide) (fun K hK => ?_)
               refine goes_ Try.func19 (by kernel_rfl) rfl #[.slice Ao102 t268.length co102, .int .i64 (Int.tmod (wrap64 (a2)) t267)] (by rfl) rfl rfl (by (try simp only [List.map_toArray, List.map_cons, List.map_nil]); first | done | rfl | (simp only [List.length_drop, List.length_take]; rfl)) ?_
               with_reducible refine (model_Without.calls kj19 (fun k_ => some k_ = (.slice Ao102 t268.length co102 : Value).ownBlock) _ _ t268 (Int.tmod (wrap64 (a2)) t267) t308 _ ?side1 A90.out).mono ?_
               (case side1 => exact Kd.R_V (Kd.R_tight rfl (Kd.R_types (Kd.R_apart' (Kd.R_apart' (Kd.R_apart' (HO_11.out) (Kd.R_typed HO276.out) (by decide)) (Kd.R_typed HO281.out) (by decide)) (Kd.R_typed HO284.out) (by decide)) BK263.out (by decide))))
               rintro e w113 ⟨v309, rfl, ho0, hb⟩
               refine ⟨_, rfl, ?_⟩
               have n0_ := Aside0.mk (Kd.R_below (by (with_reducible repeat (first | apply Kd.R_alloc | apply Kd.R_drewN | apply Kd.R_drew)); exact HO_11.out) hb)
               have n1_ := Aside0.mk (Kd.R_below (by (with_reducible repeat (first | apply Kd.R_alloc | apply Kd.R_drewN | apply Kd.R_drew)); exact HO276.out) hb)
               have n2_ := Aside0.mk (Kd.R_below (by (with_reducible repeat (first | apply Kd.R_alloc | apply Kd.R_drewN | apply Kd.R_drew)); exact HO281.out) hb)
               have n3_ := Aside0.mk (Kd.R_below (by (with_reducible repeat (first | apply Kd.R_alloc | apply Kd.R_drewN | apply Kd.R_drew)); exact HO284.out) hb)
               have n4_ := Aside0.mk (Kd.R_below (by (with_reducible repeat (first | apply Kd.R_alloc | apply Kd.R_drewN | apply Kd.R_drew)); exact HO287.out) hb)
               have n5_ := Aside0.mk (Kd.R_below (by (with_reducible repeat (first | apply Kd.R_alloc | apply Kd.R_drewN | apply Kd.R_drew)); exact HO300.out) hb)
               have n6_ := Aside0.mk (Kd.V_below (by (with_reducible repeat (first | apply Kd.V_alloc | apply Kd.V_drewN | apply Kd.V_drew)); exact HO303.out) hb)
               have n7_ := Aside0.mk (Kd.R_below (by (with_reducible repeat (first | apply Kd.R_alloc | apply Kd.R_drewN | apply Kd.R_drew)); exact HO307.out) hb)
               have n8_ := Aside0.mk (Kd.V_lower (Kd.V_mono (ok' := fun k_ => some k_ ≠ (.slice Ao106 t274.length co106 : Value).ownBlock ∧ some k_ ≠ (.slice Ao111 t279.length co111 : Value).ownBlock ∧ some k_ ≠ (.slice Ao99 t282.length co99 : Value).ownBlock ∧ some k_ ≠ (.slice Ao101 t285.length co101 : Value).ownBlock ∧ some k_ ≠ (.slice Ao109 t298.length co109 : Value).ownBlock ∧ some k_ ≠ (v306 : Value).ownBlock ∧ k_ ≠ gb263) ho0 (fun k_ hk_ => ⟨Or.elim hk_ (fun hs_ => ((Kd.R_types (Kd.R_apart' (Kd.R_apart' (Kd.R_apart' (HO_11.out) (Kd.R_typed HO276.out) (by decide)) (Kd.R_typed HO281.out) (by decide)) (Kd.R_typed HO284.out) (by decide)) BK263.out (by decide)).1 k_ hs_.symm).1.1.1.2) (fun hn_ => (Kd.fresh' (Kd.R_lt (by (with_reducible repeat (first | apply Kd.R_alloc | apply Kd.R_drewN | apply Kd.R_drew)); exact HO276.out)) k_ hn_)), Or.elim hk_ (fun hs_ => ((Kd.R_types (Kd.R_apart' (Kd.R_apart' (Kd.R_apart' (HO_11.out) (Kd.R_typed HO276.out) (by decide)) (Kd.R_typed HO281.out) (by decide)) (Kd.R_typed HO284.out) (by decide)) BK263.out (by decide)).1 k_ hs_.symm).1.1.2) (fun hn_ => (Kd.fresh' (Kd.R_lt (by (with_reducible repeat (first | apply Kd.R_alloc | apply Kd.R_drewN | apply Kd.R_drew)); exact HO281.out)) k_ hn_)), Or.elim hk_ (fun hs_ => ((Kd.R_types (Kd.R_apart' (Kd.R_apart' (Kd.R_apart' (HO_11.out) (Kd.R_typed HO276.out) (by decide)) (Kd.R_typed HO281.out) (by decide)) (Kd.R_typed HO284.out) (by decide)) BK263.out (by decide)).1 k_ hs_.symm).1.2) (fun hn_ => (Kd.fresh' (Kd.R_lt (by (with_reducible repeat (first | apply Kd.R_alloc | apply Kd.R_drewN | apply Kd.R_drew)); exact HO284.out)) k_ hn_)), Or.elim hk_ (fun hs_ => ((Kd.R_types (Kd.R_apart' (Kd.R_apart' (Kd.R_apart' (HO_11.out) (Kd.R_typed HO276.out) (by decide)) (Kd.R_typed HO281.out) (by decide)) (Kd.R_typed HO284.out) (by decide)) BK263.out (by decide)).1 k_ hs_.symm).1.1.1.1.1.1.2) (fun hn_ => (Kd.fresh' (Kd.R_lt (by (with_reducible repeat (first | apply Kd.R_alloc | apply Kd.R_drewN | apply Kd.R_drew)); exact HO287.out)) k_ hn_)), Or.elim hk_ (fun hs_ => ((Kd.R_types (Kd.R_apart' (Kd.R_apart' (Kd.R_apart' (HO_11.out) (Kd.R_typed HO276.out) (by decide)) (Kd.R_typed HO281.out) (by decide)) (Kd.R_typed HO284.out) (by decide)) BK263.out (by decide)).1 k_ hs_.symm).1.1.1.1.1.2) (fun hn_ => (Kd.fresh' (Kd.R_lt (by (with_reducible repeat (first | apply Kd.R_alloc | apply Kd.R_drewN | apply Kd.R_drew)); exact HO300.out)) k_ hn_)), Or.elim hk_ (fun hs_ => ((Kd.R_types (Kd.R_apart' (Kd.R_apart' (Kd.R_apart' (HO_11.out) (Kd.R_typed HO276.out) (by decide)) (Kd.R_typed HO281.out) (by decide)) (Kd.R_typed HO284.out) (by decide)) BK263.out (by decide)).1 k_ hs_.symm).1.1.1.1.2) (fun hn_ => (Kd.fresh' (Kd.R_lt (by (with_reducible repeat (first | apply Kd.R_alloc | apply Kd.R_drewN | apply Kd.R_drew)); exact HO307.out)) k_ hn_)), Or.elim hk_ (fun hs_ => ((Kd.R_types (Kd.R_apart' (Kd.R_apart' (Kd.R_apart' (HO_11.out) (Kd.R_typed HO276.out) (by decide)) (Kd.R_typed HO281.out) (by decide)) (Kd.R_typed HO284.out) (by decide)) BK263.out (by decide)).1 k_ hs_.symm).2) (fun hn_ => (Kd.freshB (g := gb263) (o := .cells #[.int .u32 a0_0, .int .i64 a0_1, .slice A0_2 l0_2.length c0_2, .int .i64 a0_3, .int .i64 a0_4, .int .i64 a0_5, .int .i64 a0_6] 27 (0, 0)) (by (with_reducible repeat (first | refine blk_drewN ?_ _ | refine blk_drew ?_ | refine blk_alloc ?_ _)); exact BK263.out) k_ hn_))⟩)) (below_size (by repeat (first | (with_reducible first | exact HB.out | apply below_alloc | apply pw_below_drewN | apply below_drew1 | refine below_set ?_ GE263.out) | exact HB.out))))
               have n9_ := Aside0.mk (blk_below (g := gb263) (o := .cells #[.int .u32 a0_0, .int .i64 a0_1, .slice A0_2 l0_2.length c0_2, .int .i64 a0_3, .int .i64 a0_4, .int .i64 a0_5, .int .i64 a0_6] 27 (0, 0)) (by (with_reducible repeat (first | refine blk_drewN ?_ _ | refine blk_drew ?_ | refine blk_alloc ?_ _)); exact BK263.out) hb)
               have n10_ := Aside0.mk (below_step (by repeat (first | (with_reducible first | exact HB.out | apply below_alloc | apply pw_below_drewN | apply below_drew1 | refine below_set ?_ GE263.out) | exact HB.out)) hb)
               clear HO_11
               clear HO276
               clear HO281
               clear HO284
               clear HO287
               clear HO300
               clear HO303
               clear HO307
               clear BK263
               clear HB
               have HO_11 := n0_
               have HO276 := n1_
               have HO281 := n2_
               have HO284 := n3_
               have HO287 := n4_
               have HO300 := n5_
               have HO303 := n6_
               have HO307 := n7_
               have HO310 := n8_
               have BK263 := n9_
               have HB := n10_
               clear n0_ n1_ n2_ n3_ n4_ n5_ n6_ n7_ n8_ n9_ n10_
               (try clear hb)
               (try clear hb2)
               (try clear hk)
               (try clear hi)
               (try clear ho0)
               obtain ⟨Ao114, co114, eo114⟩ := Kd.R_slice HO307.out
               (first | subst eo114 | (injection eo114 with f1_ f2_ f3_; have f4_ := f1_.symm; have f5_ := f3_.symm; clear f1_ f2_ f3_; subst f4_; subst f5_))
               obtain ⟨Ao115, co115, eo115⟩ := Kd.V_slice HO310.out
               (first | subst eo115 | (injection eo115 with f1_ f2_ f3_; have f4_ := f1_.symm; have f5_ := f3_.symm; clear f1_ f2_ f3_; subst f4_; subst f5_))
               refine hK.out _ _ ⟨(blk_cell BK263.out 0).trans rfl, (blk_cell BK263.out 1).trans rfl, (blk_cell BK263.out 2).trans rfl, (blk_cell BK263.out 3).trans rfl, (blk_cell BK263.out 4).trans rfl, (blk_cell BK263.out 5).trans rfl, (blk_cell BK263.out 6).trans rfl, ((HB.out.cell (World.block_lt_of_cell? w _ hw313_0)).trans hw313_0)⟩ (fun hHeld => ?_)
               clear hK K
               refine norm_ (a' := ?_) ?_ ?_
               rotate_left
               ·show Act.put _ (some 112) _ = _
                simp only [Act.put, List.setIfInBounds_toArray, List.set_cons_zero, List.set_cons_succ, i64_w, i32_w]
                rfl
               refine one_ (i := 14) (N := some 113) #[true, true, true, true, true, true, true, true, true, true, true, true, true, true, true, false, false, false, false, false, false, false, false, false, false, false, false, false, false, false, false] rfl rfl (one_of HT_.out (by kernel_rfl)) (by decide) (fun K hK => ?_)
               refine goes_ Try.func16 (by kernel_rfl) rfl #[.slice Ao114 t305.length co114, .slice Ao115 t308.length co115] (by rfl) rfl rfl (by (try simp only [List.map_toArray, List.map_cons, List.map_nil]); first | done | rfl | (simp only [List.length_drop, List.length_take]; rfl)) ?_
               with_reducible refine (lodgerref03_Ints.calls kj19 _ _ t305 _ _ t308 true _ ?side1 ?side2 ?side3 ?side4 A91.out).mono ?_
               (case side1 => repeat (first | exact (Kd.R_reads' HO307.out).2.2 | (with_reducible refine Kd.C_alloc ?_ _) | (with_reducible refine Kd.C_drewN ?_ _) | (with_reducible refine Kd.C_drew ?_)))
               (case side2 => exact (Kd.R_reads' HO307.out).2.1)
               (case side3 => repeat (first | exact (Kd.V_reads' HO310.out).2.2 | (with_reducible refine Kd.C_alloc ?_ _) | (with_reducible refine Kd.C_drewN ?_ _) | (with_reducible refine Kd.C_drew ?_)))
               (case side4 => exact (Kd.V_reads' HO310.out).2.1)
               rintro e w' ⟨rfl, ⟨nd, rfl⟩⟩
               refine ⟨_, rfl, ?_⟩
               refine hK.out _ _ ⟨(blk_cell BK263.out 0).trans rfl, (blk_cell BK263.out 1).trans rfl, (blk_cell BK263.out 2).trans rfl, (blk_cell BK263.out 3).trans rfl, (blk_cell BK263.out 4).trans rfl, (blk_cell BK263.out 5).trans rfl, (blk_cell BK263.out 6).trans rfl, ((HB.out.cell (World.block_lt_of_cell? w _ hw313_0)).trans hw313_0)⟩ (fun hHeld => ?_)
               clear hK K
               refine norm_ (a' := ?_) ?_ ?_
               rotate_left
               ·show Act.put _ (some 113) _ = _
                simp only [Act.put, List.setIfInBounds_toArray, List.set_cons_zero, List.set_cons_succ, i64_w, i32_w]
                rfl
               refine pu_ (i := 15) (N := some 114) (tf 31 65535) HT_ ?_
               refine pu_ (i := 16) (N := some 115) (tf 31 131071) HT_ ?_
               refine pu_ (i := 17) (N := some 116) (tf 31 262143) HT_ ?_
               refine pu_ (i := 18) (N := some 117) (tf 31 524287) HT_ ?_
               refine pu_ (i := 20) (N := some 119) (tf 31 1572863) HT_ ?_
               refine pu_ (i := 21) (N := some 120) (tf 31 3670015) HT_ ?_
               refine pu_ (i := 22) (N := some 121) (tf 31 7864319) HT_ ?_
               refine pu_ (i := 23) (N := some 122) (tf 31 16252927) HT_ ?_
               refine pu_ (i := 25) (N := some 124) (tf 31 49807359) HT_ ?_
               refine pu_ (i := 26) (N := some 125) (tf 31 116916223) HT_ ?_
               refine tk_ (i := 24) (N := some 123) (tf 31 133693439) rfl rfl HT_ HW_ hHeld (by rintro w' ⟨s0, s1, s2, s3, s4, s5, s6, s7⟩; go_simp; with_reducible rfl) ?_
               refine one_ (i := 19) (N := some 118) #[true, true, true, true, true, true, true, true, true, true, true, true, true, true, true, true, true, true, true, true, true, true, true, true, true, true, true, false, false, false, false] rfl rfl (one_of HT_.out (by kernel_rfl)) (by decide) (fun K hK => ?_)
               refine goes_ Try.func14 (by kernel_rfl) rfl #[.slice Ao102 t268.length co102, .int .i64 (Int.tmod (wrap64 (a2)) t267)] (by rfl) rfl rfl (by (try simp only [List.map_toArray, List.map_cons, List.map_nil]); first | done | rfl | (simp only [List.length_drop, List.length_take]; rfl)) ?_
               with_reducible refine (model_Has.calls kj19 _ _ t268 (Int.tmod (wrap64 (a2)) t267) t312 _ ?side1 ?side2 A93.out).mono ?_
               (case side1 => repeat (first | exact (Kd.R_reads' HO_11.out).2.2 | (with_reducible refine Kd.C_alloc ?_ _) | (with_reducible refine Kd.C_drewN ?_ _) | (with_reducible refine Kd.C_drew ?_)))
               (case side2 => exact (Kd.R_reads' HO_11.out).2.1)
               rintro e w' ⟨rfl, ⟨nd, rfl⟩⟩
               refine ⟨_, rfl, ?_⟩
               refine hK.out _ _ ⟨(blk_cell BK263.out 0).trans rfl, (blk_cell BK263.out 1).trans rfl, (blk_cell BK263.out 2).trans rfl, (blk_cell BK263.out 3).trans rfl, (blk_cell BK263.out 4).trans rfl, (blk_cell BK263.out 5).trans rfl, (blk_cell BK263.out 6).trans rfl, ((HB.out.cell (World.block_lt_of_cell? w _ hw313_0)).trans hw313_0)⟩ (fun hHeld => ?_)
               clear hK K
               refine norm_ (a' := ?_) ?_ ?_
               rotate_left
               ·show Act.put _ (some 118) _ = _
                simp only [Act.put, List.setIfInBounds_toArray, List.set_cons_zero, List.set_cons_succ, i64_w, i32_w]
                rfl
               refine one_ (i := 27) (N := some 126) #[true, true, true, true, true, true, true, true, true, true, true, true, true, true, true, true, true, true, true, true, true, true, true, true, true, true, true, true, false, false, false] rfl rfl (one_of HT_.out (by kernel_rfl)) (by decide) (fun K hK => ?_)
               refine goes_ Try.func34 (by kernel_rfl) rfl #[.int .u64 (rd l1 (ji35)), .int .i64 (Int.tmod (Int.tmod (wrap64 (a2)) t267) 32)] (by rfl) rfl rfl (by (try simp only [List.map_toArray, List.map_cons, List.map_nil]); first | done | (simp only [hji35]; rfl) | rfl | (simp only [List.length_drop, List.length_take]; rfl)) ?_
               with_reducible refine (lodgerref01_Has.calls kj19 (rd l1 (ji35)) (Int.tmod (Int.tmod (wrap64 (a2)) t267) 32) t314 _ A94.out).mono ?_
               rintro e w' ⟨rfl, ⟨nd, rfl⟩⟩
               refine ⟨_, rfl, ?_⟩
               refine hK.out _ _ ⟨(blk_cell BK263.out 0).trans rfl, (blk_cell BK263.out 1).trans rfl, (blk_cell BK263.out 2).trans rfl, (blk_cell BK263.out 3).trans rfl, (blk_cell BK263.out 4).trans rfl, (blk_cell BK263.out 5).trans rfl, (blk_cell BK263.out 6).trans rfl, ((HB.out.cell (World.block_lt_of_cell? w _ hw313_0)).trans hw313_0)⟩ (fun hHeld => ?_)
               clear hK K
               refine norm_ (a' := ?_) ?_ ?_
               rotate_left
               ·show Act.put _ (some 126) _ = _
                simp only [Act.put, List.setIfInBounds_toArray, List.set_cons_zero, List.set_cons_succ, i64_w, i32_w]
                rfl
               refine pu_ (i := 28) (N := some 127) (tf 31 536870911) HT_ ?_
               refine pu_ (i := 29) (N := some 128) (tf 31 1073741823) HT_ ?_
               refine pu_ (i := 30) (N := some 8) (tf 31 2147483647) HT_ ?_
               refine done_ (done_of HT_.out (by kernel_rfl)) ?_
               try go_wp2
               go_ret
               exact ⟨by first | rfl | (simp [errW_none, errW_some] <;> rfl) | (simp only [← hji35]; first | rfl | (simp [errW_none, errW_some] <;> rfl)) | (simp [*, errW_none, errW_some] <;> rfl), by repeat (first | (with_reducible first | exact HB.out | apply below_alloc | apply pw_below_drewN | apply below_drew1 | refine below_set ?_ GE263.out) | exact HB.out)⟩
             ·replace c92 := Bool.eq_false_iff.mpr c92
              subst c92
              have H1 : (some false) = some r := by rw [if_neg (show ¬ (false = true) by decide)] at H; exact H
              rw [hr_.out] at H1
              exact absurd (Option.some.inj H1) (by decide)
            ·replace c88 := Bool.eq_false_iff.mpr c88
             subst c88
             have H1 : (some false) = some r := by rw [if_neg (show ¬ (false = true) by decide)] at H; exact H
             rw [hr_.out] at H1
             exact absurd (Option.some.inj H1) (by decide)
          ·replace c45 := Bool.eq_false_iff.mpr c45
           subst c45
           have H1 : (some false) = some r := by rw [if_neg (show ¬ (false = true) by decide)] at H; exact H
           rw [hr_.out] at H1
           exact absurd (Option.some.inj H1) (by decide)
         ·rw [if_neg c37] at H
          exact absurd H (by simp)
        ·rw [if_neg c36] at H
         exact absurd H (by simp)

/-- THE ONE PURE STATEMENT of lodgerlaw09_ModelCells: yours. -/
def lodgerlaw09_ModelCells.Pure : Prop := ∀ (a0_0 : Int) (a0_1 : Int) (l0_2 : List Int) (a0_3 : Int) (a0_4 : Int) (a0_5 : Int) (a0_6 : Int) (l1 : List Int) (a2 : Int) (a3 : Int), (Lit.int .u32 a0_0).wf = true → (Lit.int .i64 a0_1).wf = true → l0_2.length ≤ maxLen → (∀ x ∈ l0_2, (Lit.int .i64 x).wf = true) → (Lit.int .i64 a0_3).wf = true → (Lit.int .i64 a0_4).wf = true → (Lit.int .i64 a0_5).wf = true → (Lit.int .i64 a0_6).wf = true → l1.length ≤ maxLen → l1.length * 8 ≤ 140737488351232 → (∀ x ∈ l1, (Lit.int .u64 x).wf = true) → (Lit.int .u16 a2).wf = true → (Lit.int .u64 a3).wf = true → ∃ k, lodgerlaw09_ModelCells.f k a0_0 a0_1 l0_2 a0_3 a0_4 a0_5 a0_6 l1 a2 a3 = some true
theorem lodgerlaw09_ModelCells.walk (P : lodgerlaw09_ModelCells.Pure) (a0_0 : Int) (a0_1 : Int) (a0_2 : Option Addr) (len0_2 cap0_2 : Nat) (z0_2 : List Int) (a0_3 : Int) (a0_4 : Int) (a0_5 : Int) (a0_6 : Int) (a1 : Option Addr) (len1 cap1 : Nat) (z1 : List Int) (a2 : Int) (a3 : Int) (w : World) (w0_0 : (Lit.int .u32 a0_0).wf = true) (w0_1 : (Lit.int .i64 a0_1).wf = true) (w0_2 : (a0_2 = none ∧ len0_2 = 0 ∧ cap0_2 = 0 ∧ z0_2 = []) ∨ ∃ x, a0_2 = some x ∧ len0_2 ≤ cap0_2 ∧ cap0_2 ≤ maxLen ∧ z0_2.length = cap0_2 ∧ (∀ i, i < z0_2.length → w.cell? (x.add i) = some (.int .i64 (z0_2.getD i 0))) ∧ ∀ n ∈ z0_2, (Lit.int .i64 n).wf = true) (w0_3 : (Lit.int .i64 a0_3).wf = true) (w0_4 : (Lit.int .i64 a0_4).wf = true) (w0_5 : (Lit.int .i64 a0_5).wf = true) (w0_6 : (Lit.int .i64 a0_6).wf = true) (w1 : (a1 = none ∧ len1 = 0 ∧ cap1 = 0 ∧ z1 = []) ∨ ∃ x, a1 = some x ∧ len1 ≤ cap1 ∧ cap1 ≤ maxLen ∧ z1.length = cap1 ∧ (∀ i, i < z1.length → w.cell? (x.add i) = some (.int .u64 (z1.getD i 0))) ∧ ∀ n ∈ z1, (Lit.int .u64 n).wf = true) (y1 : len1 * 8 ≤ 140737488351232) (w2 : (Lit.int .u16 a2).wf = true) (w3 : (Lit.int .u64 a3).wf = true) :
  Calls Try.prog 8 #[.agg #[.int .u32 a0_0, .int .i64 a0_1, .slice a0_2 len0_2 cap0_2, .int .i64 a0_3, .int .i64 a0_4, .int .i64 a0_5, .int .i64 a0_6], .slice a1 len1 cap1, .int .u16 a2, .int .u64 a3] w fun e w' => e = .returned (.bool true) ∧ Below w.heap.size w w' := by
 obtain ⟨l0_2, rfl, hr0_2, hm0_2, hw0_2, hc0_2⟩ := ReadsInt.ofRowC w0_2
 obtain ⟨l1, rfl, hr1, hm1, hw1, hc1⟩ := ReadsInt.ofRowC w1
 obtain ⟨k, h⟩ := P a0_0 a0_1 l0_2 a0_3 a0_4 a0_5 a0_6 l1 a2 a3 w0_0 w0_1 hm0_2 hw0_2 w0_3 w0_4 w0_5 w0_6 hm1 y1 hw1 w2 w3
 refine (lodgerlaw09_ModelCells.calls k a0_0 a0_1 _ _ l0_2 a0_3 a0_4 a0_5 a0_6 _ _ l1 a2 a3 true w (Kd.C_of_reads (d := (0 : Int)) (h1 := fun _ => rfl) hr0_2) hc0_2 (Kd.C_of_reads (d := (0 : Int)) (h1 := fun _ => rfl) hr1) hc1 rfl h).mono ?_
 rintro e w' ⟨rfl, hd⟩
 exact ⟨rfl, hd⟩

end Go.Proofs.Ythfcgjmffjmplaa.PModelCells
