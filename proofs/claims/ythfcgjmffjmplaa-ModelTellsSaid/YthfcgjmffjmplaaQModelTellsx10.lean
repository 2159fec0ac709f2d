/- The walk of ModelTells, part of it: what the Go functions answer; no condition. -/
import Derived.Test.YthfcgjmffjmplaaQModelTellsx0
import Derived.Test.YthfcgjmffjmplaaQModelTellsx2
import Derived.Test.YthfcgjmffjmplaaQModelTellsx3
import Derived.Test.YthfcgjmffjmplaaQModelTellsx4
import Derived.Test.YthfcgjmffjmplaaQModelTellsx5
import Derived.Test.YthfcgjmffjmplaaQModelTellsx8
import Derived.Test.YthfcgjmffjmplaaQModelTellsx9
namespace Go.Proofs.Ythfcgjmffjmplaa.PModelTells
open Go.RowKit Go.Proofs.YthfcgjmffjmplaaW.PrintWords Go.Proofs.YthfcgjmffjmplaaW.PrintLast Go.Proofs.YthfcgjmffjmplaaW.PrintMore
attribute [local go_sem] max2_int min2_int max_two min_two max_three min_three max_four min_four   -- for this text's walks alone
set_option linter.unusedVariables false
set_option linter.unusedSimpArgs false

/-! ### lodgerlaw09_ModelTells: function 4 -/
mutual
def lodgerlaw09_ModelTells.j0 : Nat → List Int → List Int → Bool → Int → Int → List Int → Int → Int → Int → Int → Option (Bool)
 | 0, _, _, _, _, _, _, _, _, _, _ => none
 | k + 1, x1, x2, x19, x283000, x283001, x283002, x283003, x283004, x283005, x283006 => if x19 = true then ((lodgerlaw09_awake.f k).bind fun t285 => (some t285)) else ((model_Of.f k x283000 x283001 x283002 x283003 x283004 x283005 x283006 x1).bind fun t286 => ((lodgerref09_Of.f k x283000 x283001 x283002 x283003 x283004 x283005 x283006 x1).bind fun t289 => ((lodgerref03_Ints.f k t286 t289).bind fun t292 => (if t292 = true then ((lodgerref09_May.f k x283000 x283001 x283002 x283003 x283004 x283005 x283006 x2).bind fun t293 => (if t293 = true then ((lodgerref05_Many.f k x283000 x283001).bind fun t294 => (lodgerlaw09_ModelTells.j1 k x2 (decide (t294 > 1024)) x283000 x283001 x283002 x283003 x283004 x283005 x283006)) else (lodgerlaw09_ModelTells.j1 k x2 true x283000 x283001 x283002 x283003 x283004 x283005 x283006))) else (some false)))))
def lodgerlaw09_ModelTells.j1 : Nat → List Int → Bool → Int → Int → List Int → Int → Int → Int → Int → Option (Bool)
 | 0, _, _, _, _, _, _, _, _, _ => none
 | k + 1, x2, x38, x283000, x283001, x283002, x283003, x283004, x283005, x283006 => if x38 = true then (some true) else ((model_Full.f x283000 x283001 x283002 x283003 x283004 x283005 x283006 x2).bind fun t295 => ((lodgerref09_Full.f k x283000 x283001 x283002 x283003 x283004 x283005 x283006 x2).bind fun t296 => (if (t295 == t296) = true then ((model_Addrs.f k x283000 x283001 x283002 x283003 x283004 x283005 x283006 x2).bind fun t297 => ((lodgerref09_Addrs.f k x283000 x283001 x283002 x283003 x283004 x283005 x283006 x2).bind fun t300 => ((lodgerref08_Addrs.f k t297 t300).bind fun t303 => (some t303)))) else (some false))))
end
def lodgerlaw09_ModelTells.f (k : Nat) (a0_0 : Int) (a0_1 : Int) (l0_2 : List Int) (a0_3 : Int) (a0_4 : Int) (a0_5 : Int) (a0_6 : Int) (l1 : List Int) (l2 : List Int) : Option (Bool) := (lodgerlaw09_awake.f k).bind fun t283 => (if t283 = true then ((lodgerref08_Fits.f k a0_0 a0_1 l0_2 a0_3 a0_4 a0_5 a0_6 l1).bind fun t284 => (if t284 = true then (lodgerlaw09_ModelTells.j0 k l1 l2 (decide ((l2.length : Int) > 300)) a0_0 a0_1 l0_2 a0_3 a0_4 a0_5 a0_6) else (lodgerlaw09_ModelTells.j0 k l1 l2 true a0_0 a0_1 l0_2 a0_3 a0_4 a0_5 a0_6))) else (lodgerlaw09_ModelTells.j0 k l1 l2 true a0_0 a0_1 l0_2 a0_3 a0_4 a0_5 a0_6))
theorem lodgerlaw09_ModelTells.mono_l : ∀ k, (∀ y0 y1 y2 y3 y4 y5 y6 y7 y8 y9, LeO (lodgerlaw09_ModelTells.j0 k y0 y1 y2 y3 y4 y5 y6 y7 y8 y9) (lodgerlaw09_ModelTells.j0 (k + 1) y0 y1 y2 y3 y4 y5 y6 y7 y8 y9)) ∧ (∀ y0 y1 y2 y3 y4 y5 y6 y7 y8, LeO (lodgerlaw09_ModelTells.j1 k y0 y1 y2 y3 y4 y5 y6 y7 y8) (lodgerlaw09_ModelTells.j1 (k + 1) y0 y1 y2 y3 y4 y5 y6 y7 y8))
 | 0 => ⟨fun _ _ _ _ _ _ _ _ _ _ r h => by simp [lodgerlaw09_ModelTells.j0] at h, fun _ _ _ _ _ _ _ _ _ r h => by simp [lodgerlaw09_ModelTells.j1] at h⟩
 | k + 1 => by
  obtain ⟨ih0, ih1⟩ := lodgerlaw09_ModelTells.mono_l k
  refine ⟨?_, ?_⟩
  ·intro y0 y1 y2 y3 y4 y5 y6 y7 y8 y9
   unfold lodgerlaw09_ModelTells.j0
   repeat' first
   | (with_reducible exact ih0 _ _ _ _ _ _ _ _ _ _)
   | (with_reducible exact ih1 _ _ _ _ _ _ _ _ _)
   | (with_reducible exact lodgerlaw09_awake.mono _)
   | (with_reducible exact lodgerref03_Ints.mono _ _ _)
   | (with_reducible exact lodgerref05_Many.mono _ _ _)
   | (with_reducible exact lodgerref08_Addrs.mono _ _ _)
   | (with_reducible exact lodgerref08_Fits.mono _ _ _ _ _ _ _ _ _)
   | (with_reducible exact lodgerref09_Addrs.mono _ _ _ _ _ _ _ _ _)
   | (with_reducible exact lodgerref09_Full.mono _ _ _ _ _ _ _ _ _)
   | (with_reducible exact lodgerref09_May.mono _ _ _ _ _ _ _ _ _)
   | (with_reducible exact lodgerref09_Of.mono _ _ _ _ _ _ _ _ _)
   | (with_reducible exact model_Addrs.mono _ _ _ _ _ _ _ _ _)
   | (with_reducible exact model_Of.mono _ _ _ _ _ _ _ _ _)
   | (with_reducible exact LeO.refl _)
   | (with_reducible exact LeO.none _)
   | (with_reducible refine LeO.ite ?_ ?_)
   | (with_reducible refine LeO.bind ?_ (fun _ => ?_))
   | exact ih0 _ _ _ _ _ _ _ _ _ _
   | exact ih1 _ _ _ _ _ _ _ _ _
   | exact lodgerlaw09_awake.mono _
   | exact lodgerref03_Ints.mono _ _ _
   | exact lodgerref05_Many.mono _ _ _
   | exact lodgerref08_Addrs.mono _ _ _
   | exact lodgerref08_Fits.mono _ _ _ _ _ _ _ _ _
   | exact lodgerref09_Addrs.mono _ _ _ _ _ _ _ _ _
   | exact lodgerref09_Full.mono _ _ _ _ _ _ _ _ _
   | exact lodgerref09_May.mono _ _ _ _ _ _ _ _ _
   | exact lodgerref09_Of.mono _ _ _ _ _ _ _ _ _
   | exact model_Addrs.mono _ _ _ _ _ _ _ _ _
   | exact model_Of.mono _ _ _ _ _ _ _ _ _
   | exact LeO.none _
   | refine LeO.ite ?_ ?_
   | refine LeO.bind ?_ (fun _ => ?_)
  ·intro y0 y1 y2 y3 y4 y5 y6 y7 y8
   unfold lodgerlaw09_ModelTells.j1
   repeat' first
   | (with_reducible exact ih0 _ _ _ _ _ _ _ _ _ _)
   | (with_reducible exact ih1 _ _ _ _ _ _ _ _ _)
   | (with_reducible exact lodgerlaw09_awake.mono _)
   | (with_reducible exact lodgerref03_Ints.mono _ _ _)
   | (with_reducible exact lodgerref05_Many.mono _ _ _)
   | (with_reducible exact lodgerref08_Addrs.mono _ _ _)
   | (with_reducible exact lodgerref08_Fits.mono _ _ _ _ _ _ _ _ _)
   | (with_reducible exact lodgerref09_Addrs.mono _ _ _ _ _ _ _ _ _)
   | (with_reducible exact lodgerref09_Full.mono _ _ _ _ _ _ _ _ _)
   | (with_reducible exact lodgerref09_May.mono _ _ _ _ _ _ _ _ _)
   | (with_reducible exact lodgerref09_Of.mono _ _ _ _ _ _ _ _ _)
   | (with_reducible exact model_Addrs.mono _ _ _ _ _ _ _ _ _)
   | (with_reducible exact model_Of.mono _ _ _ _ _ _ _ _ _)
   | (with_reducible exact LeO.refl _)
   | (with_reducible exact LeO.none _)
   | (with_reducible refine LeO.ite ?_ ?_)
   | (with_reducible refine LeO.bind ?_ (fun _ => ?_))
   | exact ih0 _ _ _ _ _ _ _ _ _ _
   | exact ih1 _ _ _ _ _ _ _ _ _
   | exact lodgerlaw09_awake.mono _
   | exact lodgerref03_Ints.mono _ _ _
   | exact lodgerref05_Many.mono _ _ _
   | exact lodgerref08_Addrs.mono _ _ _
   | exact lodgerref08_Fits.mono _ _ _ _ _ _ _ _ _
   | exact lodgerref09_Addrs.mono _ _ _ _ _ _ _ _ _
   | exact lodgerref09_Full.mono _ _ _ _ _ _ _ _ _
   | exact lodgerref09_May.mono _ _ _ _ _ _ _ _ _
   | exact lodgerref09_Of.mono _ _ _ _ _ _ _ _ _
   | exact model_Addrs.mono _ _ _ _ _ _ _ _ _
   | exact model_Of.mono _ _ _ _ _ _ _ _ _
   | exact LeO.none _
   | refine LeO.ite ?_ ?_
   | refine LeO.bind ?_ (fun _ => ?_)
theorem lodgerlaw09_ModelTells.mono : ∀ a0 a1 a2 a3 a4 a5 a6 a7 a8 k, LeO (lodgerlaw09_ModelTells.f k a0 a1 a2 a3 a4 a5 a6 a7 a8) (lodgerlaw09_ModelTells.f (k + 1) a0 a1 a2 a3 a4 a5 a6 a7 a8) := by
 intro a0 a1 a2 a3 a4 a5 a6 a7 a8 k
 obtain ⟨ih0, ih1⟩ := lodgerlaw09_ModelTells.mono_l k
 unfold lodgerlaw09_ModelTells.f
 repeat' first
   | (with_reducible exact ih0 _ _ _ _ _ _ _ _ _ _)
   | (with_reducible exact ih1 _ _ _ _ _ _ _ _ _)
   | (with_reducible exact lodgerlaw09_awake.mono _)
   | (with_reducible exact lodgerref03_Ints.mono _ _ _)
   | (with_reducible exact lodgerref05_Many.mono _ _ _)
   | (with_reducible exact lodgerref08_Addrs.mono _ _ _)
   | (with_reducible exact lodgerref08_Fits.mono _ _ _ _ _ _ _ _ _)
   | (with_reducible exact lodgerref09_Addrs.mono _ _ _ _ _ _ _ _ _)
   | (with_reducible exact lodgerref09_Full.mono _ _ _ _ _ _ _ _ _)
   | (with_reducible exact lodgerref09_May.mono _ _ _ _ _ _ _ _ _)
   | (with_reducible exact lodgerref09_Of.mono _ _ _ _ _ _ _ _ _)
   | (with_reducible exact model_Addrs.mono _ _ _ _ _ _ _ _ _)
   | (with_reducible exact model_Of.mono _ _ _ _ _ _ _ _ _)
   | (with_reducible exact LeO.refl _)
   | (with_reducible exact LeO.none _)
   | (with_reducible refine LeO.ite ?_ ?_)
   | (with_reducible refine LeO.bind ?_ (fun _ => ?_))
   | exact ih0 _ _ _ _ _ _ _ _ _ _
   | exact ih1 _ _ _ _ _ _ _ _ _
   | exact lodgerlaw09_awake.mono _
   | exact lodgerref03_Ints.mono _ _ _
   | exact lodgerref05_Many.mono _ _ _
   | exact lodgerref08_Addrs.mono _ _ _
   | exact lodgerref08_Fits.mono _ _ _ _ _ _ _ _ _
   | exact lodgerref09_Addrs.mono _ _ _ _ _ _ _ _ _
   | exact lodgerref09_Full.mono _ _ _ _ _ _ _ _ _
   | exact lodgerref09_May.mono _ _ _ _ _ _ _ _ _
   | exact lodgerref09_Of.mono _ _ _ _ _ _ _ _ _
   | exact model_Addrs.mono _ _ _ _ _ _ _ _ _
   | exact model_Of.mono _ _ _ _ _ _ _ _ _
   | exact LeO.none _
   | refine LeO.ite ?_ ?_
   | refine LeO.bind ?_ (fun _ => ?_)
def lodgerlaw09_ModelTells.T3 : Bool × List (List Nat × List Nat) := (true, [([], []), ([], []), ([0, 1], [0, 1]), ([], []), ([], []), ([3, 4, 2], [3, 4]), ([2, 5, 5], [2, 5]), ([6], [6])])
def lodgerlaw09_ModelTells.B3 : List Nat := [0, 0, 3, 0, 0, 31, 63, 127]
theorem lodgerlaw09_ModelTells.tab3 : rtab .any (opsOf Try.f4 3) = lodgerlaw09_ModelTells.T3 := by kernel_rfl
theorem lodgerlaw09_ModelTells.bits3 : waitsOk lodgerlaw09_ModelTells.T3.2 lodgerlaw09_ModelTells.B3 = true := by kernel_rfl
def lodgerlaw09_ModelTells.T7 : Bool × List (List Nat × List Nat) := (true, [([], []), ([], []), ([0, 1], [0, 1]), ([], []), ([], []), ([3, 4, 2], [3, 4]), ([2, 5], [2, 5]), ([6, 5], [6]), ([7], [7]), ([7], [7]), ([8, 9, 7, 7], [7, 8, 9]), ([7], [7]), ([7], [7]), ([11, 12, 10, 7], [7, 11, 12]), ([10, 13, 13, 7], [7, 10, 13]), ([7, 14], [7, 14]), ([15, 14, 0, 1, 2, 3, 4, 5, 6, 7, 8, 9, 10, 11, 12, 13, 14, 15], [15])])
def lodgerlaw09_ModelTells.B7 : List Nat := [0, 0, 3, 0, 0, 31, 63, 127, 255, 255, 1023, 255, 255, 8191, 16383, 32767, 65535]
theorem lodgerlaw09_ModelTells.tab7 : rtab .any (opsOf Try.f4 7) = lodgerlaw09_ModelTells.T7 := by kernel_rfl
theorem lodgerlaw09_ModelTells.bits7 : waitsOk lodgerlaw09_ModelTells.T7.2 lodgerlaw09_ModelTells.B7 = true := by kernel_rfl
set_option maxHeartbeats 8000000 in
set_option maxRecDepth 100000 in
theorem lodgerlaw09_ModelTells.calls (k : Nat) (a0_0 : Int) (a0_1 : Int) (A0_2 : Option Addr) (c0_2 : Nat) (l0_2 : List Int) (a0_3 : Int) (a0_4 : Int) (a0_5 : Int) (a0_6 : Int) (A1 : Option Addr) (c1 : Nat) (l1 : List Int) (A2 : Option Addr) (c2 : Nat) (l2 : List Int) (r : Bool) (w : World) (hr0_2 : Kd.C (Kd.int .i64) w A0_2 l0_2.length l0_2) (hc0_2 : l0_2.length ≤ c0_2) (hr1 : Kd.C (Kd.int .u64) w A1 l1.length l1) (hc1 : l1.length ≤ c1) (hr2 : Kd.C (Kd.int .i64) w A2 l2.length l2) (hc2 : l2.length ≤ c2) (hr_ : r = true) (h : lodgerlaw09_ModelTells.f k a0_0 a0_1 l0_2 a0_3 a0_4 a0_5 a0_6 l1 l2 = some r) :
  Calls Try.prog 4 #[.agg #[.int .u32 a0_0, .int .i64 a0_1, .slice A0_2 l0_2.length c0_2, .int .i64 a0_3, .int .i64 a0_4, .int .i64 a0_5, .int .i64 a0_6], .slice A1 l1.length c1, .slice A2 l2.length c2] w fun e w' => e = .returned (.bool r) ∧ Below w.heap.size w w' := by
 have hu27 := Try.underlying27
 have hu24 := Try.underlying24
 have HR0_2 := Aside0.mk hr0_2
 have HC0_2 := Aside0.mk hc0_2
 clear hr0_2 hc0_2
 have HR1 := Aside0.mk hr1
 have HC1 := Aside0.mk hc1
 clear hr1 hc1
 have HR2 := Aside0.mk hr2
 have HC2 := Aside0.mk hc2
 clear hr2 hc2
 have HB := Aside0.mk (Below.refl w.heap.size w)
 replace hr_ := Aside0.mk hr_
 have H : ((lodgerlaw09_awake.f k).bind fun t283 => (if t283 = true then ((lodgerref08_Fits.f k a0_0 a0_1 l0_2 a0_3 a0_4 a0_5 a0_6 l1).bind fun t284 => (if t284 = true then (lodgerlaw09_ModelTells.j0 k l1 l2 (decide ((l2.length : Int) > 300)) a0_0 a0_1 l0_2 a0_3 a0_4 a0_5 a0_6) else (lodgerlaw09_ModelTells.j0 k l1 l2 true a0_0 a0_1 l0_2 a0_3 a0_4 a0_5 a0_6))) else (lodgerlaw09_ModelTells.j0 k l1 l2 true a0_0 a0_1 l0_2 a0_3 a0_4 a0_5 a0_6))) = some r := h
 clear h
 have HC4 := Aside0.mk H
 clear H
 go_enter Try.func4, Try.ntmps4
 go_upto_region 1 with (first | ((with_reducible refine gate_dst (N := 3) rfl ?_); (try (refine gate_guard (by rfl) ?_; dsimp only)); refine box_event ?hg (N := 3) ?hd (cs := #[.int .u32 a0_0, .int .i64 a0_1, .slice A0_2 l0_2.length c0_2, .int .i64 a0_3, .int .i64 a0_4, .int .i64 a0_5, .int .i64 a0_6]) (t := 27) ?hr ?_; (case hd => rfl); (case hg => rfl); (case hr => first | (go_simp; done) | (go_simp; rfl)); intro gb282 hg w5 hbox hb; have n0_ := Aside0.mk (below_step (by repeat (first | (with_reducible first | exact HB.out | apply below_alloc | apply pw_below_drewN | apply below_drew1) | exact HB.out)) hb); have n1_ := Aside0.mk (hbox); have n2_ := Aside0.mk ((by rw [hg]; exact (below_size (by repeat (first | (with_reducible first | exact HB.out | apply below_alloc | apply pw_below_drewN | apply below_drew1) | exact HB.out))) : w.heap.size ≤ gb282)); have n3_ := Aside0.mk ((by rw [hg]; exact (below_size (by repeat (first | (with_reducible first | exact HB.out | apply below_alloc | apply pw_below_drewN | apply below_drew1) | exact HB.out))) : w.heap.size ≤ gb282)); clear HB; have HB := n0_; have BK282 := n1_; have GW282 := n2_; have GE282 := n3_; clear n0_ n1_ n2_ n3_; clear hb hbox hg))
 (try simp only [Act.put, List.setIfInBounds_toArray, List.set_cons_zero, List.set_cons_succ])
 go_cut [19] (fun v19 wc => ∃ (kq : Nat) (x19_3 : Bool), v19 = .bool x19_3 ∧ Aside0 (lodgerlaw09_ModelTells.j0 kq l1 l2 x19_3 a0_0 a0_1 l0_2 a0_3 a0_4 a0_5 a0_6 = some r) ∧ Aside0 (kq ≤ k) ∧ Aside0 (wc.heap[gb282]? = some (.cells #[.int .u32 a0_0, .int .i64 a0_1, (.slice A0_2 l0_2.length c0_2), .int .i64 a0_3, .int .i64 a0_4, .int .i64 a0_5, .int .i64 a0_6] 27 (0, 0))) ∧ Aside0 (Below w.heap.size w wc))
 case first =>
  have H := HC4.out
  clear HC4
  replace H := Option.bind_eq_some_iff.mp H
  obtain ⟨t283, A60, H⟩ := H
  replace H : (if t283 = true then ((lodgerref08_Fits.f k a0_0 a0_1 l0_2 a0_3 a0_4 a0_5 a0_6 l1).bind fun t284 => (if t284 = true then (lodgerlaw09_ModelTells.j0 k l1 l2 (decide ((l2.length : Int) > 300)) a0_0 a0_1 l0_2 a0_3 a0_4 a0_5 a0_6) else (lodgerlaw09_ModelTells.j0 k l1 l2 true a0_0 a0_1 l0_2 a0_3 a0_4 a0_5 a0_6))) else (lodgerlaw09_ModelTells.j0 k l1 l2 true a0_0 a0_1 l0_2 a0_3 a0_4 a0_5 a0_6)) = some r := H
  have A6 := Aside0.mk A60
  clear A60
  by_cases c7 : t283 = true
  ·subst c7
   have H1 : ((lodgerref08_Fits.f k a0_0 a0_1 l0_2 a0_3 a0_4 a0_5 a0_6 l1).bind fun t284 => (if t284 = true then (lodgerlaw09_ModelTells.j0 k l1 l2 (decide ((l2.length : Int) > 300)) a0_0 a0_1 l0_2 a0_3 a0_4 a0_5 a0_6) else (lodgerlaw09_ModelTells.j0 k l1 l2 true a0_0 a0_1 l0_2 a0_3 a0_4 a0_5 a0_6))) = some r := by rw [if_pos rfl] at H; exact H
   clear H
   have H := H1
   clear H1
   replace H := Option.bind_eq_some_iff.mp H
   obtain ⟨t284, A80, H⟩ := H
   replace H : (if t284 = true then (lodgerlaw09_ModelTells.j0 k l1 l2 (decide ((l2.length : Int) > 300)) a0_0 a0_1 l0_2 a0_3 a0_4 a0_5 a0_6) else (lodgerlaw09_ModelTells.j0 k l1 l2 true a0_0 a0_1 l0_2 a0_3 a0_4 a0_5 a0_6)) = some r := H
   have A8 := Aside0.mk A80
   clear A80
   by_cases c9 : t284 = true
   ·subst c9
    have H1 : (lodgerlaw09_ModelTells.j0 k l1 l2 (decide ((l2.length : Int) > 300)) a0_0 a0_1 l0_2 a0_3 a0_4 a0_5 a0_6) = some r := by rw [if_pos rfl] at H; exact H
    clear H
    have H := H1
    clear H1
    have H' := Aside0.mk H
    clear H
    go_wp2_with (first | ((with_reducible refine gate_callee (f := 9) rfl ?_); refine goesL_ (some 7) rfl rfl Try.func9 (by kernel_rfl) rfl #[] rfl (by (try simp only [List.map_toArray, List.map_cons, List.map_nil]); first | done | rfl | (simp only [List.length_drop, List.length_take]; rfl)) ?_; (with_reducible refine (lodgerlaw09_awake.calls k  true _ A6.out).mono ?_); rintro e w10 ⟨rfl, hb⟩; refine ⟨_, rfl, ?_⟩; have n0_ := Aside0.mk (blk_below (g := gb282) (o := .cells #[.int .u32 a0_0, .int .i64 a0_1, .slice A0_2 l0_2.length c0_2, .int .i64 a0_3, .int .i64 a0_4, .int .i64 a0_5, .int .i64 a0_6] 27 (0, 0)) (by (with_reducible repeat (first | refine blk_drewN ?_ _ | refine blk_drew ?_ | refine blk_alloc ?_ _)); exact BK282.out) hb); have n1_ := Aside0.mk (below_step (by repeat (first | (with_reducible first | exact HB.out | apply below_alloc | apply pw_below_drewN | apply below_drew1 | refine below_set ?_ GE282.out) | exact HB.out)) hb); clear BK282; clear HB; have BK282 := n0_; have HB := n1_; clear n0_ n1_; (try clear hb); (try clear hb2); (try clear hk); (try clear hi); have hcz11_0 : w10.cell? ⟨gb282, 0, none⟩ = some (.int .u32 a0_0) := (blk_cell BK282.out 0).trans rfl; have hcz11_1 : w10.cell? ⟨gb282, 1, none⟩ = some (.int .i64 a0_1) := (blk_cell BK282.out 1).trans rfl; have hcz11_2 : w10.cell? ⟨gb282, 2, none⟩ = some (.slice A0_2 l0_2.length c0_2) := (blk_cell BK282.out 2).trans rfl; have hcz11_3 : w10.cell? ⟨gb282, 3, none⟩ = some (.int .i64 a0_3) := (blk_cell BK282.out 3).trans rfl; have hcz11_4 : w10.cell? ⟨gb282, 4, none⟩ = some (.int .i64 a0_4) := (blk_cell BK282.out 4).trans rfl; have hcz11_5 : w10.cell? ⟨gb282, 5, none⟩ = some (.int .i64 a0_5) := (blk_cell BK282.out 5).trans rfl; have hcz11_6 : w10.cell? ⟨gb282, 6, none⟩ = some (.int .i64 a0_6) := (blk_cell BK282.out 6).trans rfl; have hfz11_0 := blk_frozen BK282.out 0; have hfz11_1 := blk_frozen BK282.out 1; have hfz11_2 := blk_frozen BK282.out 2; have hfz11_3 := blk_frozen BK282.out 3; have hfz11_4 := blk_frozen BK282.out 4; have hfz11_5 := blk_frozen BK282.out 5; have hfz11_6 := blk_frozen BK282.out 6) | (go_at_call 21; (with_reducible refine (lodgerref08_Fits.calls k a0_0 a0_1 _ _ l0_2 a0_3 a0_4 a0_5 a0_6 _ _ l1 true _ ?side1 ?side2 ?side3 ?side4 A8.out).mono ?_); (case side1 => repeat (first | exact (Kd.C_below HR0_2.out HB.out) | (with_reducible refine Kd.C_alloc ?_ _) | (with_reducible refine Kd.C_drewN ?_ _) | (with_reducible refine Kd.C_drew ?_))); (case side2 => exact HC0_2.out); (case side3 => repeat (first | exact (Kd.C_below HR1.out HB.out) | (with_reducible refine Kd.C_alloc ?_ _) | (with_reducible refine Kd.C_drewN ?_ _) | (with_reducible refine Kd.C_drew ?_))); (case side4 => exact HC1.out); rintro e w12 ⟨rfl, hb⟩; have n0_ := Aside0.mk (blk_below (g := gb282) (o := .cells #[.int .u32 a0_0, .int .i64 a0_1, .slice A0_2 l0_2.length c0_2, .int .i64 a0_3, .int .i64 a0_4, .int .i64 a0_5, .int .i64 a0_6] 27 (0, 0)) (by (with_reducible repeat (first | refine blk_drewN ?_ _ | refine blk_drew ?_ | refine blk_alloc ?_ _)); exact BK282.out) hb); have n1_ := Aside0.mk (below_step (by repeat (first | (with_reducible first | exact HB.out | apply below_alloc | apply pw_below_drewN | apply below_drew1 | refine below_set ?_ GE282.out) | exact HB.out)) hb); clear BK282; clear HB; have BK282 := n0_; have HB := n1_; clear n0_ n1_; (try clear hb); (try clear hb2); (try clear hk); (try clear hi)))
    go_meet
    case rel => exact ⟨_, (decide ((l2.length : Int) > 300)), (by first | rfl | (simp; done) | (simp [*]; done)), H', ⟨by first | omega | exact Nat.le_refl _⟩, ⟨by (with_reducible repeat (first | refine blk_drewN ?_ _ | refine blk_drew ?_ | refine blk_alloc ?_ _)); exact BK282.out⟩, ⟨by repeat (first | (with_reducible first | exact HB.out | apply below_alloc | apply pw_below_drewN | apply below_drew1 | refine below_set ?_ GE282.out) | exact HB.out)⟩⟩
   ·replace c9 := Bool.eq_false_iff.mpr c9
    subst c9
    have H1 : (lodgerlaw09_ModelTells.j0 k l1 l2 true a0_0 a0_1 l0_2 a0_3 a0_4 a0_5 a0_6) = some r := by rw [if_neg (show ¬ (false = true) by decide)] at H; exact H
    clear H
    have H := H1
    clear H1
    have H' := Aside0.mk H
    clear H
    go_wp2_with (first | ((with_reducible refine gate_callee (f := 9) rfl ?_); refine goesL_ (some 7) rfl rfl Try.func9 (by kernel_rfl) rfl #[] rfl (by (try simp only [List.map_toArray, List.map_cons, List.map_nil]); first | done | rfl | (simp only [List.length_drop, List.length_take]; rfl)) ?_; (with_reducible refine (lodgerlaw09_awake.calls k  true _ A6.out).mono ?_); rintro e w13 ⟨rfl, hb⟩; refine ⟨_, rfl, ?_⟩; have n0_ := Aside0.mk (blk_below (g := gb282) (o := .cells #[.int .u32 a0_0, .int .i64 a0_1, .slice A0_2 l0_2.length c0_2, .int .i64 a0_3, .int .i64 a0_4, .int .i64 a0_5, .int .i64 a0_6] 27 (0, 0)) (by (with_reducible repeat (first | refine blk_drewN ?_ _ | refine blk_drew ?_ | refine blk_alloc ?_ _)); exact BK282.out) hb); have n1_ := Aside0.mk (below_step (by repeat (first | (with_reducible first | exact HB.out | apply below_alloc | apply pw_below_drewN | apply below_drew1 | refine below_set ?_ GE282.out) | exact HB.out)) hb); clear BK282; clear HB; have BK282 := n0_; have HB := n1_; clear n0_ n1_; (try clear hb); (try clear hb2); (try clear hk); (try clear hi); have hcz14_0 : w13.cell? ⟨gb282, 0, none⟩ = some (.int .u32 a0_0) := (blk_cell BK282.out 0).trans rfl; have hcz14_1 : w13.cell? ⟨gb282, 1, none⟩ = some (.int .i64 a0_1) := (blk_cell BK282.out 1).trans rfl; have hcz14_2 : w13.cell? ⟨gb282, 2, none⟩ = some (.slice A0_2 l0_2.length c0_2) := (blk_cell BK282.out 2).trans rfl; have hcz14_3 : w13.cell? ⟨gb282, 3, none⟩ = some (.int .i64 a0_3) := (blk_cell BK282.out 3).trans rfl; have hcz14_4 : w13.cell? ⟨gb282, 4, none⟩ = some (.int .i64 a0_4) := (blk_cell BK282.out 4).trans rfl; have hcz14_5 : w13.cell? ⟨gb282, 5, none⟩ = some (.int .i64 a0_5) := (blk_cell BK282.out 5).trans rfl; have hcz14_6 : w13.cell? ⟨gb282, 6, none⟩ = some (.int .i64 a0_6) := (blk_cell BK282.out 6).trans rfl; have hfz14_0 := blk_frozen BK282.out 0; have hfz14_1 := blk_frozen BK282.out 1; have hfz14_2 := blk_frozen BK282.out 2; have hfz14_3 := blk_frozen BK282.out 3; have hfz14_4 := blk_frozen BK282.out 4; have hfz14_5 := blk_frozen BK282.out 5; have hfz14_6 := blk_frozen BK282.out 6) | (go_at_call 21; (with_reducible refine (lodgerref08_Fits.calls k a0_0 a0_1 _ _ l0_2 a0_3 a0_4 a0_5 a0_6 _ _ l1 false _ ?side1 ?side2 ?side3 ?side4 A8.out).mono ?_); (case side1 => repeat (first | exact (Kd.C_below HR0_2.out HB.out) | (with_reducible refine Kd.C_alloc ?_ _) | (with_reducible refine Kd.C_drewN ?_ _) | (with_reducible refine Kd.C_drew ?_))); (case side2 => exact HC0_2.out); (case side3 => repeat (first | exact (Kd.C_below HR1.out HB.out) | (with_reducible refine Kd.C_alloc ?_ _) | (with_reducible refine Kd.C_drewN ?_ _) | (with_reducible refine Kd.C_drew ?_))); (case side4 => exact HC1.out); rintro e w15 ⟨rfl, hb⟩; have n0_ := Aside0.mk (blk_below (g := gb282) (o := .cells #[.int .u32 a0_0, .int .i64 a0_1, .slice A0_2 l0_2.length c0_2, .int .i64 a0_3, .int .i64 a0_4, .int .i64 a0_5, .int .i64 a0_6] 27 (0, 0)) (by (with_reducible repeat (first | refine blk_drewN ?_ _ | refine blk_drew ?_ | refine blk_alloc ?_ _)); exact BK282.out) hb); have n1_ := Aside0.mk (below_step (by repeat (first | (with_reducible first | exact HB.out | apply below_alloc | apply pw_below_drewN | apply below_drew1 | refine below_set ?_ GE282.out) | exact HB.out)) hb); clear BK282; clear HB; have BK282 := n0_; have HB := n1_; clear n0_ n1_; (try clear hb); (try clear hb2); (try clear hk); (try clear hi)))
    go_meet
    case rel => exact ⟨_, (true), (by first | rfl | (simp; done) | (simp [*]; done)), H', ⟨by first | omega | exact Nat.le_refl _⟩, ⟨by (with_reducible repeat (first | refine blk_drewN ?_ _ | refine blk_drew ?_ | refine blk_alloc ?_ _)); exact BK282.out⟩, ⟨by repeat (first | (with_reducible first | exact HB.out | apply below_alloc | apply pw_below_drewN | apply below_drew1 | refine below_set ?_ GE282.out) | exact HB.out)⟩⟩
  ·replace c7 := Bool.eq_false_iff.mpr c7
   subst c7
   have H1 : (lodgerlaw09_ModelTells.j0 k l1 l2 true a0_0 a0_1 l0_2 a0_3 a0_4 a0_5 a0_6) = some r := by rw [if_neg (show ¬ (false = true) by decide)] at H; exact H
   clear H
   have H := H1
   clear H1
   have H' := Aside0.mk H
   clear H
   go_wp2_with (first | ((with_reducible refine gate_callee (f := 9) rfl ?_); refine goesL_ (some 7) rfl rfl Try.func9 (by kernel_rfl) rfl #[] rfl (by (try simp only [List.map_toArray, List.map_cons, List.map_nil]); first | done | rfl | (simp only [List.length_drop, List.length_take]; rfl)) ?_; (with_reducible refine (lodgerlaw09_awake.calls k  false _ A6.out).mono ?_); rintro e w16 ⟨rfl, hb⟩; refine ⟨_, rfl, ?_⟩; have n0_ := Aside0.mk (blk_below (g := gb282) (o := .cells #[.int .u32 a0_0, .int .i64 a0_1, .slice A0_2 l0_2.length c0_2, .int .i64 a0_3, .int .i64 a0_4, .int .i64 a0_5, .int .i64 a0_6] 27 (0, 0)) (by (with_reducible repeat (first | refine blk_drewN ?_ _ | refine blk_drew ?_ | refine blk_alloc ?_ _)); exact BK282.out) hb); have n1_ := Aside0.mk (below_step (by repeat (first | (with_reducible first | exact HB.out | apply below_alloc | apply pw_below_drewN | apply below_drew1 | refine below_set ?_ GE282.out) | exact HB.out)) hb); clear BK282; clear HB; have BK282 := n0_; have HB := n1_; clear n0_ n1_; (try clear hb); (try clear hb2); (try clear hk); (try clear hi)))
   go_meet
   case rel => exact ⟨_, (true), (by first | rfl | (simp; done) | (simp [*]; done)), H', ⟨by first | omega | exact Nat.le_refl _⟩, ⟨by (with_reducible repeat (first | refine blk_drewN ?_ _ | refine blk_drew ?_ | refine blk_alloc ?_ _)); exact BK282.out⟩, ⟨by repeat (first | (with_reducible first | exact HB.out | apply below_alloc | apply pw_below_drewN | apply below_drew1 | refine below_set ?_ GE282.out) | exact HB.out)⟩⟩
 case rest =>
  clear HC4
  try clear c1
  try clear c2
  try clear p2
  try clear c4
  try clear c7
  try clear c9
  try clear hcz11_0
  try clear hcz11_1
  try clear hcz11_2
  try clear hcz11_3
  try clear hcz11_4
  try clear hcz11_5
  try clear hcz11_6
  try clear hcz14_0
  try clear hcz14_1
  try clear hcz14_2
  try clear hcz14_3
  try clear hcz14_4
  try clear hcz14_5
  try clear hcz14_6
  try clear hfz11_0
  try clear hfz11_1
  try clear hfz11_2
  try clear hfz11_3
  try clear hfz11_4
  try clear hfz11_5
  try clear hfz11_6
  try clear hfz14_0
  try clear hfz14_1
  try clear hfz14_2
  try clear hfz14_3
  try clear hfz14_4
  try clear hfz14_5
  try clear hfz14_6
  obtain ⟨kq, x19_3, rfl, HA, HJ3, BK282, HB⟩ := hcut
  cases kq with
  | zero => exact absurd HA.out (by simp [lodgerlaw09_ModelTells.j0])
  | succ kj3 =>
   have H := HA.out
   clear HA
   simp only [lodgerlaw09_ModelTells.j0] at H
   by_cases c17 : x19_3 = true
   ·subst c17
    have H1 : ((lodgerlaw09_awake.f kj3).bind fun t285 => (some t285)) = some r := by rw [if_pos rfl] at H; exact H
    clear H
    have H := H1
    clear H1
    replace H := Option.bind_eq_some_iff.mp H
    obtain ⟨t285, A180, H⟩ := H
    replace H : (some t285) = some r := H
    have A18 := Aside0.mk A180
    clear A180
    first | (exfalso; rw [hr_.out] at H; exact absurd (Option.some.inj H) (by decide)) | (try clear hr_)
    all_goals
     obtain rfl := Option.some.inj H
     go_wp2_with (first | ((with_reducible refine gate_callee (f := 9) rfl ?_); refine goesL_ (some 20) rfl rfl Try.func9 (by kernel_rfl) rfl #[] rfl (by (try simp only [List.map_toArray, List.map_cons, List.map_nil]); first | done | rfl | (simp only [List.length_drop, List.length_take]; rfl)) ?_; (with_reducible refine (lodgerlaw09_awake.calls kj3  t285 _ A18.out).mono ?_); rintro e w19 ⟨rfl, hb⟩; refine ⟨_, rfl, ?_⟩; have n0_ := Aside0.mk (blk_below (g := gb282) (o := .cells #[.int .u32 a0_0, .int .i64 a0_1, .slice A0_2 l0_2.length c0_2, .int .i64 a0_3, .int .i64 a0_4, .int .i64 a0_5, .int .i64 a0_6] 27 (0, 0)) (by (with_reducible repeat (first | refine blk_drewN ?_ _ | refine blk_drew ?_ | refine blk_alloc ?_ _)); exact BK282.out) hb); have n1_ := Aside0.mk (below_step (by repeat (first | (with_reducible first | exact HB.out | apply below_alloc | apply pw_below_drewN | apply below_drew1 | refine below_set ?_ GE282.out) | exact HB.out)) hb); clear BK282; clear HB; have BK282 := n0_; have HB := n1_; clear n0_ n1_; (try clear hb); (try clear hb2); (try clear hk); (try clear hi)))
     go_ret
     exact ⟨by first | rfl | (simp [errW_none, errW_some] <;> rfl) | (simp [*, errW_none, errW_some] <;> rfl), by repeat (first | (with_reducible first | exact HB.out | apply below_alloc | apply pw_below_drewN | apply below_drew1 | refine below_set ?_ GE282.out) | exact HB.out)⟩
   ·replace c17 := Bool.eq_false_iff.mpr c17
    subst c17
    have H1 : ((model_Of.f kj3 a0_0 a0_1 l0_2 a0_3 a0_4 a0_5 a0_6 l1).bind fun t286 => ((lodgerref09_Of.f kj3 a0_0 a0_1 l0_2 a0_3 a0_4 a0_5 a0_6 l1).bind fun t289 => ((lodgerref03_Ints.f kj3 t286 t289).bind fun t292 => (if t292 = true then ((lodgerref09_May.f kj3 a0_0 a0_1 l0_2 a0_3 a0_4 a0_5 a0_6 l2).bind fun t293 => (if t293 = true then ((lodgerref05_Many.f kj3 a0_0 a0_1).bind fun t294 => (lodgerlaw09_ModelTells.j1 kj3 l2 (decide (t294 > 1024)) a0_0 a0_1 l0_2 a0_3 a0_4 a0_5 a0_6)) else (lodgerlaw09_ModelTells.j1 kj3 l2 true a0_0 a0_1 l0_2 a0_3 a0_4 a0_5 a0_6))) else (some false))))) = some r := by rw [if_neg (show ¬ (false = true) by decide)] at H; exact H
    clear H
    have H := H1
    clear H1
    replace H := Option.bind_eq_some_iff.mp H
    obtain ⟨t286, A200, H⟩ := H
    replace H : ((lodgerref09_Of.f kj3 a0_0 a0_1 l0_2 a0_3 a0_4 a0_5 a0_6 l1).bind fun t289 => ((lodgerref03_Ints.f kj3 t286 t289).bind fun t292 => (if t292 = true then ((lodgerref09_May.f kj3 a0_0 a0_1 l0_2 a0_3 a0_4 a0_5 a0_6 l2).bind fun t293 => (if t293 = true then ((lodgerref05_Many.f kj3 a0_0 a0_1).bind fun t294 => (lodgerlaw09_ModelTells.j1 kj3 l2 (decide (t294 > 1024)) a0_0 a0_1 l0_2 a0_3 a0_4 a0_5 a0_6)) else (lodgerlaw09_ModelTells.j1 kj3 l2 true a0_0 a0_1 l0_2 a0_3 a0_4 a0_5 a0_6))) else (some false)))) = some r := H
    have A20 := Aside0.mk A200
    clear A200
    replace H := Option.bind_eq_some_iff.mp H
    obtain ⟨t289, A210, H⟩ := H
    replace H : ((lodgerref03_Ints.f kj3 t286 t289).bind fun t292 => (if t292 = true then ((lodgerref09_May.f kj3 a0_0 a0_1 l0_2 a0_3 a0_4 a0_5 a0_6 l2).bind fun t293 => (if t293 = true then ((lodgerref05_Many.f kj3 a0_0 a0_1).bind fun t294 => (lodgerlaw09_ModelTells.j1 kj3 l2 (decide (t294 > 1024)) a0_0 a0_1 l0_2 a0_3 a0_4 a0_5 a0_6)) else (lodgerlaw09_ModelTells.j1 kj3 l2 true a0_0 a0_1 l0_2 a0_3 a0_4 a0_5 a0_6))) else (some false))) = some r := H
    have A21 := Aside0.mk A210
    clear A210
    replace H := Option.bind_eq_some_iff.mp H
    obtain ⟨t292, A220, H⟩ := H
    replace H : (if t292 = true then ((lodgerref09_May.f kj3 a0_0 a0_1 l0_2 a0_3 a0_4 a0_5 a0_6 l2).bind fun t293 => (if t293 = true then ((lodgerref05_Many.f kj3 a0_0 a0_1).bind fun t294 => (lodgerlaw09_ModelTells.j1 kj3 l2 (decide (t294 > 1024)) a0_0 a0_1 l0_2 a0_3 a0_4 a0_5 a0_6)) else (lodgerlaw09_ModelTells.j1 kj3 l2 true a0_0 a0_1 l0_2 a0_3 a0_4 a0_5 a0_6))) else (some false)) = some r := H
    have A22 := Aside0.mk A220
    clear A220
    by_cases c23 : t292 = true
    ·subst c23
     have H1 : ((lodgerref09_May.f kj3 a0_0 a0_1 l0_2 a0_3 a0_4 a0_5 a0_6 l2).bind fun t293 => (if t293 = true then ((lodgerref05_Many.f kj3 a0_0 a0_1).bind fun t294 => (lodgerlaw09_ModelTells.j1 kj3 l2 (decide (t294 > 1024)) a0_0 a0_1 l0_2 a0_3 a0_4 a0_5 a0_6)) else (lodgerlaw09_ModelTells.j1 kj3 l2 true a0_0 a0_1 l0_2 a0_3 a0_4 a0_5 a0_6))) = some r := by rw [if_pos rfl] at H; exact H
     clear H
     have H := H1
     clear H1
     have HC24 := Aside0.mk H
     clear H
     try go_wp2
     have n0_ := Aside0.mk (blk_drew BK282.out)
     have n1_ := Aside0.mk (below_drew1 HB.out)
     clear BK282
     clear HB
     have BK282 := n0_
     have HB := n1_
     clear n0_ n1_
     refine start_ (n := 8) (S := fun w' => w'.cell? ⟨gb282, 0, none⟩ = some (.int .u32 a0_0) ∧ w'.cell? ⟨gb282, 1, none⟩ = some (.int .i64 a0_1) ∧ w'.cell? ⟨gb282, 2, none⟩ = some (.slice A0_2 l0_2.length c0_2) ∧ w'.cell? ⟨gb282, 3, none⟩ = some (.int .i64 a0_3) ∧ w'.cell? ⟨gb282, 4, none⟩ = some (.int .i64 a0_4) ∧ w'.cell? ⟨gb282, 5, none⟩ = some (.int .i64 a0_5) ∧ w'.cell? ⟨gb282, 6, none⟩ = some (.int .i64 a0_6)) (ds := []) #[false, false, false, false, false, false, false, false] (by kernel_rfl) rfl rfl ⟨(blk_cell BK282.out 0).trans rfl, (blk_cell BK282.out 1).trans rfl, (blk_cell BK282.out 2).trans rfl, (blk_cell BK282.out 3).trans rfl, (blk_cell BK282.out 4).trans rfl, (blk_cell BK282.out 5).trans rfl, (blk_cell BK282.out 6).trans rfl⟩ (fun hHeld => ?_); refine with_tabW lodgerlaw09_ModelTells.tab3 lodgerlaw09_ModelTells.bits3 (fun HT_ HW_ => ?_)
     generalize wc.drew = w25 at BK282 HB hHeld ⊢
     refine pu_ (i := 1) (N := some 22) (tf 8 2) HT_ ?_
     refine pu_ (i := 4) (N := some 25) (tf 8 18) HT_ ?_
     refine tk_ (i := 0) (N := some 21) (tf 8 19) rfl rfl HT_ HW_ hHeld (by rintro w' ⟨s0, s1, s2, s3, s4, s5, s6⟩; go_simp; with_reducible rfl) ?_
     refine tk_ (i := 3) (N := some 24) (tf 8 27) rfl rfl HT_ HW_ hHeld (by rintro w' ⟨s0, s1, s2, s3, s4, s5, s6⟩; go_simp; with_reducible rfl) ?_
     refine one_ (i := 2) (N := some 23) #[true, true, true, true, true, false, false, false] rfl rfl (one_of HT_.out (by kernel_rfl)) (by decide) (fun K hK => ?_)
     refine goes_ Try.func22 (by kernel_rfl) rfl #[.agg #[.int .u32 a0_0, .int .i64 a0_1, .slice A0_2 l0_2.length c0_2, .int .i64 a0_3, .int .i64 a0_4, .int .i64 a0_5, .int .i64 a0_6], .slice A1 l1.length c1] (by rfl) rfl rfl (by (try simp only [List.map_toArray, List.map_cons, List.map_nil]); first | done | rfl | (simp only [List.length_drop, List.length_take]; rfl)) ?_
     with_reducible refine (model_Of.calls kj3 a0_0 a0_1 _ _ l0_2 a0_3 a0_4 a0_5 a0_6 _ _ l1 t286 _ ?side1 ?side2 ?side3 ?side4 A20.out).mono ?_
     (case side1 => repeat (first | exact (Kd.C_below HR0_2.out HB.out) | (with_reducible refine Kd.C_alloc ?_ _) | (with_reducible refine Kd.C_drewN ?_ _) | (with_reducible refine Kd.C_drew ?_)))
     (case side2 => exact HC0_2.out)
     (case side3 => repeat (first | exact (Kd.C_below HR1.out HB.out) | (with_reducible refine Kd.C_alloc ?_ _) | (with_reducible refine Kd.C_drewN ?_ _) | (with_reducible refine Kd.C_drew ?_)))
     (case side4 => exact HC1.out)
     rintro e w26 ⟨v287, rfl, ho0, hb⟩
     refine ⟨_, rfl, ?_⟩
     have n0_ := Aside0.mk (Kd.R_lower ho0 (below_size (by repeat (first | (with_reducible first | exact HB.out | apply below_alloc | apply pw_below_drewN | apply below_drew1 | refine below_set ?_ GE282.out) | exact HB.out))))
     have n1_ := Aside0.mk (blk_below (g := gb282) (o := .cells #[.int .u32 a0_0, .int .i64 a0_1, .slice A0_2 l0_2.length c0_2, .int .i64 a0_3, .int .i64 a0_4, .int .i64 a0_5, .int .i64 a0_6] 27 (0, 0)) (by (with_reducible repeat (first | refine blk_drewN ?_ _ | refine blk_drew ?_ | refine blk_alloc ?_ _)); exact BK282.out) hb)
     have n2_ := Aside0.mk (below_step (by repeat (first | (with_reducible first | exact HB.out | apply below_alloc | apply pw_below_drewN | apply below_drew1 | refine below_set ?_ GE282.out) | exact HB.out)) hb)
     clear BK282
     clear HB
     have HO288 := n0_
     have BK282 := n1_
     have HB := n2_
     clear n0_ n1_ n2_
     (try clear hb)
     (try clear hb2)
     (try clear hk)
     (try clear hi)
     (try clear ho0)
     refine hK.out _ _ ⟨(blk_cell BK282.out 0).trans rfl, (blk_cell BK282.out 1).trans rfl, (blk_cell BK282.out 2).trans rfl, (blk_cell BK282.out 3).trans rfl, (blk_cell BK282.out 4).trans rfl, (blk_cell BK282.out 5).trans rfl, (blk_cell BK282.out 6).trans rfl⟩ (fun hHeld => ?_)
     clear hK K
     refine norm_ (a' := ?_) ?_ ?_
     rotate_left
     ·show Act.put _ (some 23) _ = _
      simp only [Act.put, List.setIfInBounds_toArray, List.set_cons_zero, List.set_cons_succ, i64_w, i32_w]
      rfl
     refine one_ (i := 5) (N := some 26) #[true, true, true, true, true, true, false, false] rfl rfl (one_of HT_.out (by kernel_rfl)) (by decide) (fun K hK => ?_)
     refine goes_ Try.func23 (by kernel_rfl) rfl #[.agg #[.int .u32 a0_0, .int .i64 a0_1, .slice A0_2 l0_2.length c0_2, .int .i64 a0_3, .int .i64 a0_4, .int .i64 a0_5, .int .i64 a0_6], .slice A1 l1.length c1] (by rfl) rfl rfl (by (try simp only [List.map_toArray, List.map_cons, List.map_nil]); first | done | rfl | (simp only [List.length_drop, List.length_take]; rfl)) ?_
     with_reducible refine (lodgerref09_Of.calls kj3 a0_0 a0_1 _ _ l0_2 a0_3 a0_4 a0_5 a0_6 _ _ l1 t289 _ ?side1 ?side2 ?side3 ?side4 A21.out).mono ?_
     (case side1 => repeat (first | exact (Kd.C_below HR0_2.out HB.out) | (with_reducible refine Kd.C_alloc ?_ _) | (with_reducible refine Kd.C_drewN ?_ _) | (with_reducible refine Kd.C_drew ?_)))
     (case side2 => exact HC0_2.out)
     (case side3 => repeat (first | exact (Kd.C_below HR1.out HB.out) | (with_reducible refine Kd.C_alloc ?_ _) | (with_reducible refine Kd.C_drewN ?_ _) | (with_reducible refine Kd.C_drew ?_)))
     (case side4 => exact HC1.out)
     rintro e w27 ⟨v290, rfl, ho0, hb⟩
     refine ⟨_, rfl, ?_⟩
     have n0_ := Aside0.mk (Kd.R_elder' (by (with_reducible repeat (first | apply Kd.R_alloc | apply Kd.R_drewN | apply Kd.R_drew)); exact HO288.out) (Kd.R_base ho0) hb)
     have n1_ := Aside0.mk (Kd.R_lower (Kd.R_new' ho0 (Kd.R_lt (by (with_reducible repeat (first | apply Kd.R_alloc | apply Kd.R_drewN | apply Kd.R_drew)); exact HO288.out))) (below_size (by repeat (first | (with_reducible first | exact HB.out | apply below_alloc | apply pw_below_drewN | apply below_drew1 | refine below_set ?_ GE282.out) | exact HB.out))))
     have n2_ := Aside0.mk (blk_below (g := gb282) (o := .cells #[.int .u32 a0_0, .int .i64 a0_1, .slice A0_2 l0_2.length c0_2, .int .i64 a0_3, .int .i64 a0_4, .int .i64 a0_5, .int .i64 a0_6] 27 (0, 0)) (by (with_reducible repeat (first | refine blk_drewN ?_ _ | refine blk_drew ?_ | refine blk_alloc ?_ _)); exact BK282.out) hb)
     have n3_ := Aside0.mk (below_step (by repeat (first | (with_reducible first | exact HB.out | apply below_alloc | apply pw_below_drewN | apply below_drew1 | refine below_set ?_ GE282.out) | exact HB.out)) hb)
     clear HO288
     clear BK282
     clear HB
     have HO288 := n0_
     have HO291 := n1_
     have BK282 := n2_
     have HB := n3_
     clear n0_ n1_ n2_ n3_
     (try clear hb)
     (try clear hb2)
     (try clear hk)
     (try clear hi)
     (try clear ho0)
     obtain ⟨Ao28, co28, eo28⟩ := Kd.R_slice HO288.out
     (first | subst eo28 | (injection eo28 with f1_ f2_ f3_; have f4_ := f1_.symm; have f5_ := f3_.symm; clear f1_ f2_ f3_; subst f4_; subst f5_))
     obtain ⟨Ao29, co29, eo29⟩ := Kd.R_slice HO291.out
     (first | subst eo29 | (injection eo29 with f1_ f2_ f3_; have f4_ := f1_.symm; have f5_ := f3_.symm; clear f1_ f2_ f3_; subst f4_; subst f5_))
     refine hK.out _ _ ⟨(blk_cell BK282.out 0).trans rfl, (blk_cell BK282.out 1).trans rfl, (blk_cell BK282.out 2).trans rfl, (blk_cell BK282.out 3).trans rfl, (blk_cell BK282.out 4).trans rfl, (blk_cell BK282.out 5).trans rfl, (blk_cell BK282.out 6).trans rfl⟩ (fun hHeld => ?_)
     clear hK K
     refine norm_ (a' := ?_) ?_ ?_
     rotate_left
     ·show Act.put _ (some 26) _ = _
      simp only [Act.put, List.setIfInBounds_toArray, List.set_cons_zero, List.set_cons_succ, i64_w, i32_w]
      rfl
     refine one_ (i := 6) (N := some 27) #[true, true, true, true, true, true, true, false] rfl rfl (one_of HT_.out (by kernel_rfl)) (by decide) (fun K hK => ?_)
     refine goes_ Try.func16 (by kernel_rfl) rfl #[.slice Ao28 t286.length co28, .slice Ao29 t289.length co29] (by rfl) rfl rfl (by (try simp only [List.map_toArray, List.map_cons, List.map_nil]); first | done | rfl | (simp only [List.length_drop, List.length_take]; rfl)) ?_
     with_reducible refine (lodgerref03_Ints.calls kj3 _ _ t286 _ _ t289 true _ ?side1 ?side2 ?side3 ?side4 A22.out).mono ?_
     (case side1 => repeat (first | exact (Kd.R_reads' HO288.out).2.2 | (with_reducible refine Kd.C_alloc ?_ _) | (with_reducible refine Kd.C_drewN ?_ _) | (with_reducible refine Kd.C_drew ?_)))
     (case side2 => exact (Kd.R_reads' HO288.out).2.1)
     (case side3 => repeat (first | exact (Kd.R_reads' HO291.out).2.2 | (with_reducible refine Kd.C_alloc ?_ _) | (with_reducible refine Kd.C_drewN ?_ _) | (with_reducible refine Kd.C_drew ?_)))
     (case side4 => exact (Kd.R_reads' HO291.out).2.1)
     rintro e w' ⟨rfl, ⟨nd, rfl⟩⟩
     refine ⟨_, rfl, ?_⟩
     refine hK.out _ _ ⟨(blk_cell BK282.out 0).trans rfl, (blk_cell BK282.out 1).trans rfl, (blk_cell BK282.out 2).trans rfl, (blk_cell BK282.out 3).trans rfl, (blk_cell BK282.out 4).trans rfl, (blk_cell BK282.out 5).trans rfl, (blk_cell BK282.out 6).trans rfl⟩ (fun hHeld => ?_)
     clear hK K
     refine norm_ (a' := ?_) ?_ ?_
     rotate_left
     ·show Act.put _ (some 27) _ = _
      simp only [Act.put, List.setIfInBounds_toArray, List.set_cons_zero, List.set_cons_succ, i64_w, i32_w]
      rfl
     refine pu_ (i := 7) (N := some 28) (tf 8 255) HT_ ?_
     refine done_ (done_of HT_.out (by kernel_rfl)) ?_
     go_upto_region 5 with (fail)
     go_cut [38] (fun v38 wc => ∃ (kq : Nat) (x38_23 : Bool), v38 = .bool x38_23 ∧ Aside0 (lodgerlaw09_ModelTells.j1 kq l2 x38_23 a0_0 a0_1 l0_2 a0_3 a0_4 a0_5 a0_6 = some r) ∧ Aside0 (kq ≤ kj3) ∧ Aside0 (wc.heap[gb282]? = some (.cells #[.int .u32 a0_0, .int .i64 a0_1, (.slice A0_2 l0_2.length c0_2), .int .i64 a0_3, .int .i64 a0_4, .int .i64 a0_5, .int .i64 a0_6] 27 (0, 0))) ∧ Aside0 (Below w.heap.size w wc))
     case first =>
      have H := HC24.out
      clear HC24
      replace H := Option.bind_eq_some_iff.mp H
      obtain ⟨t293, A300, H⟩ := H
      replace H : (if t293 = true then ((lodgerref05_Many.f kj3 a0_0 a0_1).bind fun t294 => (lodgerlaw09_ModelTells.j1 kj3 l2 (decide (t294 > 1024)) a0_0 a0_1 l0_2 a0_3 a0_4 a0_5 a0_6)) else (lodgerlaw09_ModelTells.j1 kj3 l2 true a0_0 a0_1 l0_2 a0_3 a0_4 a0_5 a0_6)) = some r := H
      have A30 := Aside0.mk A300
      clear A300
      by_cases c31 : t293 = true
      ·subst c31
       have H1 : ((lodgerref05_Many.f kj3 a0_0 a0_1).bind fun t294 => (lodgerlaw09_ModelTells.j1 kj3 l2 (decide (t294 > 1024)) a0_0 a0_1 l0_2 a0_3 a0_4 a0_5 a0_6)) = some r := by rw [if_pos rfl] at H; exact H
       clear H
       have H := H1
       clear H1
       replace H := Option.bind_eq_some_iff.mp H
       obtain ⟨t294, A320, H⟩ := H
       replace H : (lodgerlaw09_ModelTells.j1 kj3 l2 (decide (t294 > 1024)) a0_0 a0_1 l0_2 a0_3 a0_4 a0_5 a0_6) = some r := H
       have A32 := Aside0.mk A320
       clear A320
       have H' := Aside0.mk H
       clear H
       have hcz33_0 : w27.cell? ⟨gb282, 0, none⟩ = some (.int .u32 a0_0) := (blk_cell BK282.out 0).trans rfl
       have hcz33_1 : w27.cell? ⟨gb282, 1, none⟩ = some (.int .i64 a0_1) := (blk_cell BK282.out 1).trans rfl
       have hcz33_2 : w27.cell? ⟨gb282, 2, none⟩ = some (.slice A0_2 l0_2.length c0_2) := (blk_cell BK282.out 2).trans rfl
       have hcz33_3 : w27.cell? ⟨gb282, 3, none⟩ = some (.int .i64 a0_3) := (blk_cell BK282.out 3).trans rfl
       have hcz33_4 : w27.cell? ⟨gb282, 4, none⟩ = some (.int .i64 a0_4) := (blk_cell BK282.out 4).trans rfl
       have hcz33_5 : w27.cell? ⟨gb282, 5, none⟩ = some (.int .i64 a0_5) := (blk_cell BK282.out 5).trans rfl
       have hcz33_6 : w27.cell? ⟨gb282, 6, none⟩ = some (.int .i64 a0_6) := (blk_cell BK282.out 6).trans rfl
       have hfz33_0 := blk_frozen BK282.out 0
       have hfz33_1 := blk_frozen BK282.out 1
       have hfz33_2 := blk_frozen BK282.out 2
       have hfz33_3 := blk_frozen BK282.out 3
       have hfz33_4 := blk_frozen BK282.out 4
       have hfz33_5 := blk_frozen BK282.out 5
       have hfz33_6 := blk_frozen BK282.out 6
       go_wp2_with (first | ((with_reducible refine gate_callee (f := 12) rfl ?_); refine goesL_ (some 31) rfl rfl Try.func12 (by kernel_rfl) rfl #[.agg #[.int .u32 a0_0, .int .i64 a0_1, .slice A0_2 l0_2.length c0_2, .int .i64 a0_3, .int .i64 a0_4, .int .i64 a0_5, .int .i64 a0_6], .slice A2 l2.length c2] rfl (by (try simp only [List.map_toArray, List.map_cons, List.map_nil]); first | done | rfl | (simp only [List.length_drop, List.length_take]; rfl)) ?_; (with_reducible refine (lodgerref09_May.calls kj3 a0_0 a0_1 _ _ l0_2 a0_3 a0_4 a0_5 a0_6 _ _ l2 true _ ?side1 ?side2 ?side3 ?side4 A30.out).mono ?_); (case side1 => repeat (first | exact (Kd.C_below HR0_2.out HB.out) | (with_reducible refine Kd.C_alloc ?_ _) | (with_reducible refine Kd.C_drewN ?_ _) | (with_reducible refine Kd.C_drew ?_))); (case side2 => exact HC0_2.out); (case side3 => repeat (first | exact (Kd.C_below HR2.out HB.out) | (with_reducible refine Kd.C_alloc ?_ _) | (with_reducible refine Kd.C_drewN ?_ _) | (with_reducible refine Kd.C_drew ?_))); (case side4 => exact HC2.out); rintro e w34 ⟨rfl, hb⟩; refine ⟨_, rfl, ?_⟩; have n0_ := Aside0.mk (Kd.R_below (by (with_reducible repeat (first | apply Kd.R_alloc | apply Kd.R_drewN | apply Kd.R_drew)); exact HO288.out) hb); have n1_ := Aside0.mk (Kd.R_below (by (with_reducible repeat (first | apply Kd.R_alloc | apply Kd.R_drewN | apply Kd.R_drew)); exact HO291.out) hb); have n2_ := Aside0.mk (blk_below (g := gb282) (o := .cells #[.int .u32 a0_0, .int .i64 a0_1, .slice A0_2 l0_2.length c0_2, .int .i64 a0_3, .int .i64 a0_4, .int .i64 a0_5, .int .i64 a0_6] 27 (0, 0)) (by (with_reducible repeat (first | refine blk_drewN ?_ _ | refine blk_drew ?_ | refine blk_alloc ?_ _)); exact BK282.out) hb); have n3_ := Aside0.mk (below_step (by repeat (first | (with_reducible first | exact HB.out | apply below_alloc | apply pw_below_drewN | apply below_drew1 | refine below_set ?_ GE282.out) | exact HB.out)) hb); clear HO288; clear HO291; clear BK282; clear HB; have HO288 := n0_; have HO291 := n1_; have BK282 := n2_; have HB := n3_; clear n0_ n1_ n2_ n3_; (try clear hb); (try clear hb2); (try clear hk); (try clear hi); have hcz35_0 : w34.cell? ⟨gb282, 0, none⟩ = some (.int .u32 a0_0) := (blk_cell BK282.out 0).trans rfl; have hcz35_1 : w34.cell? ⟨gb282, 1, none⟩ = some (.int .i64 a0_1) := (blk_cell BK282.out 1).trans rfl; have hcz35_2 : w34.cell? ⟨gb282, 2, none⟩ = some (.slice A0_2 l0_2.length c0_2) := (blk_cell BK282.out 2).trans rfl; have hcz35_3 : w34.cell? ⟨gb282, 3, none⟩ = some (.int .i64 a0_3) := (blk_cell BK282.out 3).trans rfl; have hcz35_4 : w34.cell? ⟨gb282, 4, none⟩ = some (.int .i64 a0_4) := (blk_cell BK282.out 4).trans rfl; have hcz35_5 : w34.cell? ⟨gb282, 5, none⟩ = some (.int .i64 a0_5) := (blk_cell BK282.out 5).trans rfl; have hcz35_6 : w34.cell? ⟨gb282, 6, none⟩ = some (.int .i64 a0_6) := (blk_cell BK282.out 6).trans rfl; have hfz35_0 := blk_frozen BK282.out 0; have hfz35_1 := blk_frozen BK282.out 1; have hfz35_2 := blk_frozen BK282.out 2; have hfz35_3 := blk_frozen BK282.out 3; have hfz35_4 := blk_frozen BK282.out 4; have hfz35_5 := blk_frozen BK282.out 5; have hfz35_6 := blk_frozen BK282.out 6) | (go_at_call 24; (with_reducible refine (lodgerref05_Many.calls kj3 a0_0 a0_1 t294 _ A32.out).mono ?_); rintro e w36 ⟨rfl, hb⟩; have n0_ := Aside0.mk (Kd.R_below (by (with_reducible repeat (first | apply Kd.R_alloc | apply Kd.R_drewN | apply Kd.R_drew)); exact HO288.out) hb); have n1_ := Aside0.mk (Kd.R_below (by (with_reducible repeat (first | apply Kd.R_alloc | apply Kd.R_drewN | apply Kd.R_drew)); exact HO291.out) hb); have n2_ := Aside0.mk (blk_below (g := gb282) (o := .cells #[.int .u32 a0_0, .int .i64 a0_1, .slice A0_2 l0_2.length c0_2, .int .i64 a0_3, .int .i64 a0_4, .int .i64 a0_5, .int .i64 a0_6] 27 (0, 0)) (by (with_reducible repeat (first | refine blk_drewN ?_ _ | refine blk_drew ?_ | refine blk_alloc ?_ _)); exact BK282.out) hb); have n3_ := Aside0.mk (below_step (by repeat (first | (with_reducible first | exact HB.out | apply below_alloc | apply pw_below_drewN | apply below_drew1 | refine below_set ?_ GE282.out) | exact HB.out)) hb); clear HO288; clear HO291; clear BK282; clear HB; have HO288 := n0_; have HO291 := n1_; have BK282 := n2_; have HB := n3_; clear n0_ n1_ n2_ n3_; (try clear hb); (try clear hb2); (try clear hk); (try clear hi)))
       go_meet
       case rel => exact ⟨_, (decide (t294 > 1024)), (by first | rfl | (simp; done) | (simp [*]; done)), H', ⟨by have := HJ3.out; first | omega | exact Nat.le_refl _⟩, ⟨by (with_reducible repeat (first | refine blk_drewN ?_ _ | refine blk_drew ?_ | refine blk_alloc ?_ _)); exact BK282.out⟩, ⟨by repeat (first | (with_reducible first | exact HB.out | apply below_alloc | apply pw_below_drewN | apply below_drew1 | refine below_set ?_ GE282.out) | exact HB.out)⟩⟩
      ·replace c31 := Bool.eq_false_iff.mpr c31
       subst c31
       have H1 : (lodgerlaw09_ModelTells.j1 kj3 l2 true a0_0 a0_1 l0_2 a0_3 a0_4 a0_5 a0_6) = some r := by rw [if_neg (show ¬ (false = true) by decide)] at H; exact H
       clear H
       have H := H1
       clear H1
       have H' := Aside0.mk H
       clear H
       have hcz37_0 : w27.cell? ⟨gb282, 0, none⟩ = some (.int .u32 a0_0) := (blk_cell BK282.out 0).trans rfl
       have hcz37_1 : w27.cell? ⟨gb282, 1, none⟩ = some (.int .i64 a0_1) := (blk_cell BK282.out 1).trans rfl
       have hcz37_2 : w27.cell? ⟨gb282, 2, none⟩ = some (.slice A0_2 l0_2.length c0_2) := (blk_cell BK282.out 2).trans rfl
       have hcz37_3 : w27.cell? ⟨gb282, 3, none⟩ = some (.int .i64 a0_3) := (blk_cell BK282.out 3).trans rfl
       have hcz37_4 : w27.cell? ⟨gb282, 4, none⟩ = some (.int .i64 a0_4) := (blk_cell BK282.out 4).trans rfl
       have hcz37_5 : w27.cell? ⟨gb282, 5, none⟩ = some (.int .i64 a0_5) := (blk_cell BK282.out 5).trans rfl
       have hcz37_6 : w27.cell? ⟨gb282, 6, none⟩ = some (.int .i64 a0_6) := (blk_cell BK282.out 6).trans rfl
       have hfz37_0 := blk_frozen BK282.out 0
       have hfz37_1 := blk_frozen BK282.out 1
       have hfz37_2 := blk_frozen BK282.out 2
       have hfz37_3 := blk_frozen BK282.out 3
       have hfz37_4 := blk_frozen BK282.out 4
       have hfz37_5 := blk_frozen BK282.out 5
       have hfz37_6 := blk_frozen BK282.out 6
       go_wp2_with (first | ((with_reducible refine gate_callee (f := 12) rfl ?_); refine goesL_ (some 31) rfl rfl Try.func12 (by kernel_rfl) rfl #[.agg #[.int .u32 a0_0, .int .i64 a0_1, .slice A0_2 l0_2.length c0_2, .int .i64 a0_3, .int .i64 a0_4, .int .i64 a0_5, .int .i64 a0_6], .slice A2 l2.length c2] rfl (by (try simp only [List.map_toArray, List.map_cons, List.map_nil]); first | done | rfl | (simp only [List.length_drop, List.length_take]; rfl)) ?_; (with_reducible refine (lodgerref09_May.calls kj3 a0_0 a0_1 _ _ l0_2 a0_3 a0_4 a0_5 a0_6 _ _ l2 false _ ?side1 ?side2 ?side3 ?side4 A30.out).mono ?_); (case side1 => repeat (first | exact (Kd.C_below HR0_2.out HB.out) | (with_reducible refine Kd.C_alloc ?_ _) | (with_reducible refine Kd.C_drewN ?_ _) | (with_reducible refine Kd.C_drew ?_))); (case side2 => exact HC0_2.out); (case side3 => repeat (first | exact (Kd.C_below HR2.out HB.out) | (with_reducible refine Kd.C_alloc ?_ _) | (with_reducible refine Kd.C_drewN ?_ _) | (with_reducible refine Kd.C_drew ?_))); (case side4 => exact HC2.out); rintro e w38 ⟨rfl, hb⟩; refine ⟨_, rfl, ?_⟩; have n0_ := Aside0.mk (Kd.R_below (by (with_reducible repeat (first | apply Kd.R_alloc | apply Kd.R_drewN | apply Kd.R_drew)); exact HO288.out) hb); have n1_ := Aside0.mk (Kd.R_below (by (with_reducible repeat (first | apply Kd.R_alloc | apply Kd.R_drewN | apply Kd.R_drew)); exact HO291.out) hb); have n2_ := Aside0.mk (blk_below (g := gb282) (o := .cells #[.int .u32 a0_0, .int .i64 a0_1, .slice A0_2 l0_2.length c0_2, .int .i64 a0_3, .int .i64 a0_4, .int .i64 a0_5, .int .i64 a0_6] 27 (0, 0)) (by (with_reducible repeat (first | refine blk_drewN ?_ _ | refine blk_drew ?_ | refine blk_alloc ?_ _)); exact BK282.out) hb); have n3_ := Aside0.mk (below_step (by repeat (first | (with_reducible first | exact HB.out | apply below_alloc | apply pw_below_drewN | apply below_drew1 | refine below_set ?_ GE282.out) | exact HB.out)) hb); clear HO288; clear HO291; clear BK282; clear HB; have HO288 := n0_; have HO291 := n1_; have BK282 := n2_; have HB := n3_; clear n0_ n1_ n2_ n3_; (try clear hb); (try clear hb2); (try clear hk); (try clear hi)))
       go_meet
       case rel => exact ⟨_, (true), (by first | rfl | (simp; done) | (simp [*]; done)), H', ⟨by have := HJ3.out; first | omega | exact Nat.le_refl _⟩, ⟨by (with_reducible repeat (first | refine blk_drewN ?_ _ | refine blk_drew ?_ | refine blk_alloc ?_ _)); exact BK282.out⟩, ⟨by repeat (first | (with_reducible first | exact HB.out | apply below_alloc | apply pw_below_drewN | apply below_drew1 | refine below_set ?_ GE282.out) | exact HB.out)⟩⟩
     case rest =>
      clear HC24
      try clear c1
      try clear c2
      try clear p2
      try clear c3
      try clear c4
      try clear c7
      try clear c9
      try clear c12
      try clear c16
      try clear c17
      try clear c22
      try clear c23
      try clear c31
      try clear hcz11_0
      try clear hcz11_1
      try clear hcz11_2
      try clear hcz11_3
      try clear hcz11_4
      try clear hcz11_5
      try clear hcz11_6
      try clear hcz14_0
      try clear hcz14_1
      try clear hcz14_2
      try clear hcz14_3
      try clear hcz14_4
      try clear hcz14_5
      try clear hcz14_6
      try clear hcz33_0
      try clear hcz33_1
      try clear hcz33_2
      try clear hcz33_3
      try clear hcz33_4
      try clear hcz33_5
      try clear hcz33_6
      try clear hcz35_0
      try clear hcz35_1
      try clear hcz35_2
      try clear hcz35_3
      try clear hcz35_4
      try clear hcz35_5
      try clear hcz35_6
      try clear hcz37_0
      try clear hcz37_1
      try clear hcz37_2
      try clear hcz37_3
      try clear hcz37_4
      try clear hcz37_5
      try clear hcz37_6
      try clear hfz11_0
      try clear hfz11_1
      try clear hfz11_2
      try clear hfz11_3
      try clear hfz11_4
      try clear hfz11_5
      try clear hfz11_6
      try clear hfz14_0
      try clear hfz14_1
      try clear hfz14_2
      try clear hfz14_3
      try clear hfz14_4
      try clear hfz14_5
      try clear hfz14_6
      try clear hfz33_0
      try clear hfz33_1
      try clear hfz33_2
      try clear hfz33_3
      try clear hfz33_4
      try clear hfz33_5
      try clear hfz33_6
      try clear hfz35_0
      try clear hfz35_1
      try clear hfz35_2
      try clear hfz35_3
      try clear hfz35_4
      try clear hfz35_5
      try clear hfz35_6
      try clear hfz37_0
      try clear hfz37_1
      try clear hfz37_2
      try clear hfz37_3
      try clear hfz37_4
      try clear hfz37_5
      try clear hfz37_6
      try clear p2
      obtain ⟨kq, x38_23, rfl, HA, HJ23, BK282, HB⟩ := hcut
      cases kq with
      | zero => exact absurd HA.out (by simp [lodgerlaw09_ModelTells.j1])
      | succ kj23 =>
       have H := HA.out
       clear HA
       simp only [lodgerlaw09_ModelTells.j1] at H
       by_cases c39 : x38_23 = true
       ·subst c39
        have H1 : (some true) = some r := by rw [if_pos rfl] at H; exact H
        clear H
        have H := H1
        clear H1
        first | (exfalso; rw [hr_.out] at H; exact absurd (Option.some.inj H) (by decide)) | (try clear hr_)
        all_goals
         obtain rfl := Option.some.inj H
         go_wp2
         go_ret
         exact ⟨by first | rfl | (simp [errW_none, errW_some] <;> rfl) | (simp [*, errW_none, errW_some] <;> rfl), by repeat (first | (with_reducible first | exact HB.out | apply below_alloc | apply pw_below_drewN | apply below_drew1 | refine below_set ?_ GE282.out) | exact HB.out)⟩
       ·replace c39 := Bool.eq_false_iff.mpr c39
        subst c39
        have H1 : ((model_Full.f a0_0 a0_1 l0_2 a0_3 a0_4 a0_5 a0_6 l2).bind fun t295 => ((lodgerref09_Full.f kj23 a0_0 a0_1 l0_2 a0_3 a0_4 a0_5 a0_6 l2).bind fun t296 => (if (t295 == t296) = true then ((model_Addrs.f kj23 a0_0 a0_1 l0_2 a0_3 a0_4 a0_5 a0_6 l2).bind fun t297 => ((lodgerref09_Addrs.f kj23 a0_0 a0_1 l0_2 a0_3 a0_4 a0_5 a0_6 l2).bind fun t300 => ((lodgerref08_Addrs.f kj23 t297 t300).bind fun t303 => (some t303)))) else (some false)))) = some r := by rw [if_neg (show ¬ (false = true) by decide)] at H; exact H
        clear H
        have H := H1
        clear H1
        replace H := Option.bind_eq_some_iff.mp H
        obtain ⟨t295, A400, H⟩ := H
        replace H : ((lodgerref09_Full.f kj23 a0_0 a0_1 l0_2 a0_3 a0_4 a0_5 a0_6 l2).bind fun t296 => (if (t295 == t296) = true then ((model_Addrs.f kj23 a0_0 a0_1 l0_2 a0_3 a0_4 a0_5 a0_6 l2).bind fun t297 => ((lodgerref09_Addrs.f kj23 a0_0 a0_1 l0_2 a0_3 a0_4 a0_5 a0_6 l2).bind fun t300 => ((lodgerref08_Addrs.f kj23 t297 t300).bind fun t303 => (some t303)))) else (some false))) = some r := H
        have A40 := Aside0.mk A400
        clear A400
        replace H := Option.bind_eq_some_iff.mp H
        obtain ⟨t296, A410, H⟩ := H
        replace H : (if (t295 == t296) = true then ((model_Addrs.f kj23 a0_0 a0_1 l0_2 a0_3 a0_4 a0_5 a0_6 l2).bind fun t297 => ((lodgerref09_Addrs.f kj23 a0_0 a0_1 l0_2 a0_3 a0_4 a0_5 a0_6 l2).bind fun t300 => ((lodgerref08_Addrs.f kj23 t297 t300).bind fun t303 => (some t303)))) else (some false)) = some r := H
        have A41 := Aside0.mk A410
        clear A410
        by_cases c42 : (t295 == t296) = true
        ·rw [if_pos c42] at H
         have c42b0 : (t295 == t296) = true := c42
         (try (have c42b1 : decide (t295 = t296) = true := by simpa using c42))
         (try (have c42b2 : (t295 == t296) = true := by simpa using c42))
         clear c42
         replace H := Option.bind_eq_some_iff.mp H
         obtain ⟨t297, A430, H⟩ := H
         replace H : ((lodgerref09_Addrs.f kj23 a0_0 a0_1 l0_2 a0_3 a0_4 a0_5 a0_6 l2).bind fun t300 => ((lodgerref08_Addrs.f kj23 t297 t300).bind fun t303 => (some t303))) = some r := H
         have A43 := Aside0.mk A430
         clear A430
         replace H := Option.bind_eq_some_iff.mp H
         obtain ⟨t300, A440, H⟩ := H
         replace H : ((lodgerref08_Addrs.f kj23 t297 t300).bind fun t303 => (some t303)) = some r := H
         have A44 := Aside0.mk A440
         clear A440
         replace H := Option.bind_eq_some_iff.mp H
         obtain ⟨t303, A450, H⟩ := H
         replace H : (some t303) = some r := H
         have A45 := Aside0.mk A450
         clear A450
         first | (exfalso; rw [hr_.out] at H; exact absurd (Option.some.inj H) (by decide)) | (try clear hr_)
         all_goals
          obtain rfl := Option.some.inj H
          try go_wp2
          have n0_ := Aside0.mk (blk_drew BK282.out)
          have n1_ := Aside0.mk (below_drew1 HB.out)
          clear BK282
          clear HB
          have BK282 := n0_
          have HB := n1_
          clear n0_ n1_
          refine start_ (n := 17) (S := fun w' => w'.cell? ⟨gb282, 0, none⟩ = some (.int .u32 a0_0) ∧ w'.cell? ⟨gb282, 1, none⟩ = some (.int .i64 a0_1) ∧ w'.cell? ⟨gb282, 2, none⟩ = some (.slice A0_2 l0_2.length c0_2) ∧ w'.cell? ⟨gb282, 3, none⟩ = some (.int .i64 a0_3) ∧ w'.cell? ⟨gb282, 4, none⟩ = some (.int .i64 a0_4) ∧ w'.cell? ⟨gb282, 5, none⟩ = some (.int .i64 a0_5) ∧ w'.cell? ⟨gb282, 6, none⟩ = some (.int .i64 a0_6)) (ds := []) #[false, false, false, false, false, false, false, false, false, false, false, false, false, false, false, false, false] (by kernel_rfl) rfl rfl ⟨(blk_cell BK282.out 0).trans rfl, (blk_cell BK282.out 1).trans rfl, (blk_cell BK282.out 2).trans rfl, (blk_cell BK282.out 3).trans rfl, (blk_cell BK282.out 4).trans rfl, (blk_cell BK282.out 5).trans rfl, (blk_cell BK282.out 6).trans rfl⟩ (fun hHeld => ?_); refine with_tabW lodgerlaw09_ModelTells.tab7 lodgerlaw09_ModelTells.bits7 (fun HT_ HW_ => ?_)
          generalize wc.drew = w46 at BK282 HB hHeld ⊢
          refine pu_ (i := 1) (N := some 40) (tf 17 2) HT_ ?_
          refine pu_ (i := 4) (N := some 43) (tf 17 18) HT_ ?_
          refine tk_ (i := 0) (N := some 39) (tf 17 19) rfl rfl HT_ HW_ hHeld (by rintro w' ⟨s0, s1, s2, s3, s4, s5, s6⟩; go_simp; with_reducible rfl) ?_
          refine tk_ (i := 3) (N := some 42) (tf 17 27) rfl rfl HT_ HW_ hHeld (by rintro w' ⟨s0, s1, s2, s3, s4, s5, s6⟩; go_simp; with_reducible rfl) ?_
          refine one_ (i := 2) (N := some 41) #[true, true, true, true, true, false, false, false, false, false, false, false, false, false, false, false, false] rfl rfl (one_of HT_.out (by kernel_rfl)) (by decide) (fun K hK => ?_)
          refine goes_ Try.func25 (by kernel_rfl) rfl #[.agg #[.int .u32 a0_0, .int .i64 a0_1, .slice A0_2 l0_2.length c0_2, .int .i64 a0_3, .int .i64 a0_4, .int .i64 a0_5, .int .i64 a0_6], .slice A2 l2.length c2] (by rfl) rfl rfl (by (try simp only [List.map_toArray, List.map_cons, List.map_nil]); first | done | rfl | (simp only [List.length_drop, List.length_take]; rfl)) ?_
          with_reducible refine (model_Full.calls a0_0 a0_1 _ _ l0_2 a0_3 a0_4 a0_5 a0_6 _ _ l2 t295 _ ?side1 ?side2 ?side3 ?side4 A40.out).mono ?_
          (case side1 => repeat (first | exact (Kd.C_below HR0_2.out HB.out) | (with_reducible refine Kd.C_alloc ?_ _) | (with_reducible refine Kd.C_drewN ?_ _) | (with_reducible refine Kd.C_drew ?_)))
          (case side2 => exact HC0_2.out)
          (case side3 => repeat (first | exact (Kd.C_below HR2.out HB.out) | (with_reducible refine Kd.C_alloc ?_ _) | (with_reducible refine Kd.C_drewN ?_ _) | (with_reducible refine Kd.C_drew ?_)))
          (case side4 => exact HC2.out)
          rintro e w47 ⟨rfl, hb⟩
          refine ⟨_, rfl, ?_⟩
          have n0_ := Aside0.mk (blk_below (g := gb282) (o := .cells #[.int .u32 a0_0, .int .i64 a0_1, .slice A0_2 l0_2.length c0_2, .int .i64 a0_3, .int .i64 a0_4, .int .i64 a0_5, .int .i64 a0_6] 27 (0, 0)) (by (with_reducible repeat (first | refine blk_drewN ?_ _ | refine blk_drew ?_ | refine blk_alloc ?_ _)); exact BK282.out) hb)
          have n1_ := Aside0.mk (below_step (by repeat (first | (with_reducible first | exact HB.out | apply below_alloc | apply pw_below_drewN | apply below_drew1 | refine below_set ?_ GE282.out) | exact HB.out)) hb)
          clear BK282
          clear HB
          have BK282 := n0_
          have HB := n1_
          clear n0_ n1_
          (try clear hb)
          (try clear hb2)
          (try clear hk)
          (try clear hi)
          refine hK.out _ _ ⟨(blk_cell BK282.out 0).trans rfl, (blk_cell BK282.out 1).trans rfl, (blk_cell BK282.out 2).trans rfl, (blk_cell BK282.out 3).trans rfl, (blk_cell BK282.out 4).trans rfl, (blk_cell BK282.out 5).trans rfl, (blk_cell BK282.out 6).trans rfl⟩ (fun hHeld => ?_)
          clear hK K
          refine norm_ (a' := ?_) ?_ ?_
          rotate_left
          ·show Act.put _ (some 41) _ = _
           simp only [Act.put, List.setIfInBounds_toArray, List.set_cons_zero, List.set_cons_succ, i64_w, i32_w]
           rfl
          refine one_ (i := 5) (N := some 44) #[true, true, true, true, true, true, false, false, false, false, false, false, false, false, false, false, false] rfl rfl (one_of HT_.out (by kernel_rfl)) (by decide) (fun K hK => ?_)
          refine goes_ Try.func26 (by kernel_rfl) rfl #[.agg #[.int .u32 a0_0, .int .i64 a0_1, .slice A0_2 l0_2.length c0_2, .int .i64 a0_3, .int .i64 a0_4, .int .i64 a0_5, .int .i64 a0_6], .slice A2 l2.length c2] (by rfl) rfl rfl (by (try simp only [List.map_toArray, List.map_cons, List.map_nil]); first | done | rfl | (simp only [List.length_drop, List.length_take]; rfl)) ?_
          with_reducible refine (lodgerref09_Full.calls kj23 a0_0 a0_1 _ _ l0_2 a0_3 a0_4 a0_5 a0_6 _ _ l2 t296 _ ?side1 ?side2 ?side3 ?side4 A41.out).mono ?_
          (case side1 => repeat (first | exact (Kd.C_below HR0_2.out HB.out) | (with_reducible refine Kd.C_alloc ?_ _) | (with_reducible refine Kd.C_drewN ?_ _) | (with_reducible refine Kd.C_drew ?_)))
          (case side2 => exact HC0_2.out)
          (case side3 => repeat (first | exact (Kd.C_below HR2.out HB.out) | (with_reducible refine Kd.C_alloc ?_ _) | (with_reducible refine Kd.C_drewN ?_ _) | (with_reducible refine Kd.C_drew ?_)))
          (case side4 => exact HC2.out)
          rintro e w48 ⟨rfl, hb⟩
          refine ⟨_, rfl, ?_⟩
          have n0_ := Aside0.mk (blk_below (g := gb282) (o := .cells #[.int .u32 a0_0, .int .i64 a0_1, .slice A0_2 l0_2.length c0_2, .int .i64 a0_3, .int .i64 a0_4, .int .i64 a0_5, .int .i64 a0_6] 27 (0, 0)) (by (with_reducible repeat (first | refine blk_drewN ?_ _ | refine blk_drew ?_ | refine blk_alloc ?_ _)); exact BK282.out) hb)
          have n1_ := Aside0.mk (below_step (by repeat (first | (with_reducible first | exact HB.out | apply below_alloc | apply pw_below_drewN | apply below_drew1 | refine below_set ?_ GE282.out) | exact HB.out)) hb)
          clear BK282
          clear HB
          have BK282 := n0_
          have HB := n1_
          clear n0_ n1_
          (try clear hb)
          (try clear hb2)
          (try clear hk)
          (try clear hi)
          refine hK.out _ _ ⟨(blk_cell BK282.out 0).trans rfl, (blk_cell BK282.out 1).trans rfl, (blk_cell BK282.out 2).trans rfl, (blk_cell BK282.out 3).trans rfl, (blk_cell BK282.out 4).trans rfl, (blk_cell BK282.out 5).trans rfl, (blk_cell BK282.out 6).trans rfl⟩ (fun hHeld => ?_)
          clear hK K
          refine norm_ (a' := ?_) ?_ ?_
          rotate_left
          ·show Act.put _ (some 44) _ = _
           simp only [Act.put, List.setIfInBounds_toArray, List.set_cons_zero, List.set_cons_succ, i64_w, i32_w]
           rfl
          refine pu_ (i := 6) (N := some 45) (tf 17 127) HT_ ?_
          refine pu_ (i := 7) (N := some 46) (tf 17 255) HT_ ?_
          refine pu_ (i := 9) (N := some 48) (tf 17 767) HT_ ?_
          refine pu_ (i := 12) (N := some 51) (tf 17 4863) HT_ ?_
          refine tk_ (i := 8) (N := some 47) (tf 17 5119) rfl rfl HT_ HW_ hHeld (by rintro w' ⟨s0, s1, s2, s3, s4, s5, s6⟩; go_simp; with_reducible rfl) ?_
          refine tk_ (i := 11) (N := some 50) (tf 17 7167) rfl rfl HT_ HW_ hHeld (by rintro w' ⟨s0, s1, s2, s3, s4, s5, s6⟩; go_simp; with_reducible rfl) ?_
          refine one_ (i := 10) (N := some 49) #[true, true, true, true, true, true, true, true, true, true, true, true, true, false, false, false, false] rfl rfl (one_of HT_.out (by kernel_rfl)) (by decide) (fun K hK => ?_)
          refine goes_ Try.func28 (by kernel_rfl) rfl #[.agg #[.int .u32 a0_0, .int .i64 a0_1, .slice A0_2 l0_2.length c0_2, .int .i64 a0_3, .int .i64 a0_4, .int .i64 a0_5, .int .i64 a0_6], .slice A2 l2.length c2] (by rfl) rfl rfl (by (try simp only [List.map_toArray, List.map_cons, List.map_nil]); first | done | rfl | (simp only [List.length_drop, List.length_take]; rfl)) ?_
          with_reducible refine (model_Addrs.calls kj23 a0_0 a0_1 _ _ l0_2 a0_3 a0_4 a0_5 a0_6 _ _ l2 t297 _ ?side1 ?side2 ?side3 ?side4 A43.out).mono ?_
          (case side1 => repeat (first | exact (Kd.C_below HR0_2.out HB.out) | (with_reducible refine Kd.C_alloc ?_ _) | (with_reducible refine Kd.C_drewN ?_ _) | (with_reducible refine Kd.C_drew ?_)))
          (case side2 => exact HC0_2.out)
          (case side3 => repeat (first | exact (Kd.C_below HR2.out HB.out) | (with_reducible refine Kd.C_alloc ?_ _) | (with_reducible refine Kd.C_drewN ?_ _) | (with_reducible refine Kd.C_drew ?_)))
          (case side4 => exact HC2.out)
          rintro e w49 ⟨v298, rfl, ho0, hb⟩
          refine ⟨_, rfl, ?_⟩
          have n0_ := Aside0.mk (Kd.R_lower ho0 (below_size (by repeat (first | (with_reducible first | exact HB.out | apply below_alloc | apply pw_below_drewN | apply below_drew1 | refine below_set ?_ GE282.out) | exact HB.out))))
          have n1_ := Aside0.mk (blk_below (g := gb282) (o := .cells #[.int .u32 a0_0, .int .i64 a0_1, .slice A0_2 l0_2.length c0_2, .int .i64 a0_3, .int .i64 a0_4, .int .i64 a0_5, .int .i64 a0_6] 27 (0, 0)) (by (with_reducible repeat (first | refine blk_drewN ?_ _ | refine blk_drew ?_ | refine blk_alloc ?_ _)); exact BK282.out) hb)
          have n2_ := Aside0.mk (below_step (by repeat (first | (with_reducible first | exact HB.out | apply below_alloc | apply pw_below_drewN | apply below_drew1 | refine below_set ?_ GE282.out) | exact HB.out)) hb)
          clear BK282
          clear HB
          have HO299 := n0_
          have BK282 := n1_
          have HB := n2_
          clear n0_ n1_ n2_
          (try clear hb)
          (try clear hb2)
          (try clear hk)
          (try clear hi)
          (try clear ho0)
          refine hK.out _ _ ⟨(blk_cell BK282.out 0).trans rfl, (blk_cell BK282.out 1).trans rfl, (blk_cell BK282.out 2).trans rfl, (blk_cell BK282.out 3).trans rfl, (blk_cell BK282.out 4).trans rfl, (blk_cell BK282.out 5).trans rfl, (blk_cell BK282.out 6).trans rfl⟩ (fun hHeld => ?_)
          clear hK K
          refine norm_ (a' := ?_) ?_ ?_
          rotate_left
          ·show Act.put _ (some 49) _ = _
           simp only [Act.put, List.setIfInBounds_toArray, List.set_cons_zero, List.set_cons_succ, i64_w, i32_w]
           rfl
          refine one_ (i := 13) (N := some 52) #[true, true, true, true, true, true, true, true, true, true, true, true, true, true, false, false, false] rfl rfl (one_of HT_.out (by kernel_rfl)) (by decide) (fun K hK => ?_)
          refine goes_ Try.func29 (by kernel_rfl) rfl #[.agg #[.int .u32 a0_0, .int .i64 a0_1, .slice A0_2 l0_2.length c0_2, .int .i64 a0_3, .int .i64 a0_4, .int .i64 a0_5, .int .i64 a0_6], .slice A2 l2.length c2] (by rfl) rfl rfl (by (try simp only [List.map_toArray, List.map_cons, List.map_nil]); first | done | rfl | (simp only [List.length_drop, List.length_take]; rfl)) ?_
          with_reducible refine (lodgerref09_Addrs.calls kj23 a0_0 a0_1 _ _ l0_2 a0_3 a0_4 a0_5 a0_6 _ _ l2 t300 _ ?side1 ?side2 ?side3 ?side4 A44.out).mono ?_
          (case side1 => repeat (first | exact (Kd.C_below HR0_2.out HB.out) | (with_reducible refine Kd.C_alloc ?_ _) | (with_reducible refine Kd.C_drewN ?_ _) | (with_reducible refine Kd.C_drew ?_)))
          (case side2 => exact HC0_2.out)
          (case side3 => repeat (first | exact (Kd.C_below HR2.out HB.out) | (with_reducible refine Kd.C_alloc ?_ _) | (with_reducible refine Kd.C_drewN ?_ _) | (with_reducible refine Kd.C_drew ?_)))
          (case side4 => exact HC2.out)
          rintro e w50 ⟨v301, rfl, ho0, hb⟩
          refine ⟨_, rfl, ?_⟩
          have n0_ := Aside0.mk (Kd.R_elder' (by (with_reducible repeat (first | apply Kd.R_alloc | apply Kd.R_drewN | apply Kd.R_drew)); exact HO299.out) (Kd.R_base ho0) hb)
          have n1_ := Aside0.mk (Kd.R_lower (Kd.R_new' ho0 (Kd.R_lt (by (with_reducible repeat (first | apply Kd.R_alloc | apply Kd.R_drewN | apply Kd.R_drew)); exact HO299.out))) (below_size (by repeat (first | (with_reducible first | exact HB.out | apply below_alloc | apply pw_below_drewN | apply below_drew1 | refine below_set ?_ GE282.out) | exact HB.out))))
          have n2_ := Aside0.mk (blk_below (g := gb282) (o := .cells #[.int .u32 a0_0, .int .i64 a0_1, .slice A0_2 l0_2.length c0_2, .int .i64 a0_3, .int .i64 a0_4, .int .i64 a0_5, .int .i64 a0_6] 27 (0, 0)) (by (with_reducible repeat (first | refine blk_drewN ?_ _ | refine blk_drew ?_ | refine blk_alloc ?_ _)); exact BK282.out) hb)
          have n3_ := Aside0.mk (below_step (by repeat (first | (with_reducible first | exact HB.out | apply below_alloc | apply pw_below_drewN | apply below_drew1 | refine below_set ?_ GE282.out) | exact HB.out)) hb)
          clear HO299
          clear BK282
          clear HB
          have HO299 := n0_
          have HO302 := n1_
          have BK282 := n2_
          have HB := n3_
          clear n0_ n1_ n2_ n3_
          (try clear hb)
          (try clear hb2)
          (try clear hk)
          (try clear hi)
          (try clear ho0)
          obtain ⟨Ao51, co51, eo51⟩ := Kd.R_slice HO299.out
          (first | subst eo51 | (injection eo51 with f1_ f2_ f3_; have f4_ := f1_.symm; have f5_ := f3_.symm; clear f1_ f2_ f3_; subst f4_; subst f5_))
          obtain ⟨Ao52, co52, eo52⟩ := Kd.R_slice HO302.out
          (first | subst eo52 | (injection eo52 with f1_ f2_ f3_; have f4_ := f1_.symm; have f5_ := f3_.symm; clear f1_ f2_ f3_; subst f4_; subst f5_))
          refine hK.out _ _ ⟨(blk_cell BK282.out 0).trans rfl, (blk_cell BK282.out 1).trans rfl, (blk_cell BK282.out 2).trans rfl, (blk_cell BK282.out 3).trans rfl, (blk_cell BK282.out 4).trans rfl, (blk_cell BK282.out 5).trans rfl, (blk_cell BK282.out 6).trans rfl⟩ (fun hHeld => ?_)
          clear hK K
          refine norm_ (a' := ?_) ?_ ?_
          rotate_left
          ·show Act.put _ (some 52) _ = _
           simp only [Act.put, List.setIfInBounds_toArray, List.set_cons_zero, List.set_cons_succ, i64_w, i32_w]
           rfl
          refine one_ (i := 14) (N := some 53) #[true, true, true, true, true, true, true, true, true, true, true, true, true, true, true, false, false] rfl rfl (one_of HT_.out (by kernel_rfl)) (by decide) (fun K hK => ?_)
          refine goes_ Try.func27 (by kernel_rfl) rfl #[.slice Ao51 t297.length co51, .slice Ao52 t300.length co52] (by rfl) rfl rfl (by (try simp only [List.map_toArray, List.map_cons, List.map_nil]); first | done | rfl | (simp only [List.length_drop, List.length_take]; rfl)) ?_
          with_reducible refine (lodgerref08_Addrs.calls kj23 _ _ t297 _ _ t300 t303 _ ?side1 ?side2 ?side3 ?side4 A45.out).mono ?_
          (case side1 => repeat (first | exact (Kd.R_reads' HO299.out).2.2 | (with_reducible refine Kd.C_alloc ?_ _) | (with_reducible refine Kd.C_drewN ?_ _) | (with_reducible refine Kd.C_drew ?_)))
          (case side2 => exact (Kd.R_reads' HO299.out).2.1)
          (case side3 => repeat (first | exact (Kd.R_reads' HO302.out).2.2 | (with_reducible refine Kd.C_alloc ?_ _) | (with_reducible refine Kd.C_drewN ?_ _) | (with_reducible refine Kd.C_drew ?_)))
          (case side4 => exact (Kd.R_reads' HO302.out).2.1)
          rintro e w' ⟨rfl, ⟨nd, rfl⟩⟩
          refine ⟨_, rfl, ?_⟩
          refine hK.out _ _ ⟨(blk_cell BK282.out 0).trans rfl, (blk_cell BK282.out 1).trans rfl, (blk_cell BK282.out 2).trans rfl, (blk_cell BK282.out 3).trans rfl, (blk_cell BK282.out 4).trans rfl, (blk_cell BK282.out 5).trans rfl, (blk_cell BK282.out 6).trans rfl⟩ (fun hHeld => ?_)
          clear hK K
          refine norm_ (a' := ?_) ?_ ?_
          rotate_left
          ·show Act.put _ (some 53) _ = _
           simp only [Act.put, List.setIfInBounds_toArray, List.set_cons_zero, List.set_cons_succ, i64_w, i32_w]
           rfl
          refine pu_ (i := 15) (N := some 54) (tf 17 65535) HT_ ?_
          refine pu_ (i := 16) (N := some 6) (tf 17 131071) HT_ ?_
          refine done_ (done_of HT_.out (by kernel_rfl)) ?_
          try go_wp2
          go_ret
          exact ⟨by first | rfl | (simp [errW_none, errW_some] <;> rfl) | (simp [*, errW_none, errW_some] <;> rfl), by repeat (first | (with_reducible first | exact HB.out | apply below_alloc | apply pw_below_drewN | apply below_drew1 | refine below_set ?_ GE282.out) | exact HB.out)⟩
        ·rw [if_neg c42] at H
         rw [hr_.out] at H
         exact absurd (Option.some.inj H) (by decide)
    ·replace c23 := Bool.eq_false_iff.mpr c23
     subst c23
     have H1 : (some false) = some r := by rw [if_neg (show ¬ (false = true) by decide)] at H; exact H
     rw [hr_.out] at H1
     exact absurd (Option.some.inj H1) (by decide)

/-- THE ONE PURE STATEMENT of lodgerlaw09_ModelTells: yours. -/
def lodgerlaw09_ModelTells.Pure : Prop := ∀ (a0_0 : Int) (a0_1 : Int) (l0_2 : List Int) (a0_3 : Int) (a0_4 : Int) (a0_5 : Int) (a0_6 : Int) (l1 : List Int) (l2 : List Int), (Lit.int .u32 a0_0).wf = true → (Lit.int .i64 a0_1).wf = true → l0_2.length ≤ maxLen → (∀ x ∈ l0_2, (Lit.int .i64 x).wf = true) → (Lit.int .i64 a0_3).wf = true → (Lit.int .i64 a0_4).wf = true → (Lit.int .i64 a0_5).wf = true → (Lit.int .i64 a0_6).wf = true → l1.length ≤ maxLen → l1.length * 8 ≤ 140737488351232 → (∀ x ∈ l1, (Lit.int .u64 x).wf = true) → l2.length ≤ maxLen → l2.length * 8 ≤ 140737488351232 → (∀ x ∈ l2, (Lit.int .i64 x).wf = true) → ∃ k, lodgerlaw09_ModelTells.f k a0_0 a0_1 l0_2 a0_3 a0_4 a0_5 a0_6 l1 l2 = some true
theorem lodgerlaw09_ModelTells.walk (P : lodgerlaw09_ModelTells.Pure) (a0_0 : Int) (a0_1 : Int) (a0_2 : Option Addr) (len0_2 cap0_2 : Nat) (z0_2 : List Int) (a0_3 : Int) (a0_4 : Int) (a0_5 : Int) (a0_6 : Int) (a1 : Option Addr) (len1 cap1 : Nat) (z1 : List Int) (a2 : Option Addr) (len2 cap2 : Nat) (z2 : List Int) (w : World) (w0_0 : (Lit.int .u32 a0_0).wf = true) (w0_1 : (Lit.int .i64 a0_1).wf = true) (w0_2 : (a0_2 = none ∧ len0_2 = 0 ∧ cap0_2 = 0 ∧ z0_2 = []) ∨ ∃ x, a0_2 = some x ∧ len0_2 ≤ cap0_2 ∧ cap0_2 ≤ maxLen ∧ z0_2.length = cap0_2 ∧ (∀ i, i < z0_2.length → w.cell? (x.add i) = some (.int .i64 (z0_2.getD i 0))) ∧ ∀ n ∈ z0_2, (Lit.int .i64 n).wf = true) (w0_3 : (Lit.int .i64 a0_3).wf = true) (w0_4 : (Lit.int .i64 a0_4).wf = true) (w0_5 : (Lit.int .i64 a0_5).wf = true) (w0_6 : (Lit.int .i64 a0_6).wf = true) (w1 : (a1 = none ∧ len1 = 0 ∧ cap1 = 0 ∧ z1 = []) ∨ ∃ x, a1 = some x ∧ len1 ≤ cap1 ∧ cap1 ≤ maxLen ∧ z1.length = cap1 ∧ (∀ i, i < z1.length → w.cell? (x.add i) = some (.int .u64 (z1.getD i 0))) ∧ ∀ n ∈ z1, (Lit.int .u64 n).wf = true) (y1 : len1 * 8 ≤ 140737488351232) (w2 : (a2 = none ∧ len2 = 0 ∧ cap2 = 0 ∧ z2 = []) ∨ ∃ x, a2 = some x ∧ len2 ≤ cap2 ∧ cap2 ≤ maxLen ∧ z2.length = cap2 ∧ (∀ i, i < z2.length → w.cell? (x.add i) = some (.int .i64 (z2.getD i 0))) ∧ ∀ n ∈ z2, (Lit.int .i64 n).wf = true) (y2 : len2 * 8 ≤ 140737488351232) :
  Calls Try.prog 4 #[.agg #[.int .u32 a0_0, .int .i64 a0_1, .slice a0_2 len0_2 cap0_2, .int .i64 a0_3, .int .i64 a0_4, .int .i64 a0_5, .int .i64 a0_6], .slice a1 len1 cap1, .slice a2 len2 cap2] w fun e w' => e = .returned (.bool true) ∧ Below w.heap.size w w' := by
 obtain ⟨l0_2, rfl, hr0_2, hm0_2, hw0_2, hc0_2⟩ := ReadsInt.ofRowC w0_2
 obtain ⟨l1, rfl, hr1, hm1, hw1, hc1⟩ := ReadsInt.ofRowC w1
 obtain ⟨l2, rfl, hr2, hm2, hw2, hc2⟩ := ReadsInt.ofRowC w2
 obtain ⟨k, h⟩ := P a0_0 a0_1 l0_2 a0_3 a0_4 a0_5 a0_6 l1 l2 w0_0 w0_1 hm0_2 hw0_2 w0_3 w0_4 w0_5 w0_6 hm1 y1 hw1 hm2 y2 hw2
 refine (lodgerlaw09_ModelTells.calls k a0_0 a0_1 _ _ l0_2 a0_3 a0_4 a0_5 a0_6 _ _ l1 _ _ l2 true w (Kd.C_of_reads (d := (0 : Int)) (h1 := fun _ => rfl) hr0_2) hc0_2 (Kd.C_of_reads (d := (0 : Int)) (h1 := fun _ => rfl) hr1) hc1 (Kd.C_of_reads (d := (0 : Int)) (h1 := fun _ => rfl) hr2) hc2 rfl h).mono ?_
 rintro e w' ⟨rfl, hd⟩
 exact ⟨rfl, hd⟩

end Go.Proofs.Ythfcgjmffjmplaa.PModelTells
