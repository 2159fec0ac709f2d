/- The walk of ModelSets, part of it: what the Go functions answer; no condition. -/
import Derived.Test.YthfcgjmffjmplaaQModelSetsx0
import Derived.Test.YthfcgjmffjmplaaQModelSetsx1
import Derived.Test.YthfcgjmffjmplaaQModelSetsx2
import Derived.Test.YthfcgjmffjmplaaQModelSetsx3
import Derived.Test.YthfcgjmffjmplaaQModelSetsx4
import Derived.Test.YthfcgjmffjmplaaQModelSetsx5
import Derived.Test.YthfcgjmffjmplaaQModelSetsx7
import Derived.Test.YthfcgjmffjmplaaQModelSetsx8
namespace Go.Proofs.Ythfcgjmffjmplaa.PModelSets
open Go.RowKit Go.Proofs.YthfcgjmffjmplaaW.PrintWords Go.Proofs.YthfcgjmffjmplaaW.PrintLast Go.Proofs.YthfcgjmffjmplaaW.PrintMore
attribute [local go_sem] max2_int min2_int max_two min_two max_three min_three max_four min_four   -- for this text's walks alone
set_option linter.unusedVariables false
set_option linter.unusedSimpArgs false

/-! ### lodgerlaw09_ModelSets: function 3 -/
def lodgerlaw09_ModelSets.j0 : Nat → List Int → Int → Bool → Int → Int → List Int → Int → Int → Int → Int → Option (Bool)
 | 0, _, _, _, _, _, _, _, _, _, _ => none
 | k + 1, x1, x2, x27, x284000, x284001, x284002, x284003, x284004, x284005, x284006 => if x27 = true then ((lodgerlaw09_awake.f k).bind fun t288 => (if t288 = true then ((lodgerref05_May.f k x284000 x284001 x284002 x284003 x284004 x284005 x284006).bind fun t289 => (if t289 = true then (some (decide ((x1.length : Int) > 300))) else (some true))) else (some false))) else ((lodgerref09_Rises.f k x1).bind fun t290 => (if t290 = true then ((model_Has.f k x1 x2).bind fun t291 => ((lodgerref09_Has.f k x1 x2).bind fun t292 => (if (t291 == t292) = true then ((model_With.f k x1 x2).bind fun t293 => ((lodgerref09_With.f k x1 x2).bind fun t296 => ((lodgerref03_Ints.f k t293 t296).bind fun t299 => (if t299 = true then ((model_Without.f k x1 x2).bind fun t300 => ((lodgerref09_Without.f k x1 x2).bind fun t303 => ((lodgerref03_Ints.f k t300 t303).bind fun t306 => (some t306)))) else (some false))))) else (some false)))) else (some true)))
def lodgerlaw09_ModelSets.f (k : Nat) (a0_0 : Int) (a0_1 : Int) (l0_2 : List Int) (a0_3 : Int) (a0_4 : Int) (a0_5 : Int) (a0_6 : Int) (l1 : List Int) (a2 : Int) : Option (Bool) := (lodgerlaw09_awake.f k).bind fun t284 => (if t284 = true then ((lodgerref05_May.f k a0_0 a0_1 l0_2 a0_3 a0_4 a0_5 a0_6).bind fun t285 => (if t285 = true then (if (l1.length : Int) > 300 then (lodgerlaw09_ModelSets.j0 k l1 a2 true a0_0 a0_1 l0_2 a0_3 a0_4 a0_5 a0_6) else ((model_May.f k a0_0 a0_1 l0_2 a0_3 a0_4 a0_5 a0_6 l1).bind fun t286 => ((lodgerref09_May.f k a0_0 a0_1 l0_2 a0_3 a0_4 a0_5 a0_6 l1).bind fun t287 => (lodgerlaw09_ModelSets.j0 k l1 a2 (t286 != t287) a0_0 a0_1 l0_2 a0_3 a0_4 a0_5 a0_6)))) else (lodgerlaw09_ModelSets.j0 k l1 a2 true a0_0 a0_1 l0_2 a0_3 a0_4 a0_5 a0_6))) else (lodgerlaw09_ModelSets.j0 k l1 a2 true a0_0 a0_1 l0_2 a0_3 a0_4 a0_5 a0_6))
theorem lodgerlaw09_ModelSets.mono_l : ∀ k, (∀ y0 y1 y2 y3 y4 y5 y6 y7 y8 y9, LeO (lodgerlaw09_ModelSets.j0 k y0 y1 y2 y3 y4 y5 y6 y7 y8 y9) (lodgerlaw09_ModelSets.j0 (k + 1) y0 y1 y2 y3 y4 y5 y6 y7 y8 y9))
 | 0 => fun _ _ _ _ _ _ _ _ _ _ r h => by simp [lodgerlaw09_ModelSets.j0] at h
 | k + 1 => by
  have ih0 := lodgerlaw09_ModelSets.mono_l k
  ·intro y0 y1 y2 y3 y4 y5 y6 y7 y8 y9
   unfold lodgerlaw09_ModelSets.j0
   repeat' first
   | (with_reducible exact ih0 _ _ _ _ _ _ _ _ _ _)
   | (with_reducible exact lodgerlaw09_awake.mono _)
   | (with_reducible exact lodgerref03_Ints.mono _ _ _)
   | (with_reducible exact lodgerref05_May.mono _ _ _ _ _ _ _ _)
   | (with_reducible exact lodgerref09_Has.mono _ _ _)
   | (with_reducible exact lodgerref09_May.mono _ _ _ _ _ _ _ _ _)
   | (with_reducible exact lodgerref09_Rises.mono _ _)
   | (with_reducible exact lodgerref09_With.mono _ _ _)
   | (with_reducible exact lodgerref09_Without.mono _ _ _)
   | (with_reducible exact model_Has.mono _ _ _)
   | (with_reducible exact model_May.mono _ _ _ _ _ _ _ _ _)
   | (with_reducible exact model_With.mono _ _ _)
   | (with_reducible exact model_Without.mono _ _ _)
   | (with_reducible exact LeO.refl _)
   | (with_reducible exact LeO.none _)
   | (with_reducible refine LeO.ite ?_ ?_)
   | (with_reducible refine LeO.bind ?_ (fun _ => ?_))
   | exact ih0 _ _ _ _ _ _ _ _ _ _
   | exact lodgerlaw09_awake.mono _
   | exact lodgerref03_Ints.mono _ _ _
   | exact lodgerref05_May.mono _ _ _ _ _ _ _ _
   | exact lodgerref09_Has.mono _ _ _
   | exact lodgerref09_May.mono _ _ _ _ _ _ _ _ _
   | exact lodgerref09_Rises.mono _ _
   | exact lodgerref09_With.mono _ _ _
   | exact lodgerref09_Without.mono _ _ _
   | exact model_Has.mono _ _ _
   | exact model_May.mono _ _ _ _ _ _ _ _ _
   | exact model_With.mono _ _ _
   | exact model_Without.mono _ _ _
   | exact LeO.none _
   | refine LeO.ite ?_ ?_
   | refine LeO.bind ?_ (fun _ => ?_)
theorem lodgerlaw09_ModelSets.mono : ∀ a0 a1 a2 a3 a4 a5 a6 a7 a8 k, LeO (lodgerlaw09_ModelSets.f k a0 a1 a2 a3 a4 a5 a6 a7 a8) (lodgerlaw09_ModelSets.f (k + 1) a0 a1 a2 a3 a4 a5 a6 a7 a8) := by
 intro a0 a1 a2 a3 a4 a5 a6 a7 a8 k
 have ih0 := lodgerlaw09_ModelSets.mono_l k
 unfold lodgerlaw09_ModelSets.f
 repeat' first
   | (with_reducible exact ih0 _ _ _ _ _ _ _ _ _ _)
   | (with_reducible exact lodgerlaw09_awake.mono _)
   | (with_reducible exact lodgerref03_Ints.mono _ _ _)
   | (with_reducible exact lodgerref05_May.mono _ _ _ _ _ _ _ _)
   | (with_reducible exact lodgerref09_Has.mono _ _ _)
   | (with_reducible exact lodgerref09_May.mono _ _ _ _ _ _ _ _ _)
   | (with_reducible exact lodgerref09_Rises.mono _ _)
   | (with_reducible exact lodgerref09_With.mono _ _ _)
   | (with_reducible exact lodgerref09_Without.mono _ _ _)
   | (with_reducible exact model_Has.mono _ _ _)
   | (with_reducible exact model_May.mono _ _ _ _ _ _ _ _ _)
   | (with_reducible exact model_With.mono _ _ _)
   | (with_reducible exact model_Without.mono _ _ _)
   | (with_reducible exact LeO.refl _)
   | (with_reducible exact LeO.none _)
   | (with_reducible refine LeO.ite ?_ ?_)
   | (with_reducible refine LeO.bind ?_ (fun _ => ?_))
   | exact ih0 _ _ _ _ _ _ _ _ _ _
   | exact lodgerlaw09_awake.mono _
   | exact lodgerref03_Ints.mono _ _ _
   | exact lodgerref05_May.mono _ _ _ _ _ _ _ _
   | exact lodgerref09_Has.mono _ _ _
   | exact lodgerref09_May.mono _ _ _ _ _ _ _ _ _
   | exact lodgerref09_Rises.mono _ _
   | exact lodgerref09_With.mono _ _ _
   | exact lodgerref09_Without.mono _ _ _
   | exact model_Has.mono _ _ _
   | exact model_May.mono _ _ _ _ _ _ _ _ _
   | exact model_With.mono _ _ _
   | exact model_Without.mono _ _ _
   | exact LeO.none _
   | refine LeO.ite ?_ ?_
   | refine LeO.bind ?_ (fun _ => ?_)
def lodgerlaw09_ModelSets.T1 : Bool × List (List Nat × List Nat) := (true, [([], []), ([0], [0]), ([1, 0], [1]), ([2], [2]), ([3, 2, 2], [2, 3]), ([4, 2], [2, 4]), ([2, 5], [2, 5]), ([6, 4], [6]), ([7], [7]), ([8, 7], [7, 8]), ([9, 7], [7, 9]), ([7, 10], [7, 10]), ([11, 7], [11]), ([12], [12]), ([12], [12]), ([13, 14, 12, 12], [12, 13, 14]), ([12], [12]), ([12], [12]), ([16, 17, 15, 12], [12, 16, 17]), ([15, 18, 12], [12, 15, 18]), ([12, 19], [12, 19])])
def lodgerlaw09_ModelSets.B1 : List Nat := [0, 1, 3, 7, 15, 31, 63, 127, 255, 511, 1023, 2047, 4095, 8191, 8191, 32767, 8191, 8191, 262143, 524287, 1048575]
theorem lodgerlaw09_ModelSets.tab1 : rtab .any (opsOf Try.f3 1) = lodgerlaw09_ModelSets.T1 := by kernel_rfl
theorem lodgerlaw09_ModelSets.bits1 : waitsOk lodgerlaw09_ModelSets.T1.2 lodgerlaw09_ModelSets.B1 = true := by kernel_rfl
set_option maxHeartbeats 8000000 in
set_option maxRecDepth 100000 in
theorem lodgerlaw09_ModelSets.calls (k : Nat) (a0_0 : Int) (a0_1 : Int) (A0_2 : Option Addr) (c0_2 : Nat) (l0_2 : List Int) (a0_3 : Int) (a0_4 : Int) (a0_5 : Int) (a0_6 : Int) (A1 : Option Addr) (c1 : Nat) (l1 : List Int) (a2 : Int) (r : Bool) (w : World) (hr0_2 : Kd.C (Kd.int .i64) w A0_2 l0_2.length l0_2) (hc0_2 : l0_2.length ≤ c0_2) (hr1 : Kd.C (Kd.int .i64) w A1 l1.length l1) (hc1 : l1.length ≤ c1) (hr_ : r = true) (h : lodgerlaw09_ModelSets.f k a0_0 a0_1 l0_2 a0_3 a0_4 a0_5 a0_6 l1 a2 = some r) :
  Calls Try.prog 3 #[.agg #[.int .u32 a0_0, .int .i64 a0_1, .slice A0_2 l0_2.length c0_2, .int .i64 a0_3, .int .i64 a0_4, .int .i64 a0_5, .int .i64 a0_6], .slice A1 l1.length c1, .int .i64 a2] w fun e w' => e = .returned (.bool r) ∧ Below w.heap.size w w' := by
 have hu27 := Try.underlying27
 have HR0_2 := Aside0.mk hr0_2
 have HC0_2 := Aside0.mk hc0_2
 clear hr0_2 hc0_2
 have HR1 := Aside0.mk hr1
 have HC1 := Aside0.mk hc1
 clear hr1 hc1
 have HB := Aside0.mk (Below.refl w.heap.size w)
 replace hr_ := Aside0.mk hr_
 have H : ((lodgerlaw09_awake.f k).bind fun t284 => (if t284 = true then ((lodgerref05_May.f k a0_0 a0_1 l0_2 a0_3 a0_4 a0_5 a0_6).bind fun t285 => (if t285 = true then (if (l1.length : Int) > 300 then (lodgerlaw09_ModelSets.j0 k l1 a2 true a0_0 a0_1 l0_2 a0_3 a0_4 a0_5 a0_6) else ((model_May.f k a0_0 a0_1 l0_2 a0_3 a0_4 a0_5 a0_6 l1).bind fun t286 => ((lodgerref09_May.f k a0_0 a0_1 l0_2 a0_3 a0_4 a0_5 a0_6 l1).bind fun t287 => (lodgerlaw09_ModelSets.j0 k l1 a2 (t286 != t287) a0_0 a0_1 l0_2 a0_3 a0_4 a0_5 a0_6)))) else (lodgerlaw09_ModelSets.j0 k l1 a2 true a0_0 a0_1 l0_2 a0_3 a0_4 a0_5 a0_6))) else (lodgerlaw09_ModelSets.j0 k l1 a2 true a0_0 a0_1 l0_2 a0_3 a0_4 a0_5 a0_6))) = some r := h
 clear h
 have HC4 := Aside0.mk H
 clear H
 go_enter Try.func3, Try.ntmps3
 go_upto_region 1 with (first | ((with_reducible refine gate_dst (N := 3) rfl ?_); (try (refine gate_guard (by rfl) ?_; dsimp only)); refine box_event ?hg (N := 3) ?hd (cs := #[.int .u32 a0_0, .int .i64 a0_1, .slice A0_2 l0_2.length c0_2, .int .i64 a0_3, .int .i64 a0_4, .int .i64 a0_5, .int .i64 a0_6]) (t := 27) ?hr ?_; (case hd => rfl); (case hg => rfl); (case hr => first | (go_simp; done) | (go_simp; rfl)); intro gb283 hg w5 hbox hb; have n0_ := Aside0.mk (below_step (by repeat (first | (with_reducible first | exact HB.out | apply below_alloc | apply pw_below_drewN | apply below_drew1) | exact HB.out)) hb); have n1_ := Aside0.mk (hbox); have n2_ := Aside0.mk ((by rw [hg]; exact (below_size (by repeat (first | (with_reducible first | exact HB.out | apply below_alloc | apply pw_below_drewN | apply below_drew1) | exact HB.out))) : w.heap.size ≤ gb283)); have n3_ := Aside0.mk ((by rw [hg]; exact (below_size (by repeat (first | (with_reducible first | exact HB.out | apply below_alloc | apply pw_below_drewN | apply below_drew1) | exact HB.out))) : w.heap.size ≤ gb283)); clear HB; have HB := n0_; have BK283 := n1_; have GW283 := n2_; have GE283 := n3_; clear n0_ n1_ n2_ n3_; clear hb hbox hg))
 (try simp only [Act.put, List.setIfInBounds_toArray, List.set_cons_zero, List.set_cons_succ])
 go_cut [27] (fun v27 wc => ∃ (kq : Nat) (x27_3 : Bool), v27 = .bool x27_3 ∧ Aside0 (lodgerlaw09_ModelSets.j0 kq l1 a2 x27_3 a0_0 a0_1 l0_2 a0_3 a0_4 a0_5 a0_6 = some r) ∧ Aside0 (kq ≤ k) ∧ Aside0 (wc.heap[gb283]? = some (.cells #[.int .u32 a0_0, .int .i64 a0_1, (.slice A0_2 l0_2.length c0_2), .int .i64 a0_3, .int .i64 a0_4, .int .i64 a0_5, .int .i64 a0_6] 27 (0, 0))) ∧ Aside0 (Below w.heap.size w wc))
 case first =>
  have H := HC4.out
  clear HC4
  replace H := Option.bind_eq_some_iff.mp H
  obtain ⟨t284, A60, H⟩ := H
  replace H : (if t284 = true then ((lodgerref05_May.f k a0_0 a0_1 l0_2 a0_3 a0_4 a0_5 a0_6).bind fun t285 => (if t285 = true then (if (l1.length : Int) > 300 then (lodgerlaw09_ModelSets.j0 k l1 a2 true a0_0 a0_1 l0_2 a0_3 a0_4 a0_5 a0_6) else ((model_May.f k a0_0 a0_1 l0_2 a0_3 a0_4 a0_5 a0_6 l1).bind fun t286 => ((lodgerref09_May.f k a0_0 a0_1 l0_2 a0_3 a0_4 a0_5 a0_6 l1).bind fun t287 => (lodgerlaw09_ModelSets.j0 k l1 a2 (t286 != t287) a0_0 a0_1 l0_2 a0_3 a0_4 a0_5 a0_6)))) else (lodgerlaw09_ModelSets.j0 k l1 a2 true a0_0 a0_1 l0_2 a0_3 a0_4 a0_5 a0_6))) else (lodgerlaw09_ModelSets.j0 k l1 a2 true a0_0 a0_1 l0_2 a0_3 a0_4 a0_5 a0_6)) = some r := H
  have A6 := Aside0.mk A60
  clear A60
  by_cases c7 : t284 = true
  ·subst c7
   have H1 : ((lodgerref05_May.f k a0_0 a0_1 l0_2 a0_3 a0_4 a0_5 a0_6).bind fun t285 => (if t285 = true then (if (l1.length : Int) > 300 then (lodgerlaw09_ModelSets.j0 k l1 a2 true a0_0 a0_1 l0_2 a0_3 a0_4 a0_5 a0_6) else ((model_May.f k a0_0 a0_1 l0_2 a0_3 a0_4 a0_5 a0_6 l1).bind fun t286 => ((lodgerref09_May.f k a0_0 a0_1 l0_2 a0_3 a0_4 a0_5 a0_6 l1).bind fun t287 => (lodgerlaw09_ModelSets.j0 k l1 a2 (t286 != t287) a0_0 a0_1 l0_2 a0_3 a0_4 a0_5 a0_6)))) else (lodgerlaw09_ModelSets.j0 k l1 a2 true a0_0 a0_1 l0_2 a0_3 a0_4 a0_5 a0_6))) = some r := by rw [if_pos rfl] at H; exact H
   clear H
   have H := H1
   clear H1
   replace H := Option.bind_eq_some_iff.mp H
   obtain ⟨t285, A80, H⟩ := H
   replace H : (if t285 = true then (if (l1.length : Int) > 300 then (lodgerlaw09_ModelSets.j0 k l1 a2 true a0_0 a0_1 l0_2 a0_3 a0_4 a0_5 a0_6) else ((model_May.f k a0_0 a0_1 l0_2 a0_3 a0_4 a0_5 a0_6 l1).bind fun t286 => ((lodgerref09_May.f k a0_0 a0_1 l0_2 a0_3 a0_4 a0_5 a0_6 l1).bind fun t287 => (lodgerlaw09_ModelSets.j0 k l1 a2 (t286 != t287) a0_0 a0_1 l0_2 a0_3 a0_4 a0_5 a0_6)))) else (lodgerlaw09_ModelSets.j0 k l1 a2 true a0_0 a0_1 l0_2 a0_3 a0_4 a0_5 a0_6)) = some r := H
   have A8 := Aside0.mk A80
   clear A80
   by_cases c9 : t285 = true
   ·subst c9
    have H1 : (if (l1.length : Int) > 300 then (lodgerlaw09_ModelSets.j0 k l1 a2 true a0_0 a0_1 l0_2 a0_3 a0_4 a0_5 a0_6) else ((model_May.f k a0_0 a0_1 l0_2 a0_3 a0_4 a0_5 a0_6 l1).bind fun t286 => ((lodgerref09_May.f k a0_0 a0_1 l0_2 a0_3 a0_4 a0_5 a0_6 l1).bind fun t287 => (lodgerlaw09_ModelSets.j0 k l1 a2 (t286 != t287) a0_0 a0_1 l0_2 a0_3 a0_4 a0_5 a0_6)))) = some r := by rw [if_pos rfl] at H; exact H
    clear H
    have H := H1
    clear H1
    by_cases c10 : (l1.length : Int) > 300
    ·rw [if_pos c10] at H
     have c10b0 : decide (300 < (l1.length : Int)) = true := decide_eq_true c10
     have c10b1 : decide (300 < l1.length) = true := decide_eq_true (by omega)
     clear c10
     (first | rw [c10b0] | (simp only [i64_w, i32_w]; rw [c10b0]) | skip)
     have H' := Aside0.mk H
     clear H
     try go_wp2
     have n0_ := Aside0.mk (blk_drew BK283.out)
     have n1_ := Aside0.mk (below_drew1 HB.out)
     clear BK283
     clear HB
     have BK283 := n0_
     have HB := n1_
     clear n0_ n1_
     refine start_ (n := 21) (S := fun w' => w'.cell? ⟨gb283, 0, none⟩ = some (.int .u32 a0_0) ∧ w'.cell? ⟨gb283, 1, none⟩ = some (.int .i64 a0_1) ∧ w'.cell? ⟨gb283, 2, none⟩ = some (.slice A0_2 l0_2.length c0_2) ∧ w'.cell? ⟨gb283, 3, none⟩ = some (.int .i64 a0_3) ∧ w'.cell? ⟨gb283, 4, none⟩ = some (.int .i64 a0_4) ∧ w'.cell? ⟨gb283, 5, none⟩ = some (.int .i64 a0_5) ∧ w'.cell? ⟨gb283, 6, none⟩ = some (.int .i64 a0_6)) (ds := []) #[false, false, false, false, false, false, false, false, false, false, false, false, false, false, false, false, false, false, false, false, false] (by kernel_rfl) rfl rfl ⟨(blk_cell BK283.out 0).trans rfl, (blk_cell BK283.out 1).trans rfl, (blk_cell BK283.out 2).trans rfl, (blk_cell BK283.out 3).trans rfl, (blk_cell BK283.out 4).trans rfl, (blk_cell BK283.out 5).trans rfl, (blk_cell BK283.out 6).trans rfl⟩ (fun hHeld => ?_); refine with_tabW lodgerlaw09_ModelSets.tab1 lodgerlaw09_ModelSets.bits1 (fun HT_ HW_ => ?_)
     generalize w5.drew = w11 at BK283 HB hHeld ⊢
     refine one_ (i := 0) (N := some 7) #[true, false, false, false, false, false, false, false, false, false, false, false, false, false, false, false, false, false, false, false, false] rfl rfl (one_of HT_.out (by kernel_rfl)) (by decide) (fun K hK => ?_)
     refine goes_ Try.func9 (by kernel_rfl) rfl #[] (by rfl) rfl rfl (by (try simp only [List.map_toArray, List.map_cons, List.map_nil]); first | done | rfl | (simp only [List.length_drop, List.length_take]; rfl)) ?_
     with_reducible refine (lodgerlaw09_awake.calls k  true _ A6.out).mono ?_
     rintro e w12 ⟨rfl, hb⟩
     refine ⟨_, rfl, ?_⟩
     have n0_ := Aside0.mk (blk_below (g := gb283) (o := .cells #[.int .u32 a0_0, .int .i64 a0_1, .slice A0_2 l0_2.length c0_2, .int .i64 a0_3, .int .i64 a0_4, .int .i64 a0_5, .int .i64 a0_6] 27 (0, 0)) (by (with_reducible repeat (first | refine blk_drewN ?_ _ | refine blk_drew ?_ | refine blk_alloc ?_ _)); exact BK283.out) hb)
     have n1_ := Aside0.mk (below_step (by repeat (first | (with_reducible first | exact HB.out | apply below_alloc | apply pw_below_drewN | apply below_drew1 | refine below_set ?_ GE283.out) | exact HB.out)) hb)
     clear BK283
     clear HB
     have BK283 := n0_
     have HB := n1_
     clear n0_ n1_
     (try clear hb)
     (try clear hb2)
     (try clear hk)
     (try clear hi)
     refine hK.out _ _ ⟨(blk_cell BK283.out 0).trans rfl, (blk_cell BK283.out 1).trans rfl, (blk_cell BK283.out 2).trans rfl, (blk_cell BK283.out 3).trans rfl, (blk_cell BK283.out 4).trans rfl, (blk_cell BK283.out 5).trans rfl, (blk_cell BK283.out 6).trans rfl⟩ (fun hHeld => ?_)
     clear hK K
     refine norm_ (a' := ?_) ?_ ?_
     rotate_left
     ·show Act.put _ (some 7) _ = _
      simp only [Act.put, List.setIfInBounds_toArray, List.set_cons_zero, List.set_cons_succ, i64_w, i32_w]
      rfl
     refine pu_ (i := 1) (N := some 8) (tf 21 3) HT_ ?_
     refine pu_ (i := 2) (N := some 9) (tf 21 7) HT_ ?_
     refine tk_ (i := 3) (N := some 10) (tf 21 15) rfl rfl HT_ HW_ hHeld (by rintro w' ⟨s0, s1, s2, s3, s4, s5, s6⟩; go_simp; with_reducible rfl) ?_
     refine one_ (i := 4) (N := some 11) #[true, true, true, true, true, false, false, false, false, false, false, false, false, false, false, false, false, false, false, false, false] rfl rfl (one_of HT_.out (by kernel_rfl)) (by decide) (fun K hK => ?_)
     refine goes_ Try.func10 (by kernel_rfl) rfl #[.agg #[.int .u32 a0_0, .int .i64 a0_1, .slice A0_2 l0_2.length c0_2, .int .i64 a0_3, .int .i64 a0_4, .int .i64 a0_5, .int .i64 a0_6]] (by rfl) rfl rfl (by (try simp only [List.map_toArray, List.map_cons, List.map_nil]); first | done | rfl | (simp only [List.length_drop, List.length_take]; rfl)) ?_
     with_reducible refine (lodgerref05_May.calls k a0_0 a0_1 _ _ l0_2 a0_3 a0_4 a0_5 a0_6 true _ ?side1 ?side2 A8.out).mono ?_
     (case side1 => repeat (first | exact (Kd.C_below HR0_2.out HB.out) | (with_reducible refine Kd.C_alloc ?_ _) | (with_reducible refine Kd.C_drewN ?_ _) | (with_reducible refine Kd.C_drew ?_)))
     (case side2 => exact HC0_2.out)
     rintro e w13 ⟨rfl, hb⟩
     refine ⟨_, rfl, ?_⟩
     have n0_ := Aside0.mk (blk_below (g := gb283) (o := .cells #[.int .u32 a0_0, .int .i64 a0_1, .slice A0_2 l0_2.length c0_2, .int .i64 a0_3, .int .i64 a0_4, .int .i64 a0_5, .int .i64 a0_6] 27 (0, 0)) (by (with_reducible repeat (first | refine blk_drewN ?_ _ | refine blk_drew ?_ | refine blk_alloc ?_ _)); exact BK283.out) hb)
     have n1_ := Aside0.mk (below_step (by repeat (first | (with_reducible first | exact HB.out | apply below_alloc | apply pw_below_drewN | apply below_drew1 | refine below_set ?_ GE283.out) | exact HB.out)) hb)
     clear BK283
     clear HB
     have BK283 := n0_
     have HB := n1_
     clear n0_ n1_
     (try clear hb)
     (try clear hb2)
     (try clear hk)
     (try clear hi)
     refine hK.out _ _ ⟨(blk_cell BK283.out 0).trans rfl, (blk_cell BK283.out 1).trans rfl, (blk_cell BK283.out 2).trans rfl, (blk_cell BK283.out 3).trans rfl, (blk_cell BK283.out 4).trans rfl, (blk_cell BK283.out 5).trans rfl, (blk_cell BK283.out 6).trans rfl⟩ (fun hHeld => ?_)
     clear hK K
     refine norm_ (a' := ?_) ?_ ?_
     rotate_left
     ·show Act.put _ (some 11) _ = _
      simp only [Act.put, List.setIfInBounds_toArray, List.set_cons_zero, List.set_cons_succ, i64_w, i32_w]
      rfl
     refine pu_ (i := 5) (N := some 12) (tf 21 63) HT_ ?_
     refine pu_ (i := 6) (N := some 13) (tf 21 127) HT_ ?_
     refine pu_ (i := 7) (N := some 14) (tf 21 255) HT_ ?_
     refine pu_ (i := 8) (N := some 15) (tf 21 511) HT_ ?_
     refine pu_ (i := 9) (N := some 16) (tf 21 1023) HT_ ?_
     refine pu_ (i := 10) (N := some 17) (tf 21 2047) HT_ ?_
     refine pu_ (i := 11) (N := some 18) (tf 21 4095) HT_ ?_
     refine pu_ (i := 12) (N := some 19) (tf 21 8191) HT_ ?_
     refine pure_ (i := 13) (N := some 20) (v := undef) (a' := ?_) #[true, true, true, true, true, true, true, true, true, true, true, true, true, true, false, false, false, false, false, false, false] rfl rfl (any_of HT_.out (by kernel_rfl)) (fun _ _ _ h => h) (Or.inr ⟨by rfl, rfl⟩) ?_ ?_
     rotate_left
     ·simp only [Act.put, List.setIfInBounds_toArray, List.set_cons_zero, List.set_cons_succ, i64_w, i32_w]
      rfl
     refine pure_ (i := 14) (N := some 21) (v := undef) (a' := ?_) #[true, true, true, true, true, true, true, true, true, true, true, true, true, true, true, false, false, false, false, false, false] rfl rfl (any_of HT_.out (by kernel_rfl)) (fun _ _ _ h => h) (Or.inr ⟨by rfl, rfl⟩) ?_ ?_
     rotate_left
     ·simp only [Act.put, List.setIfInBounds_toArray, List.set_cons_zero, List.set_cons_succ, i64_w, i32_w]
      rfl
     refine pure_ (i := 15) (N := some 22) (v := undef) (a' := ?_) #[true, true, true, true, true, true, true, true, true, true, true, true, true, true, true, true, false, false, false, false, false] rfl rfl (any_of HT_.out (by kernel_rfl)) (fun _ _ _ h => h) (Or.inr ⟨by rfl, rfl⟩) ?_ ?_
     rotate_left
     ·simp only [Act.put, List.setIfInBounds_toArray, List.set_cons_zero, List.set_cons_succ, i64_w, i32_w]
      rfl
     refine pure_ (i := 16) (N := some 23) (v := undef) (a' := ?_) #[true, true, true, true, true, true, true, true, true, true, true, true, true, true, true, true, true, false, false, false, false] rfl rfl (any_of HT_.out (by kernel_rfl)) (fun _ _ _ h => h) (Or.inr ⟨by rfl, rfl⟩) ?_ ?_
     rotate_left
     ·simp only [Act.put, List.setIfInBounds_toArray, List.set_cons_zero, List.set_cons_succ, i64_w, i32_w]
      rfl
     refine pure_ (i := 17) (N := some 24) (v := undef) (a' := ?_) #[true, true, true, true, true, true, true, true, true, true, true, true, true, true, true, true, true, true, false, false, false] rfl rfl (any_of HT_.out (by kernel_rfl)) (fun _ _ _ h => h) (Or.inr ⟨by rfl, rfl⟩) ?_ ?_
     rotate_left
     ·simp only [Act.put, List.setIfInBounds_toArray, List.set_cons_zero, List.set_cons_succ, i64_w, i32_w]
      rfl
     refine pure_ (i := 18) (N := some 25) (v := undef) (a' := ?_) #[true, true, true, true, true, true, true, true, true, true, true, true, true, true, true, true, true, true, true, false, false] rfl rfl (any_of HT_.out (by kernel_rfl)) (fun _ _ _ h => h) (Or.inr ⟨by rfl, rfl⟩) ?_ ?_
     rotate_left
     ·simp only [Act.put, List.setIfInBounds_toArray, List.set_cons_zero, List.set_cons_succ, i64_w, i32_w]
      rfl
     refine pure_ (i := 19) (N := some 26) (v := undef) (a' := ?_) #[true, true, true, true, true, true, true, true, true, true, true, true, true, true, true, true, true, true, true, true, false] rfl rfl (any_of HT_.out (by kernel_rfl)) (fun _ _ _ h => h) (Or.inr ⟨by rfl, rfl⟩) ?_ ?_
     rotate_left
     ·simp only [Act.put, List.setIfInBounds_toArray, List.set_cons_zero, List.set_cons_succ, i64_w, i32_w]
      rfl
     refine pu_ (i := 20) (N := some 27) (tf 21 2097151) HT_ ?_
     refine done_ (done_of HT_.out (by kernel_rfl)) ?_
     try go_wp2
     go_meet
     case rel => exact ⟨_, (true), (by first | rfl | (simp; done) | (simp [*]; done)), H', ⟨by first | omega | exact Nat.le_refl _⟩, ⟨by (with_reducible repeat (first | refine blk_drewN ?_ _ | refine blk_drew ?_ | refine blk_alloc ?_ _)); exact BK283.out⟩, ⟨by repeat (first | (with_reducible first | exact HB.out | apply below_alloc | apply pw_below_drewN | apply below_drew1 | refine below_set ?_ GE283.out) | exact HB.out)⟩⟩
    ·rw [if_neg c10] at H
     have c10b0 : decide (300 < (l1.length : Int)) = false := decide_eq_false c10
     have c10b1 : decide (300 < l1.length) = false := decide_eq_false (by omega)
     clear c10
     (first | rw [c10b0] | (simp only [i64_w, i32_w]; rw [c10b0]) | skip)
     replace H := Option.bind_eq_some_iff.mp H
     obtain ⟨t286, A140, H⟩ := H
     replace H : ((lodgerref09_May.f k a0_0 a0_1 l0_2 a0_3 a0_4 a0_5 a0_6 l1).bind fun t287 => (lodgerlaw09_ModelSets.j0 k l1 a2 (t286 != t287) a0_0 a0_1 l0_2 a0_3 a0_4 a0_5 a0_6)) = some r := H
     have A14 := Aside0.mk A140
     clear A140
     replace H := Option.bind_eq_some_iff.mp H
     obtain ⟨t287, A150, H⟩ := H
     replace H : (lodgerlaw09_ModelSets.j0 k l1 a2 (t286 != t287) a0_0 a0_1 l0_2 a0_3 a0_4 a0_5 a0_6) = some r := H
     have A15 := Aside0.mk A150
     clear A150
     have H' := Aside0.mk H
     clear H
     try go_wp2
     have n0_ := Aside0.mk (blk_drew BK283.out)
     have n1_ := Aside0.mk (below_drew1 HB.out)
     clear BK283
     clear HB
     have BK283 := n0_
     have HB := n1_
     clear n0_ n1_
     refine start_ (n := 21) (S := fun w' => w'.cell? ⟨gb283, 0, none⟩ = some (.int .u32 a0_0) ∧ w'.cell? ⟨gb283, 1, none⟩ = some (.int .i64 a0_1) ∧ w'.cell? ⟨gb283, 2, none⟩ = some (.slice A0_2 l0_2.length c0_2) ∧ w'.cell? ⟨gb283, 3, none⟩ = some (.int .i64 a0_3) ∧ w'.cell? ⟨gb283, 4, none⟩ = some (.int .i64 a0_4) ∧ w'.cell? ⟨gb283, 5, none⟩ = some (.int .i64 a0_5) ∧ w'.cell? ⟨gb283, 6, none⟩ = some (.int .i64 a0_6)) (ds := []) #[false, false, false, false, false, false, false, false, false, false, false, false, false, false, false, false, false, false, false, false, false] (by kernel_rfl) rfl rfl ⟨(blk_cell BK283.out 0).trans rfl, (blk_cell BK283.out 1).trans rfl, (blk_cell BK283.out 2).trans rfl, (blk_cell BK283.out 3).trans rfl, (blk_cell BK283.out 4).trans rfl, (blk_cell BK283.out 5).trans rfl, (blk_cell BK283.out 6).trans rfl⟩ (fun hHeld => ?_); refine with_tabW lodgerlaw09_ModelSets.tab1 lodgerlaw09_ModelSets.bits1 (fun HT_ HW_ => ?_)
     generalize w5.drew = w16 at BK283 HB hHeld ⊢
     refine one_ (i := 0) (N := some 7) #[true, false, false, false, false, false, false, false, false, false, false, false, false, false, false, false, false, false, false, false, false] rfl rfl (one_of HT_.out (by kernel_rfl)) (by decide) (fun K hK => ?_)
     refine goes_ Try.func9 (by kernel_rfl) rfl #[] (by rfl) rfl rfl (by (try simp only [List.map_toArray, List.map_cons, List.map_nil]); first | done | rfl | (simp only [List.length_drop, List.length_take]; rfl)) ?_
     with_reducible refine (lodgerlaw09_awake.calls k  true _ A6.out).mono ?_
     rintro e w17 ⟨rfl, hb⟩
     refine ⟨_, rfl, ?_⟩
     have n0_ := Aside0.mk (blk_below (g := gb283) (o := .cells #[.int .u32 a0_0, .int .i64 a0_1, .slice A0_2 l0_2.length c0_2, .int .i64 a0_3, .int .i64 a0_4, .int .i64 a0_5, .int .i64 a0_6] 27 (0, 0)) (by (with_reducible repeat (first | refine blk_drewN ?_ _ | refine blk_drew ?_ | refine blk_alloc ?_ _)); exact BK283.out) hb)
     have n1_ := Aside0.mk (below_step (by repeat (first | (with_reducible first | exact HB.out | apply below_alloc | apply pw_below_drewN | apply below_drew1 | refine below_set ?_ GE283.out) | exact HB.out)) hb)
     clear BK283
     clear HB
     have BK283 := n0_
     have HB := n1_
     clear n0_ n1_
     (try clear hb)
     (try clear hb2)
     (try clear hk)
     (try clear hi)
     refine hK.out _ _ ⟨(blk_cell BK283.out 0).trans rfl, (blk_cell BK283.out 1).trans rfl, (blk_cell BK283.out 2).trans rfl, (blk_cell BK283.out 3).trans rfl, (blk_cell BK283.out 4).trans rfl, (blk_cell BK283.out 5).trans rfl, (blk_cell BK283.out 6).trans rfl⟩ (fun hHeld => ?_)
     clear hK K
     refine norm_ (a' := ?_) ?_ ?_
     rotate_left
     ·show Act.put _ (some 7) _ = _
      simp only [Act.put, List.setIfInBounds_toArray, List.set_cons_zero, List.set_cons_succ, i64_w, i32_w]
      rfl
     refine pu_ (i := 1) (N := some 8) (tf 21 3) HT_ ?_
     refine pu_ (i := 2) (N := some 9) (tf 21 7) HT_ ?_
     refine tk_ (i := 3) (N := some 10) (tf 21 15) rfl rfl HT_ HW_ hHeld (by rintro w' ⟨s0, s1, s2, s3, s4, s5, s6⟩; go_simp; with_reducible rfl) ?_
     refine one_ (i := 4) (N := some 11) #[true, true, true, true, true, false, false, false, false, false, false, false, false, false, false, false, false, false, false, false, false] rfl rfl (one_of HT_.out (by kernel_rfl)) (by decide) (fun K hK => ?_)
     refine goes_ Try.func10 (by kernel_rfl) rfl #[.agg #[.int .u32 a0_0, .int .i64 a0_1, .slice A0_2 l0_2.length c0_2, .int .i64 a0_3, .int .i64 a0_4, .int .i64 a0_5, .int .i64 a0_6]] (by rfl) rfl rfl (by (try simp only [List.map_toArray, List.map_cons, List.map_nil]); first | done | rfl | (simp only [List.length_drop, List.length_take]; rfl)) ?_
     with_reducible refine (lodgerref05_May.calls k a0_0 a0_1 _ _ l0_2 a0_3 a0_4 a0_5 a0_6 true _ ?side1 ?side2 A8.out).mono ?_
     (case side1 => repeat (first | exact (Kd.C_below HR0_2.out HB.out) | (with_reducible refine Kd.C_alloc ?_ _) | (with_reducible refine Kd.C_drewN ?_ _) | (with_reducible refine Kd.C_drew ?_)))
     (case side2 => exact HC0_2.out)
     rintro e w18 ⟨rfl, hb⟩
     refine ⟨_, rfl, ?_⟩
     have n0_ := Aside0.mk (blk_below (g := gb283) (o := .cells #[.int .u32 a0_0, .int .i64 a0_1, .slice A0_2 l0_2.length c0_2, .int .i64 a0_3, .int .i64 a0_4, .int .i64 a0_5, .int .i64 a0_6] 27 (0, 0)) (by (with_reducible repeat (first | refine blk_drewN ?_ _ | refine blk_drew ?_ | refine blk_alloc ?_ _)); exact BK283.out) hb)
     have n1_ := Aside0.mk (below_step (by repeat (first | (with_reducible first | exact HB.out | apply below_alloc | apply pw_below_drewN | apply below_drew1 | refine below_set ?_ GE283.out) | exact HB.out)) hb)
     clear BK283
     clear HB
     have BK283 := n0_
     have HB := n1_
     clear n0_ n1_
     (try clear hb)
     (try clear hb2)
     (try clear hk)
     (try clear hi)
     refine hK.out _ _ ⟨(blk_cell BK283.out 0).trans rfl, (blk_cell BK283.out 1).trans rfl, (blk_cell BK283.out 2).trans rfl, (blk_cell BK283.out 3).trans rfl, (blk_cell BK283.out 4).trans rfl, (blk_cell BK283.out 5).trans rfl, (blk_cell BK283.out 6).trans rfl⟩ (fun hHeld => ?_)
     clear hK K
     refine norm_ (a' := ?_) ?_ ?_
     rotate_left
     ·show Act.put _ (some 11) _ = _
      simp only [Act.put, List.setIfInBounds_toArray, List.set_cons_zero, List.set_cons_succ, i64_w, i32_w]
      rfl
     refine pu_ (i := 5) (N := some 12) (tf 21 63) HT_ ?_
     refine pu_ (i := 6) (N := some 13) (tf 21 127) HT_ ?_
     refine pu_ (i := 7) (N := some 14) (tf 21 255) HT_ ?_
     refine pu_ (i := 8) (N := some 15) (tf 21 511) HT_ ?_
     refine pu_ (i := 9) (N := some 16) (tf 21 1023) HT_ ?_
     refine pu_ (i := 10) (N := some 17) (tf 21 2047) HT_ ?_
     refine pu_ (i := 11) (N := some 18) (tf 21 4095) HT_ ?_
     refine pu_ (i := 12) (N := some 19) (tf 21 8191) HT_ ?_
     refine pu_ (i := 14) (N := some 21) (tf 21 24575) HT_ ?_
     refine pu_ (i := 17) (N := some 24) (tf 21 155647) HT_ ?_
     refine tk_ (i := 13) (N := some 20) (tf 21 163839) rfl rfl HT_ HW_ hHeld (by rintro w' ⟨s0, s1, s2, s3, s4, s5, s6⟩; go_simp; with_reducible rfl) ?_
     refine tk_ (i := 16) (N := some 23) (tf 21 229375) rfl rfl HT_ HW_ hHeld (by rintro w' ⟨s0, s1, s2, s3, s4, s5, s6⟩; go_simp; with_reducible rfl) ?_
     refine one_ (i := 15) (N := some 22) #[true, true, true, true, true, true, true, true, true, true, true, true, true, true, true, true, true, true, false, false, false] rfl rfl (one_of HT_.out (by kernel_rfl)) (by decide) (fun K hK => ?_)
     refine goes_ Try.func11 (by kernel_rfl) rfl #[.agg #[.int .u32 a0_0, .int .i64 a0_1, .slice A0_2 l0_2.length c0_2, .int .i64 a0_3, .int .i64 a0_4, .int .i64 a0_5, .int .i64 a0_6], .slice A1 l1.length c1] (by rfl) rfl rfl (by (try simp only [List.map_toArray, List.map_cons, List.map_nil]); first | done | rfl | (simp only [List.length_drop, List.length_take]; rfl)) ?_
     with_reducible refine (model_May.calls k a0_0 a0_1 _ _ l0_2 a0_3 a0_4 a0_5 a0_6 _ _ l1 t286 _ ?side1 ?side2 ?side3 ?side4 A14.out).mono ?_
     (case side1 => repeat (first | exact (Kd.C_below HR0_2.out HB.out) | (with_reducible refine Kd.C_alloc ?_ _) | (with_reducible refine Kd.C_drewN ?_ _) | (with_reducible refine Kd.C_drew ?_)))
     (case side2 => exact HC0_2.out)
     (case side3 => repeat (first | exact (Kd.C_below HR1.out HB.out) | (with_reducible refine Kd.C_alloc ?_ _) | (with_reducible refine Kd.C_drewN ?_ _) | (with_reducible refine Kd.C_drew ?_)))
     (case side4 => exact HC1.out)
     rintro e w19 ⟨rfl, hb⟩
     refine ⟨_, rfl, ?_⟩
     have n0_ := Aside0.mk (blk_below (g := gb283) (o := .cells #[.int .u32 a0_0, .int .i64 a0_1, .slice A0_2 l0_2.length c0_2, .int .i64 a0_3, .int .i64 a0_4, .int .i64 a0_5, .int .i64 a0_6] 27 (0, 0)) (by (with_reducible repeat (first | refine blk_drewN ?_ _ | refine blk_drew ?_ | refine blk_alloc ?_ _)); exact BK283.out) hb)
     have n1_ := Aside0.mk (below_step (by repeat (first | (with_reducible first | exact HB.out | apply below_alloc | apply pw_below_drewN | apply below_drew1 | refine below_set ?_ GE283.out) | exact HB.out)) hb)
     clear BK283
     clear HB
     have BK283 := n0_
     have HB := n1_
     clear n0_ n1_
     (try clear hb)
     (try clear hb2)
     (try clear hk)
     (try clear hi)
     refine hK.out _ _ ⟨(blk_cell BK283.out 0).trans rfl, (blk_cell BK283.out 1).trans rfl, (blk_cell BK283.out 2).trans rfl, (blk_cell BK283.out 3).trans rfl, (blk_cell BK283.out 4).trans rfl, (blk_cell BK283.out 5).trans rfl, (blk_cell BK283.out 6).trans rfl⟩ (fun hHeld => ?_)
     clear hK K
     refine norm_ (a' := ?_) ?_ ?_
     rotate_left
     ·show Act.put _ (some 22) _ = _
      simp only [Act.put, List.setIfInBounds_toArray, List.set_cons_zero, List.set_cons_succ, i64_w, i32_w]
      rfl
     refine one_ (i := 18) (N := some 25) #[true, true, true, true, true, true, true, true, true, true, true, true, true, true, true, true, true, true, true, false, false] rfl rfl (one_of HT_.out (by kernel_rfl)) (by decide) (fun K hK => ?_)
     refine goes_ Try.func12 (by kernel_rfl) rfl #[.agg #[.int .u32 a0_0, .int .i64 a0_1, .slice A0_2 l0_2.length c0_2, .int .i64 a0_3, .int .i64 a0_4, .int .i64 a0_5, .int .i64 a0_6], .slice A1 l1.length c1] (by rfl) rfl rfl (by (try simp only [List.map_toArray, List.map_cons, List.map_nil]); first | done | rfl | (simp only [List.length_drop, List.length_take]; rfl)) ?_
     with_reducible refine (lodgerref09_May.calls k a0_0 a0_1 _ _ l0_2 a0_3 a0_4 a0_5 a0_6 _ _ l1 t287 _ ?side1 ?side2 ?side3 ?side4 A15.out).mono ?_
     (case side1 => repeat (first | exact (Kd.C_below HR0_2.out HB.out) | (with_reducible refine Kd.C_alloc ?_ _) | (with_reducible refine Kd.C_drewN ?_ _) | (with_reducible refine Kd.C_drew ?_)))
     (case side2 => exact HC0_2.out)
     (case side3 => repeat (first | exact (Kd.C_below HR1.out HB.out) | (with_reducible refine Kd.C_alloc ?_ _) | (with_reducible refine Kd.C_drewN ?_ _) | (with_reducible refine Kd.C_drew ?_)))
     (case side4 => exact HC1.out)
     rintro e w20 ⟨rfl, hb⟩
     refine ⟨_, rfl, ?_⟩
     have n0_ := Aside0.mk (blk_below (g := gb283) (o := .cells #[.int .u32 a0_0, .int .i64 a0_1, .slice A0_2 l0_2.length c0_2, .int .i64 a0_3, .int .i64 a0_4, .int .i64 a0_5, .int .i64 a0_6] 27 (0, 0)) (by (with_reducible repeat (first | refine blk_drewN ?_ _ | refine blk_drew ?_ | refine blk_alloc ?_ _)); exact BK283.out) hb)
     have n1_ := Aside0.mk (below_step (by repeat (first | (with_reducible first | exact HB.out | apply below_alloc | apply pw_below_drewN | apply below_drew1 | refine below_set ?_ GE283.out) | exact HB.out)) hb)
     clear BK283
     clear HB
     have BK283 := n0_
     have HB := n1_
     clear n0_ n1_
     (try clear hb)
     (try clear hb2)
     (try clear hk)
     (try clear hi)
     refine hK.out _ _ ⟨(blk_cell BK283.out 0).trans rfl, (blk_cell BK283.out 1).trans rfl, (blk_cell BK283.out 2).trans rfl, (blk_cell BK283.out 3).trans rfl, (blk_cell BK283.out 4).trans rfl, (blk_cell BK283.out 5).trans rfl, (blk_cell BK283.out 6).trans rfl⟩ (fun hHeld => ?_)
     clear hK K
     refine norm_ (a' := ?_) ?_ ?_
     rotate_left
     ·show Act.put _ (some 25) _ = _
      simp only [Act.put, List.setIfInBounds_toArray, List.set_cons_zero, List.set_cons_succ, i64_w, i32_w]
      rfl
     refine pu_ (i := 19) (N := some 26) (tf 21 1048575) HT_ ?_
     refine pu_ (i := 20) (N := some 27) (tf 21 2097151) HT_ ?_
     refine done_ (done_of HT_.out (by kernel_rfl)) ?_
     try go_wp2
     go_meet
     case rel => exact ⟨_, ((t286 != t287)), (by first | rfl | (simp; done) | (simp [*]; done)), H', ⟨by first | omega | exact Nat.le_refl _⟩, ⟨by (with_reducible repeat (first | refine blk_drewN ?_ _ | refine blk_drew ?_ | refine blk_alloc ?_ _)); exact BK283.out⟩, ⟨by repeat (first | (with_reducible first | exact HB.out | apply below_alloc | apply pw_below_drewN | apply below_drew1 | refine below_set ?_ GE283.out) | exact HB.out)⟩⟩
   ·replace c9 := Bool.eq_false_iff.mpr c9
    subst c9
    have H1 : (lodgerlaw09_ModelSets.j0 k l1 a2 true a0_0 a0_1 l0_2 a0_3 a0_4 a0_5 a0_6) = some r := by rw [if_neg (show ¬ (false = true) by decide)] at H; exact H
    clear H
    have H := H1
    clear H1
    have H' := Aside0.mk H
    clear H
    try go_wp2
    have n0_ := Aside0.mk (blk_drew BK283.out)
    have n1_ := Aside0.mk (below_drew1 HB.out)
    clear BK283
    clear HB
    have BK283 := n0_
    have HB := n1_
    clear n0_ n1_
    refine start_ (n := 21) (S := fun w' => w'.cell? ⟨gb283, 0, none⟩ = some (.int .u32 a0_0) ∧ w'.cell? ⟨gb283, 1, none⟩ = some (.int .i64 a0_1) ∧ w'.cell? ⟨gb283, 2, none⟩ = some (.slice A0_2 l0_2.length c0_2) ∧ w'.cell? ⟨gb283, 3, none⟩ = some (.int .i64 a0_3) ∧ w'.cell? ⟨gb283, 4, none⟩ = some (.int .i64 a0_4) ∧ w'.cell? ⟨gb283, 5, none⟩ = some (.int .i64 a0_5) ∧ w'.cell? ⟨gb283, 6, none⟩ = some (.int .i64 a0_6)) (ds := []) #[false, false, false, false, false, false, false, false, false, false, false, false, false, false, false, false, false, false, false, false, false] (by kernel_rfl) rfl rfl ⟨(blk_cell BK283.out 0).trans rfl, (blk_cell BK283.out 1).trans rfl, (blk_cell BK283.out 2).trans rfl, (blk_cell BK283.out 3).trans rfl, (blk_cell BK283.out 4).trans rfl, (blk_cell BK283.out 5).trans rfl, (blk_cell BK283.out 6).trans rfl⟩ (fun hHeld => ?_); refine with_tabW lodgerlaw09_ModelSets.tab1 lodgerlaw09_ModelSets.bits1 (fun HT_ HW_ => ?_)
    generalize w5.drew = w21 at BK283 HB hHeld ⊢
    refine one_ (i := 0) (N := some 7) #[true, false, false, false, false, false, false, false, false, false, false, false, false, false, false, false, false, false, false, false, false] rfl rfl (one_of HT_.out (by kernel_rfl)) (by decide) (fun K hK => ?_)
    refine goes_ Try.func9 (by kernel_rfl) rfl #[] (by rfl) rfl rfl (by (try simp only [List.map_toArray, List.map_cons, List.map_nil]); first | done | rfl | (simp only [List.length_drop, List.length_take]; rfl)) ?_
    with_reducible refine (lodgerlaw09_awake.calls k  true _ A6.out).mono ?_
    rintro e w22 ⟨rfl, hb⟩
    refine ⟨_, rfl, ?_⟩
    have n0_ := Aside0.mk (blk_below (g := gb283) (o := .cells #[.int .u32 a0_0, .int .i64 a0_1, .slice A0_2 l0_2.length c0_2, .int .i64 a0_3, .int .i64 a0_4, .int .i64 a0_5, .int .i64 a0_6] 27 (0, 0)) (by (with_reducible repeat (first | refine blk_drewN ?_ _ | refine blk_drew ?_ | refine blk_alloc ?_ _)); exact BK283.out) hb)
    have n1_ := Aside0.mk (below_step (by repeat (first | (with_reducible first | exact HB.out | apply below_alloc | apply pw_below_drewN | apply below_drew1 | refine below_set ?_ GE283.out) | exact HB.out)) hb)
    clear BK283
    clear HB
    have BK283 := n0_
    have HB := n1_
    clear n0_ n1_
    (try clear hb)
    (try clear hb2)
    (try clear hk)
    (try clear hi)
    refine hK.out _ _ ⟨(blk_cell BK283.out 0).trans rfl, (blk_cell BK283.out 1).trans rfl, (blk_cell BK283.out 2).trans rfl, (blk_cell BK283.out 3).trans rfl, (blk_cell BK283.out 4).trans rfl, (blk_cell BK283.out 5).trans rfl, (blk_cell BK283.out 6).trans rfl⟩ (fun hHeld => ?_)
    clear hK K
    refine norm_ (a' := ?_) ?_ ?_
    rotate_left
    ·show Act.put _ (some 7) _ = _
     simp only [Act.put, List.setIfInBounds_toArray, List.set_cons_zero, List.set_cons_succ, i64_w, i32_w]
     rfl
    refine pu_ (i := 1) (N := some 8) (tf 21 3) HT_ ?_
    refine pu_ (i := 2) (N := some 9) (tf 21 7) HT_ ?_
    refine tk_ (i := 3) (N := some 10) (tf 21 15) rfl rfl HT_ HW_ hHeld (by rintro w' ⟨s0, s1, s2, s3, s4, s5, s6⟩; go_simp; with_reducible rfl) ?_
    refine one_ (i := 4) (N := some 11) #[true, true, true, true, true, false, false, false, false, false, false, false, false, false, false, false, false, false, false, false, false] rfl rfl (one_of HT_.out (by kernel_rfl)) (by decide) (fun K hK => ?_)
    refine goes_ Try.func10 (by kernel_rfl) rfl #[.agg #[.int .u32 a0_0, .int .i64 a0_1, .slice A0_2 l0_2.length c0_2, .int .i64 a0_3, .int .i64 a0_4, .int .i64 a0_5, .int .i64 a0_6]] (by rfl) rfl rfl (by (try simp only [List.map_toArray, List.map_cons, List.map_nil]); first | done | rfl | (simp only [List.length_drop, List.length_take]; rfl)) ?_
    with_reducible refine (lodgerref05_May.calls k a0_0 a0_1 _ _ l0_2 a0_3 a0_4 a0_5 a0_6 false _ ?side1 ?side2 A8.out).mono ?_
    (case side1 => repeat (first | exact (Kd.C_below HR0_2.out HB.out) | (with_reducible refine Kd.C_alloc ?_ _) | (with_reducible refine Kd.C_drewN ?_ _) | (with_reducible refine Kd.C_drew ?_)))
    (case side2 => exact HC0_2.out)
    rintro e w23 ⟨rfl, hb⟩
    refine ⟨_, rfl, ?_⟩
    have n0_ := Aside0.mk (blk_below (g := gb283) (o := .cells #[.int .u32 a0_0, .int .i64 a0_1, .slice A0_2 l0_2.length c0_2, .int .i64 a0_3, .int .i64 a0_4, .int .i64 a0_5, .int .i64 a0_6] 27 (0, 0)) (by (with_reducible repeat (first | refine blk_drewN ?_ _ | refine blk_drew ?_ | refine blk_alloc ?_ _)); exact BK283.out) hb)
    have n1_ := Aside0.mk (below_step (by repeat (first | (with_reducible first | exact HB.out | apply below_alloc | apply pw_below_drewN | apply below_drew1 | refine below_set ?_ GE283.out) | exact HB.out)) hb)
    clear BK283
    clear HB
    have BK283 := n0_
    have HB := n1_
    clear n0_ n1_
    (try clear hb)
    (try clear hb2)
    (try clear hk)
    (try clear hi)
    refine hK.out _ _ ⟨(blk_cell BK283.out 0).trans rfl, (blk_cell BK283.out 1).trans rfl, (blk_cell BK283.out 2).trans rfl, (blk_cell BK283.out 3).trans rfl, (blk_cell BK283.out 4).trans rfl, (blk_cell BK283.out 5).trans rfl, (blk_cell BK283.out 6).trans rfl⟩ (fun hHeld => ?_)
    clear hK K
    refine norm_ (a' := ?_) ?_ ?_
    rotate_left
    ·show Act.put _ (some 11) _ = _
     simp only [Act.put, List.setIfInBounds_toArray, List.set_cons_zero, List.set_cons_succ, i64_w, i32_w]
     rfl
    refine pu_ (i := 5) (N := some 12) (tf 21 63) HT_ ?_
    refine pu_ (i := 6) (N := some 13) (tf 21 127) HT_ ?_
    refine pu_ (i := 7) (N := some 14) (tf 21 255) HT_ ?_
    refine pure_ (i := 8) (N := some 15) (v := undef) (a' := ?_) #[true, true, true, true, true, true, true, true, true, false, false, false, false, false, false, false, false, false, false, false, false] rfl rfl (any_of HT_.out (by kernel_rfl)) (fun _ _ _ h => h) (Or.inr ⟨by rfl, rfl⟩) ?_ ?_
    rotate_left
    ·simp only [Act.put, List.setIfInBounds_toArray, List.set_cons_zero, List.set_cons_succ, i64_w, i32_w]
     rfl
    refine pure_ (i := 9) (N := some 16) (v := undef) (a' := ?_) #[true, true, true, true, true, true, true, true, true, true, false, false, false, false, false, false, false, false, false, false, false] rfl rfl (any_of HT_.out (by kernel_rfl)) (fun _ _ _ h => h) (Or.inr ⟨by rfl, rfl⟩) ?_ ?_
    rotate_left
    ·simp only [Act.put, List.setIfInBounds_toArray, List.set_cons_zero, List.set_cons_succ, i64_w, i32_w]
     rfl
    refine pure_ (i := 10) (N := some 17) (v := undef) (a' := ?_) #[true, true, true, true, true, true, true, true, true, true, true, false, false, false, false, false, false, false, false, false, false] rfl rfl (any_of HT_.out (by kernel_rfl)) (fun _ _ _ h => h) (Or.inr ⟨by rfl, rfl⟩) ?_ ?_
    rotate_left
    ·simp only [Act.put, List.setIfInBounds_toArray, List.set_cons_zero, List.set_cons_succ, i64_w, i32_w]
     rfl
    refine pu_ (i := 11) (N := some 18) (tf 21 4095) HT_ ?_
    refine pu_ (i := 12) (N := some 19) (tf 21 8191) HT_ ?_
    refine pure_ (i := 13) (N := some 20) (v := undef) (a' := ?_) #[true, true, true, true, true, true, true, true, true, true, true, true, true, true, false, false, false, false, false, false, false] rfl rfl (any_of HT_.out (by kernel_rfl)) (fun _ _ _ h => h) (Or.inr ⟨by rfl, rfl⟩) ?_ ?_
    rotate_left
    ·simp only [Act.put, List.setIfInBounds_toArray, List.set_cons_zero, List.set_cons_succ, i64_w, i32_w]
     rfl
    refine pure_ (i := 14) (N := some 21) (v := undef) (a' := ?_) #[true, true, true, true, true, true, true, true, true, true, true, true, true, true, true, false, false, false, false, false, false] rfl rfl (any_of HT_.out (by kernel_rfl)) (fun _ _ _ h => h) (Or.inr ⟨by rfl, rfl⟩) ?_ ?_
    rotate_left
    ·simp only [Act.put, List.setIfInBounds_toArray, List.set_cons_zero, List.set_cons_succ, i64_w, i32_w]
     rfl
    refine pure_ (i := 15) (N := some 22) (v := undef) (a' := ?_) #[true, true, true, true, true, true, true, true, true, true, true, true, true, true, true, true, false, false, false, false, false] rfl rfl (any_of HT_.out (by kernel_rfl)) (fun _ _ _ h => h) (Or.inr ⟨by rfl, rfl⟩) ?_ ?_
    rotate_left
    ·simp only [Act.put, List.setIfInBounds_toArray, List.set_cons_zero, List.set_cons_succ, i64_w, i32_w]
     rfl
    refine pure_ (i := 16) (N := some 23) (v := undef) (a' := ?_) #[true, true, true, true, true, true, true, true, true, true, true, true, true, true, true, true, true, false, false, false, false] rfl rfl (any_of HT_.out (by kernel_rfl)) (fun _ _ _ h => h) (Or.inr ⟨by rfl, rfl⟩) ?_ ?_
    rotate_left
    ·simp only [Act.put, List.setIfInBounds_toArray, List.set_cons_zero, List.set_cons_succ, i64_w, i32_w]
     rfl
    refine pure_ (i := 17) (N := some 24) (v := undef) (a' := ?_) #[true, true, true, true, true, true, true, true, true, true, true, true, true, true, true, true, true, true, false, false, false] rfl rfl (any_of HT_.out (by kernel_rfl)) (fun _ _ _ h => h) (Or.inr ⟨by rfl, rfl⟩) ?_ ?_
    rotate_left
    ·simp only [Act.put, List.setIfInBounds_toArray, List.set_cons_zero, List.set_cons_succ, i64_w, i32_w]
     rfl
    refine pure_ (i := 18) (N := some 25) (v := undef) (a' := ?_) #[true, true, true, true, true, true, true, true, true, true, true, true, true, true, true, true, true, true, true, false, false] rfl rfl (any_of HT_.out (by kernel_rfl)) (fun _ _ _ h => h) (Or.inr ⟨by rfl, rfl⟩) ?_ ?_
    rotate_left
    ·simp only [Act.put, List.setIfInBounds_toArray, List.set_cons_zero, List.set_cons_succ, i64_w, i32_w]
     rfl
    refine pure_ (i := 19) (N := some 26) (v := undef) (a' := ?_) #[true, true, true, true, true, true, true, true, true, true, true, true, true, true, true, true, true, true, true, true, false] rfl rfl (any_of HT_.out (by kernel_rfl)) (fun _ _ _ h => h) (Or.inr ⟨by rfl, rfl⟩) ?_ ?_
    rotate_left
    ·simp only [Act.put, List.setIfInBounds_toArray, List.set_cons_zero, List.set_cons_succ, i64_w, i32_w]
     rfl
    refine pu_ (i := 20) (N := some 27) (tf 21 2097151) HT_ ?_
    refine done_ (done_of HT_.out (by kernel_rfl)) ?_
    try go_wp2
    go_meet
    case rel => exact ⟨_, (true), (by first | rfl | (simp; done) | (simp [*]; done)), H', ⟨by first | omega | exact Nat.le_refl _⟩, ⟨by (with_reducible repeat (first | refine blk_drewN ?_ _ | refine blk_drew ?_ | refine blk_alloc ?_ _)); exact BK283.out⟩, ⟨by repeat (first | (with_reducible first | exact HB.out | apply below_alloc | apply pw_below_drewN | apply below_drew1 | refine below_set ?_ GE283.out) | exact HB.out)⟩⟩
  ·replace c7 := Bool.eq_false_iff.mpr c7
   subst c7
   have H1 : (lodgerlaw09_ModelSets.j0 k l1 a2 true a0_0 a0_1 l0_2 a0_3 a0_4 a0_5 a0_6) = some r := by rw [if_neg (show ¬ (false = true) by decide)] at H; exact H
   clear H
   have H := H1
   clear H1
   have H' := Aside0.mk H
   clear H
   try go_wp2
   have n0_ := Aside0.mk (blk_drew BK283.out)
   have n1_ := Aside0.mk (below_drew1 HB.out)
   clear BK283
   clear HB
   have BK283 := n0_
   have HB := n1_
   clear n0_ n1_
   refine start_ (n := 21) (S := fun w' => True) (ds := []) #[false, false, false, false, false, false, false, false, false, false, false, false, false, false, false, false, false, false, false, false, false] (by kernel_rfl) rfl rfl trivial (fun hHeld => ?_); refine with_tabW lodgerlaw09_ModelSets.tab1 lodgerlaw09_ModelSets.bits1 (fun HT_ HW_ => ?_)
   generalize w5.drew = w24 at BK283 HB hHeld ⊢
   refine one_ (i := 0) (N := some 7) #[true, false, false, false, false, false, false, false, false, false, false, false, false, false, false, false, false, false, false, false, false] rfl rfl (one_of HT_.out (by kernel_rfl)) (by decide) (fun K hK => ?_)
   refine goes_ Try.func9 (by kernel_rfl) rfl #[] (by rfl) rfl rfl (by (try simp only [List.map_toArray, List.map_cons, List.map_nil]); first | done | rfl | (simp only [List.length_drop, List.length_take]; rfl)) ?_
   with_reducible refine (lodgerlaw09_awake.calls k  false _ A6.out).mono ?_
   rintro e w25 ⟨rfl, hb⟩
   refine ⟨_, rfl, ?_⟩
   have n0_ := Aside0.mk (blk_below (g := gb283) (o := .cells #[.int .u32 a0_0, .int .i64 a0_1, .slice A0_2 l0_2.length c0_2, .int .i64 a0_3, .int .i64 a0_4, .int .i64 a0_5, .int .i64 a0_6] 27 (0, 0)) (by (with_reducible repeat (first | refine blk_drewN ?_ _ | refine blk_drew ?_ | refine blk_alloc ?_ _)); exact BK283.out) hb)
   have n1_ := Aside0.mk (below_step (by repeat (first | (with_reducible first | exact HB.out | apply below_alloc | apply pw_below_drewN | apply below_drew1 | refine below_set ?_ GE283.out) | exact HB.out)) hb)
   clear BK283
   clear HB
   have BK283 := n0_
   have HB := n1_
   clear n0_ n1_
   (try clear hb)
   (try clear hb2)
   (try clear hk)
   (try clear hi)
   refine hK.out _ _ trivial (fun hHeld => ?_)
   clear hK K
   refine norm_ (a' := ?_) ?_ ?_
   rotate_left
   ·show Act.put _ (some 7) _ = _
    simp only [Act.put, List.setIfInBounds_toArray, List.set_cons_zero, List.set_cons_succ, i64_w, i32_w]
    rfl
   refine pu_ (i := 1) (N := some 8) (tf 21 3) HT_ ?_
   refine pu_ (i := 2) (N := some 9) (tf 21 7) HT_ ?_
   refine pure_ (i := 3) (N := some 10) (v := undef) (a' := ?_) #[true, true, true, true, false, false, false, false, false, false, false, false, false, false, false, false, false, false, false, false, false] rfl rfl (any_of HT_.out (by kernel_rfl)) (fun _ _ _ h => h) (Or.inr ⟨by rfl, rfl⟩) ?_ ?_
   rotate_left
   ·simp only [Act.put, List.setIfInBounds_toArray, List.set_cons_zero, List.set_cons_succ, i64_w, i32_w]
    rfl
   refine pure_ (i := 4) (N := some 11) (v := undef) (a' := ?_) #[true, true, true, true, true, false, false, false, false, false, false, false, false, false, false, false, false, false, false, false, false] rfl rfl (any_of HT_.out (by kernel_rfl)) (fun _ _ _ h => h) (Or.inr ⟨by rfl, rfl⟩) ?_ ?_
   rotate_left
   ·simp only [Act.put, List.setIfInBounds_toArray, List.set_cons_zero, List.set_cons_succ, i64_w, i32_w]
    rfl
   refine pure_ (i := 5) (N := some 12) (v := undef) (a' := ?_) #[true, true, true, true, true, true, false, false, false, false, false, false, false, false, false, false, false, false, false, false, false] rfl rfl (any_of HT_.out (by kernel_rfl)) (fun _ _ _ h => h) (Or.inr ⟨by rfl, rfl⟩) ?_ ?_
   rotate_left
   ·simp only [Act.put, List.setIfInBounds_toArray, List.set_cons_zero, List.set_cons_succ, i64_w, i32_w]
    rfl
   refine pu_ (i := 6) (N := some 13) (tf 21 127) HT_ ?_
   refine pu_ (i := 7) (N := some 14) (tf 21 255) HT_ ?_
   refine pure_ (i := 8) (N := some 15) (v := undef) (a' := ?_) #[true, true, true, true, true, true, true, true, true, false, false, false, false, false, false, false, false, false, false, false, false] rfl rfl (any_of HT_.out (by kernel_rfl)) (fun _ _ _ h => h) (Or.inr ⟨by rfl, rfl⟩) ?_ ?_
   rotate_left
   ·simp only [Act.put, List.setIfInBounds_toArray, List.set_cons_zero, List.set_cons_succ, i64_w, i32_w]
    rfl
   refine pure_ (i := 9) (N := some 16) (v := undef) (a' := ?_) #[true, true, true, true, true, true, true, true, true, true, false, false, false, false, false, false, false, false, false, false, false] rfl rfl (any_of HT_.out (by kernel_rfl)) (fun _ _ _ h => h) (Or.inr ⟨by rfl, rfl⟩) ?_ ?_
   rotate_left
   ·simp only [Act.put, List.setIfInBounds_toArray, List.set_cons_zero, List.set_cons_succ, i64_w, i32_w]
    rfl
   refine pure_ (i := 10) (N := some 17) (v := undef) (a' := ?_) #[true, true, true, true, true, true, true, true, true, true, true, false, false, false, false, false, false, false, false, false, false] rfl rfl (any_of HT_.out (by kernel_rfl)) (fun _ _ _ h => h) (Or.inr ⟨by rfl, rfl⟩) ?_ ?_
   rotate_left
   ·simp only [Act.put, List.setIfInBounds_toArray, List.set_cons_zero, List.set_cons_succ, i64_w, i32_w]
    rfl
   refine pu_ (i := 11) (N := some 18) (tf 21 4095) HT_ ?_
   refine pu_ (i := 12) (N := some 19) (tf 21 8191) HT_ ?_
   refine pure_ (i := 13) (N := some 20) (v := undef) (a' := ?_) #[true, true, true, true, true, true, true, true, true, true, true, true, true, true, false, false, false, false, false, false, false] rfl rfl (any_of HT_.out (by kernel_rfl)) (fun _ _ _ h => h) (Or.inr ⟨by rfl, rfl⟩) ?_ ?_
   rotate_left
   ·simp only [Act.put, List.setIfInBounds_toArray, List.set_cons_zero, List.set_cons_succ, i64_w, i32_w]
    rfl
   refine pure_ (i := 14) (N := some 21) (v := undef) (a' := ?_) #[true, true, true, true, true, true, true, true, true, true, true, true, true, true, true, false, false, false, false, false, false] rfl rfl (any_of HT_.out (by kernel_rfl)) (fun _ _ _ h => h) (Or.inr ⟨by rfl, rfl⟩) ?_ ?_
   rotate_left
   ·simp only [Act.put, List.setIfInBounds_toArray, List.set_cons_zero, List.set_cons_succ, i64_w, i32_w]
    rfl
   refine pure_ (i := 15) (N := some 22) (v := undef) (a' := ?_) #[true, true, true, true, true, true, true, true, true, true, true, true, true, true, true, true, false, false, false, false, false] rfl rfl (any_of HT_.out (by kernel_rfl)) (fun _ _ _ h => h) (Or.inr ⟨by rfl, rfl⟩) ?_ ?_
   rotate_left
   ·simp only [Act.put, List.setIfInBounds_toArray, List.set_cons_zero, List.set_cons_succ, i64_w, i32_w]
    rfl
   refine pure_ (i := 16) (N := some 23) (v := undef) (a' := ?_) #[true, true, true, true, true, true, true, true, true, true, true, true, true, true, true, true, true, false, false, false, false] rfl rfl (any_of HT_.out (by kernel_rfl)) (fun _ _ _ h => h) (Or.inr ⟨by rfl, rfl⟩) ?_ ?_
   rotate_left
   ·simp only [Act.put, List.setIfInBounds_toArray, List.set_cons_zero, List.set_cons_succ, i64_w, i32_w]
    rfl
   refine pure_ (i := 17) (N := some 24) (v := undef) (a' := ?_) #[true, true, true, true, true, true, true, true, true, true, true, true, true, true, true, true, true, true, false, false, false] rfl rfl (any_of HT_.out (by kernel_rfl)) (fun _ _ _ h => h) (Or.inr ⟨by rfl, rfl⟩) ?_ ?_
   rotate_left
   ·simp only [Act.put, List.setIfInBounds_toArray, List.set_cons_zero, List.set_cons_succ, i64_w, i32_w]
    rfl
   refine pure_ (i := 18) (N := some 25) (v := undef) (a' := ?_) #[true, true, true, true, true, true, true, true, true, true, true, true, true, true, true, true, true, true, true, false, false] rfl rfl (any_of HT_.out (by kernel_rfl)) (fun _ _ _ h => h) (Or.inr ⟨by rfl, rfl⟩) ?_ ?_
   rotate_left
   ·simp only [Act.put, List.setIfInBounds_toArray, List.set_cons_zero, List.set_cons_succ, i64_w, i32_w]
    rfl
   refine pure_ (i := 19) (N := some 26) (v := undef) (a' := ?_) #[true, true, true, true, true, true, true, true, true, true, true, true, true, true, true, true, true, true, true, true, false] rfl rfl (any_of HT_.out (by kernel_rfl)) (fun _ _ _ h => h) (Or.inr ⟨by rfl, rfl⟩) ?_ ?_
   rotate_left
   ·simp only [Act.put, List.setIfInBounds_toArray, List.set_cons_zero, List.set_cons_succ, i64_w, i32_w]
    rfl
   refine pu_ (i := 20) (N := some 27) (tf 21 2097151) HT_ ?_
   refine done_ (done_of HT_.out (by kernel_rfl)) ?_
   try go_wp2
   go_meet
   case rel => exact ⟨_, (true), (by first | rfl | (simp; done) | (simp [*]; done)), H', ⟨by first | omega | exact Nat.le_refl _⟩, ⟨by (with_reducible repeat (first | refine blk_drewN ?_ _ | refine blk_drew ?_ | refine blk_alloc ?_ _)); exact BK283.out⟩, ⟨by repeat (first | (with_reducible first | exact HB.out | apply below_alloc | apply pw_below_drewN | apply below_drew1 | refine below_set ?_ GE283.out) | exact HB.out)⟩⟩
 case rest =>
  clear HC4
  try clear c1
  try clear p2
  try clear c7
  try clear c9
  try clear c10
  try clear c11
  try clear c12
  obtain ⟨kq, x27_3, rfl, HA, HJ3, BK283, HB⟩ := hcut
  cases kq with
  | zero => exact absurd HA.out (by simp [lodgerlaw09_ModelSets.j0])
  | succ kj3 =>
   have H := HA.out
   clear HA
   simp only [lodgerlaw09_ModelSets.j0] at H
   by_cases c26 : x27_3 = true
   ·subst c26
    have H1 : ((lodgerlaw09_awake.f kj3).bind fun t288 => (if t288 = true then ((lodgerref05_May.f kj3 a0_0 a0_1 l0_2 a0_3 a0_4 a0_5 a0_6).bind fun t289 => (if t289 = true then (some (decide ((l1.length : Int) > 300))) else (some true))) else (some false))) = some r := by rw [if_pos rfl] at H; exact H
    clear H
    have H := H1
    clear H1
    replace H := Option.bind_eq_some_iff.mp H
    obtain ⟨t288, A270, H⟩ := H
    replace H : (if t288 = true then ((lodgerref05_May.f kj3 a0_0 a0_1 l0_2 a0_3 a0_4 a0_5 a0_6).bind fun t289 => (if t289 = true then (some (decide ((l1.length : Int) > 300))) else (some true))) else (some false)) = some r := H
    have A27 := Aside0.mk A270
    clear A270
    by_cases c28 : t288 = true
    ·subst c28
     have H1 : ((lodgerref05_May.f kj3 a0_0 a0_1 l0_2 a0_3 a0_4 a0_5 a0_6).bind fun t289 => (if t289 = true then (some (decide ((l1.length : Int) > 300))) else (some true))) = some r := by rw [if_pos rfl] at H; exact H
     clear H
     have H := H1
     clear H1
     replace H := Option.bind_eq_some_iff.mp H
     obtain ⟨t289, A290, H⟩ := H
     replace H : (if t289 = true then (some (decide ((l1.length : Int) > 300))) else (some true)) = some r := H
     have A29 := Aside0.mk A290
     clear A290
     by_cases c30 : t289 = true
     ·subst c30
      have H1 : (some (decide ((l1.length : Int) > 300))) = some r := by rw [if_pos rfl] at H; exact H
      clear H
      have H := H1
      clear H1
      first | (exfalso; rw [hr_.out] at H; exact absurd (Option.some.inj H) (by decide)) | (try clear hr_)
      all_goals
       obtain rfl := Option.some.inj H
       go_wp2_with (first | ((with_reducible refine gate_callee (f := 9) rfl ?_); refine goesL_ (some 28) rfl rfl Try.func9 (by kernel_rfl) rfl #[] rfl (by (try simp only [List.map_toArray, List.map_cons, List.map_nil]); first | done | rfl | (simp only [List.length_drop, List.length_take]; rfl)) ?_; (with_reducible refine (lodgerlaw09_awake.calls kj3  true _ A27.out).mono ?_); rintro e w31 ⟨rfl, hb⟩; refine ⟨_, rfl, ?_⟩; have n0_ := Aside0.mk (blk_below (g := gb283) (o := .cells #[.int .u32 a0_0, .int .i64 a0_1, .slice A0_2 l0_2.length c0_2, .int .i64 a0_3, .int .i64 a0_4, .int .i64 a0_5, .int .i64 a0_6] 27 (0, 0)) (by (with_reducible repeat (first | refine blk_drewN ?_ _ | refine blk_drew ?_ | refine blk_alloc ?_ _)); exact BK283.out) hb); have n1_ := Aside0.mk (below_step (by repeat (first | (with_reducible first | exact HB.out | apply below_alloc | apply pw_below_drewN | apply below_drew1 | refine below_set ?_ GE283.out) | exact HB.out)) hb); clear BK283; clear HB; have BK283 := n0_; have HB := n1_; clear n0_ n1_; (try clear hb); (try clear hb2); (try clear hk); (try clear hi); have hcz32_0 : w31.cell? ⟨gb283, 0, none⟩ = some (.int .u32 a0_0) := (blk_cell BK283.out 0).trans rfl; have hcz32_1 : w31.cell? ⟨gb283, 1, none⟩ = some (.int .i64 a0_1) := (blk_cell BK283.out 1).trans rfl; have hcz32_2 : w31.cell? ⟨gb283, 2, none⟩ = some (.slice A0_2 l0_2.length c0_2) := (blk_cell BK283.out 2).trans rfl; have hcz32_3 : w31.cell? ⟨gb283, 3, none⟩ = some (.int .i64 a0_3) := (blk_cell BK283.out 3).trans rfl; have hcz32_4 : w31.cell? ⟨gb283, 4, none⟩ = some (.int .i64 a0_4) := (blk_cell BK283.out 4).trans rfl; have hcz32_5 : w31.cell? ⟨gb283, 5, none⟩ = some (.int .i64 a0_5) := (blk_cell BK283.out 5).trans rfl; have hcz32_6 : w31.cell? ⟨gb283, 6, none⟩ = some (.int .i64 a0_6) := (blk_cell BK283.out 6).trans rfl; have hfz32_0 := blk_frozen BK283.out 0; have hfz32_1 := blk_frozen BK283.out 1; have hfz32_2 := blk_frozen BK283.out 2; have hfz32_3 := blk_frozen BK283.out 3; have hfz32_4 := blk_frozen BK283.out 4; have hfz32_5 := blk_frozen BK283.out 5; have hfz32_6 := blk_frozen BK283.out 6) | (go_at_call 10; (with_reducible refine (lodgerref05_May.calls kj3 a0_0 a0_1 _ _ l0_2 a0_3 a0_4 a0_5 a0_6 true _ ?side1 ?side2 A29.out).mono ?_); (case side1 => repeat (first | exact (Kd.C_below HR0_2.out HB.out) | (with_reducible refine Kd.C_alloc ?_ _) | (with_reducible refine Kd.C_drewN ?_ _) | (with_reducible refine Kd.C_drew ?_))); (case side2 => exact HC0_2.out); rintro e w33 ⟨rfl, hb⟩; have n0_ := Aside0.mk (blk_below (g := gb283) (o := .cells #[.int .u32 a0_0, .int .i64 a0_1, .slice A0_2 l0_2.length c0_2, .int .i64 a0_3, .int .i64 a0_4, .int .i64 a0_5, .int .i64 a0_6] 27 (0, 0)) (by (with_reducible repeat (first | refine blk_drewN ?_ _ | refine blk_drew ?_ | refine blk_alloc ?_ _)); exact BK283.out) hb); have n1_ := Aside0.mk (below_step (by repeat (first | (with_reducible first | exact HB.out | apply below_alloc | apply pw_below_drewN | apply below_drew1 | refine below_set ?_ GE283.out) | exact HB.out)) hb); clear BK283; clear HB; have BK283 := n0_; have HB := n1_; clear n0_ n1_; (try clear hb); (try clear hb2); (try clear hk); (try clear hi)))
       go_ret
       exact ⟨by first | rfl | (simp [errW_none, errW_some] <;> rfl) | (simp [*, errW_none, errW_some] <;> rfl), by repeat (first | (with_reducible first | exact HB.out | apply below_alloc | apply pw_below_drewN | apply below_drew1 | refine below_set ?_ GE283.out) | exact HB.out)⟩
     ·replace c30 := Bool.eq_false_iff.mpr c30
      subst c30
      have H1 : (some true) = some r := by rw [if_neg (show ¬ (false = true) by decide)] at H; exact H
      clear H
      have H := H1
      clear H1
      first | (exfalso; rw [hr_.out] at H; exact absurd (Option.some.inj H) (by decide)) | (try clear hr_)
      all_goals
       obtain rfl := Option.some.inj H
       go_wp2_with (first | ((with_reducible refine gate_callee (f := 9) rfl ?_); refine goesL_ (some 28) rfl rfl Try.func9 (by kernel_rfl) rfl #[] rfl (by (try simp only [List.map_toArray, List.map_cons, List.map_nil]); first | done | rfl | (simp only [List.length_drop, List.length_take]; rfl)) ?_; (with_reducible refine (lodgerlaw09_awake.calls kj3  true _ A27.out).mono ?_); rintro e w34 ⟨rfl, hb⟩; refine ⟨_, rfl, ?_⟩; have n0_ := Aside0.mk (blk_below (g := gb283) (o := .cells #[.int .u32 a0_0, .int .i64 a0_1, .slice A0_2 l0_2.length c0_2, .int .i64 a0_3, .int .i64 a0_4, .int .i64 a0_5, .int .i64 a0_6] 27 (0, 0)) (by (with_reducible repeat (first | refine blk_drewN ?_ _ | refine blk_drew ?_ | refine blk_alloc ?_ _)); exact BK283.out) hb); have n1_ := Aside0.mk (below_step (by repeat (first | (with_reducible first | exact HB.out | apply below_alloc | apply pw_below_drewN | apply below_drew1 | refine below_set ?_ GE283.out) | exact HB.out)) hb); clear BK283; clear HB; have BK283 := n0_; have HB := n1_; clear n0_ n1_; (try clear hb); (try clear hb2); (try clear hk); (try clear hi); have hcz35_0 : w34.cell? ⟨gb283, 0, none⟩ = some (.int .u32 a0_0) := (blk_cell BK283.out 0).trans rfl; have hcz35_1 : w34.cell? ⟨gb283, 1, none⟩ = some (.int .i64 a0_1) := (blk_cell BK283.out 1).trans rfl; have hcz35_2 : w34.cell? ⟨gb283, 2, none⟩ = some (.slice A0_2 l0_2.length c0_2) := (blk_cell BK283.out 2).trans rfl; have hcz35_3 : w34.cell? ⟨gb283, 3, none⟩ = some (.int .i64 a0_3) := (blk_cell BK283.out 3).trans rfl; have hcz35_4 : w34.cell? ⟨gb283, 4, none⟩ = some (.int .i64 a0_4) := (blk_cell BK283.out 4).trans rfl; have hcz35_5 : w34.cell? ⟨gb283, 5, none⟩ = some (.int .i64 a0_5) := (blk_cell BK283.out 5).trans rfl; have hcz35_6 : w34.cell? ⟨gb283, 6, none⟩ = some (.int .i64 a0_6) := (blk_cell BK283.out 6).trans rfl; have hfz35_0 := blk_frozen BK283.out 0; have hfz35_1 := blk_frozen BK283.out 1; have hfz35_2 := blk_frozen BK283.out 2; have hfz35_3 := blk_frozen BK283.out 3; have hfz35_4 := blk_frozen BK283.out 4; have hfz35_5 := blk_frozen BK283.out 5; have hfz35_6 := blk_frozen BK283.out 6) | (go_at_call 10; (with_reducible refine (lodgerref05_May.calls kj3 a0_0 a0_1 _ _ l0_2 a0_3 a0_4 a0_5 a0_6 false _ ?side1 ?side2 A29.out).mono ?_); (case side1 => repeat (first | exact (Kd.C_below HR0_2.out HB.out) | (with_reducible refine Kd.C_alloc ?_ _) | (with_reducible refine Kd.C_drewN ?_ _) | (with_reducible refine Kd.C_drew ?_))); (case side2 => exact HC0_2.out); rintro e w36 ⟨rfl, hb⟩; have n0_ := Aside0.mk (blk_below (g := gb283) (o := .cells #[.int .u32 a0_0, .int .i64 a0_1, .slice A0_2 l0_2.length c0_2, .int .i64 a0_3, .int .i64 a0_4, .int .i64 a0_5, .int .i64 a0_6] 27 (0, 0)) (by (with_reducible repeat (first | refine blk_drewN ?_ _ | refine blk_drew ?_ | refine blk_alloc ?_ _)); exact BK283.out) hb); have n1_ := Aside0.mk (below_step (by repeat (first | (with_reducible first | exact HB.out | apply below_alloc | apply pw_below_drewN | apply below_drew1 | refine below_set ?_ GE283.out) | exact HB.out)) hb); clear BK283; clear HB; have BK283 := n0_; have HB := n1_; clear n0_ n1_; (try clear hb); (try clear hb2); (try clear hk); (try clear hi)))
       go_ret
       exact ⟨by first | rfl | (simp [errW_none, errW_some] <;> rfl) | (simp [*, errW_none, errW_some] <;> rfl), by repeat (first | (with_reducible first | exact HB.out | apply below_alloc | apply pw_below_drewN | apply below_drew1 | refine below_set ?_ GE283.out) | exact HB.out)⟩
    ·replace c28 := Bool.eq_false_iff.mpr c28
     subst c28
     have H1 : (some false) = some r := by rw [if_neg (show ¬ (false = true) by decide)] at H; exact H
     rw [hr_.out] at H1
     exact absurd (Option.some.inj H1) (by decide)
   ·replace c26 := Bool.eq_false_iff.mpr c26
    subst c26
    have H1 : ((lodgerref09_Rises.f kj3 l1).bind fun t290 => (if t290 = true then ((model_Has.f kj3 l1 a2).bind fun t291 => ((lodgerref09_Has.f kj3 l1 a2).bind fun t292 => (if (t291 == t292) = true then ((model_With.f kj3 l1 a2).bind fun t293 => ((lodgerref09_With.f kj3 l1 a2).bind fun t296 => ((lodgerref03_Ints.f kj3 t293 t296).bind fun t299 => (if t299 = true then ((model_Without.f kj3 l1 a2).bind fun t300 => ((lodgerref09_Without.f kj3 l1 a2).bind fun t303 => ((lodgerref03_Ints.f kj3 t300 t303).bind fun t306 => (some t306)))) else (some false))))) else (some false)))) else (some true))) = some r := by rw [if_neg (show ¬ (false = true) by decide)] at H; exact H
    clear H
    have H := H1
    clear H1
    replace H := Option.bind_eq_some_iff.mp H
    obtain ⟨t290, A380, H⟩ := H
    replace H : (if t290 = true then ((model_Has.f kj3 l1 a2).bind fun t291 => ((lodgerref09_Has.f kj3 l1 a2).bind fun t292 => (if (t291 == t292) = true then ((model_With.f kj3 l1 a2).bind fun t293 => ((lodgerref09_With.f kj3 l1 a2).bind fun t296 => ((lodgerref03_Ints.f kj3 t293 t296).bind fun t299 => (if t299 = true then ((model_Without.f kj3 l1 a2).bind fun t300 => ((lodgerref09_Without.f kj3 l1 a2).bind fun t303 => ((lodgerref03_Ints.f kj3 t300 t303).bind fun t306 => (some t306)))) else (some false))))) else (some false)))) else (some true)) = some r := H
    have A38 := Aside0.mk A380
    clear A380
    by_cases c39 : t290 = true
    ·subst c39
     have H1 : ((model_Has.f kj3 l1 a2).bind fun t291 => ((lodgerref09_Has.f kj3 l1 a2).bind fun t292 => (if (t291 == t292) = true then ((model_With.f kj3 l1 a2).bind fun t293 => ((lodgerref09_With.f kj3 l1 a2).bind fun t296 => ((lodgerref03_Ints.f kj3 t293 t296).bind fun t299 => (if t299 = true then ((model_Without.f kj3 l1 a2).bind fun t300 => ((lodgerref09_Without.f kj3 l1 a2).bind fun t303 => ((lodgerref03_Ints.f kj3 t300 t303).bind fun t306 => (some t306)))) else (some false))))) else (some false)))) = some r := by rw [if_pos rfl] at H; exact H
     clear H
     have H := H1
     clear H1
     replace H := Option.bind_eq_some_iff.mp H
     obtain ⟨t291, A400, H⟩ := H
     replace H : ((lodgerref09_Has.f kj3 l1 a2).bind fun t292 => (if (t291 == t292) = true then ((model_With.f kj3 l1 a2).bind fun t293 => ((lodgerref09_With.f kj3 l1 a2).bind fun t296 => ((lodgerref03_Ints.f kj3 t293 t296).bind fun t299 => (if t299 = true then ((model_Without.f kj3 l1 a2).bind fun t300 => ((lodgerref09_Without.f kj3 l1 a2).bind fun t303 => ((lodgerref03_Ints.f kj3 t300 t303).bind fun t306 => (some t306)))) else (some false))))) else (some false))) = some r := H
     have A40 := Aside0.mk A400
     clear A400
     replace H := Option.bind_eq_some_iff.mp H
     obtain ⟨t292, A410, H⟩ := H
     replace H : (if (t291 == t292) = true then ((model_With.f kj3 l1 a2).bind fun t293 => ((lodgerref09_With.f kj3 l1 a2).bind fun t296 => ((lodgerref03_Ints.f kj3 t293 t296).bind fun t299 => (if t299 = true then ((model_Without.f kj3 l1 a2).bind fun t300 => ((lodgerref09_Without.f kj3 l1 a2).bind fun t303 => ((lodgerref03_Ints.f kj3 t300 t303).bind fun t306 => (some t306)))) else (some false))))) else (some false)) = some r := H
     have A41 := Aside0.mk A410
     clear A410
     by_cases c42 : (t291 == t292) = true
     ·rw [if_pos c42] at H
      have c42b0 : (t291 == t292) = true := c42
      (try (have c42b1 : decide (t291 = t292) = true := by simpa using c42))
      (try (have c42b2 : (t291 == t292) = true := by simpa using c42))
      clear c42
      replace H := Option.bind_eq_some_iff.mp H
      obtain ⟨t293, A430, H⟩ := H
      replace H : ((lodgerref09_With.f kj3 l1 a2).bind fun t296 => ((lodgerref03_Ints.f kj3 t293 t296).bind fun t299 => (if t299 = true then ((model_Without.f kj3 l1 a2).bind fun t300 => ((lodgerref09_Without.f kj3 l1 a2).bind fun t303 => ((lodgerref03_Ints.f kj3 t300 t303).bind fun t306 => (some t306)))) else (some false)))) = some r := H
      have A43 := Aside0.mk A430
      clear A430
      replace H := Option.bind_eq_some_iff.mp H
      obtain ⟨t296, A440, H⟩ := H
      replace H : ((lodgerref03_Ints.f kj3 t293 t296).bind fun t299 => (if t299 = true then ((model_Without.f kj3 l1 a2).bind fun t300 => ((lodgerref09_Without.f kj3 l1 a2).bind fun t303 => ((lodgerref03_Ints.f kj3 t300 t303).bind fun t306 => (some t306)))) else (some false))) = some r := H
      have A44 := Aside0.mk A440
      clear A440
      replace H := Option.bind_eq_some_iff.mp H
      obtain ⟨t299, A450, H⟩ := H
      replace H : (if t299 = true then ((model_Without.f kj3 l1 a2).bind fun t300 => ((lodgerref09_Without.f kj3 l1 a2).bind fun t303 => ((lodgerref03_Ints.f kj3 t300 t303).bind fun t306 => (some t306)))) else (some false)) = some r := H
      have A45 := Aside0.mk A450
      clear A450
      by_cases c46 : t299 = true
      ·subst c46
       have H1 : ((model_Without.f kj3 l1 a2).bind fun t300 => ((lodgerref09_Without.f kj3 l1 a2).bind fun t303 => ((lodgerref03_Ints.f kj3 t300 t303).bind fun t306 => (some t306)))) = some r := by rw [if_pos rfl] at H; exact H
       clear H
       have H := H1
       clear H1
       replace H := Option.bind_eq_some_iff.mp H
       obtain ⟨t300, A470, H⟩ := H
       replace H : ((lodgerref09_Without.f kj3 l1 a2).bind fun t303 => ((lodgerref03_Ints.f kj3 t300 t303).bind fun t306 => (some t306))) = some r := H
       have A47 := Aside0.mk A470
       clear A470
       replace H := Option.bind_eq_some_iff.mp H
       obtain ⟨t303, A480, H⟩ := H
       replace H : ((lodgerref03_Ints.f kj3 t300 t303).bind fun t306 => (some t306)) = some r := H
       have A48 := Aside0.mk A480
       clear A480
       replace H := Option.bind_eq_some_iff.mp H
       obtain ⟨t306, A490, H⟩ := H
       replace H : (some t306) = some r := H
       have A49 := Aside0.mk A490
       clear A490
       first | (exfalso; rw [hr_.out] at H; exact absurd (Option.some.inj H) (by decide)) | (try clear hr_)
       all_goals
        obtain rfl := Option.some.inj H
        go_wp2_with (first | ((with_reducible refine gate_callee (f := 13) rfl ?_); refine goesL_ (some 40) rfl rfl Try.func13 (by kernel_rfl) rfl #[.slice A1 l1.length c1] rfl (by (try simp only [List.map_toArray, List.map_cons, List.map_nil]); first | done | rfl | (simp only [List.length_drop, List.length_take]; rfl)) ?_; (with_reducible refine (lodgerref09_Rises.calls kj3 _ _ l1 true _ ?side1 ?side2 A38.out).mono ?_); (case side1 => repeat (first | exact (Kd.C_below HR1.out HB.out) | (with_reducible refine Kd.C_alloc ?_ _) | (with_reducible refine Kd.C_drewN ?_ _) | (with_reducible refine Kd.C_drew ?_))); (case side2 => exact HC1.out); rintro e w' ⟨rfl, ⟨nd, rfl⟩⟩; refine ⟨_, rfl, ?_⟩) | ((with_reducible refine gate_callee (f := 14) rfl ?_); refine goesL_ (some 44) rfl rfl Try.func14 (by kernel_rfl) rfl #[.slice A1 l1.length c1, .int .i64 a2] rfl (by (try simp only [List.map_toArray, List.map_cons, List.map_nil]); first | done | rfl | (simp only [List.length_drop, List.length_take]; rfl)) ?_; (with_reducible refine (model_Has.calls kj3 _ _ l1 a2 t291 _ ?side1 ?side2 A40.out).mono ?_); (case side1 => repeat (first | exact (Kd.C_below HR1.out (by repeat (first | (with_reducible first | exact HB.out | apply below_alloc | apply pw_below_drewN | apply below_drew1 | refine below_set ?_ GE283.out) | exact HB.out))) | (with_reducible refine Kd.C_alloc ?_ _) | (with_reducible refine Kd.C_drewN ?_ _) | (with_reducible refine Kd.C_drew ?_))); (case side2 => exact HC1.out); rintro e w' ⟨rfl, ⟨nd, rfl⟩⟩; refine ⟨_, rfl, ?_⟩) | ((with_reducible refine gate_callee (f := 15) rfl ?_); refine goesL_ (some 47) rfl rfl Try.func15 (by kernel_rfl) rfl #[.slice A1 l1.length c1, .int .i64 a2] rfl (by (try simp only [List.map_toArray, List.map_cons, List.map_nil]); first | done | rfl | (simp only [List.length_drop, List.length_take]; rfl)) ?_; (with_reducible refine (lodgerref09_Has.calls kj3 _ _ l1 a2 t292 _ ?side1 ?side2 A41.out).mono ?_); (case side1 => repeat (first | exact (Kd.C_below HR1.out (by repeat (first | (with_reducible first | exact HB.out | apply below_alloc | apply pw_below_drewN | apply below_drew1 | refine below_set ?_ GE283.out) | exact HB.out))) | (with_reducible refine Kd.C_alloc ?_ _) | (with_reducible refine Kd.C_drewN ?_ _) | (with_reducible refine Kd.C_drew ?_))); (case side2 => exact HC1.out); rintro e w' ⟨rfl, ⟨nd, rfl⟩⟩; refine ⟨_, rfl, ?_⟩) | (go_at_call 17; (with_reducible refine (model_With.calls kj3 (fun k_ => k_ < w.heap.size) _ _ l1 a2 t293 _ ?side1 A43.out).mono ?_); (case side1 => exact Kd.V_mk HC1.out (Kd.F_below (Kd.C_F (Kd.heap_int .i64) HR1.out) (by repeat (first | (with_reducible first | exact HB.out | apply below_alloc | apply pw_below_drewN | apply below_drew1 | refine below_set ?_ GE283.out) | exact HB.out)))); rintro e w50 ⟨v294, rfl, ho0, hb⟩; have n0_ := Aside0.mk (Kd.V_lower (Kd.V_mono (ok' := fun k_ => k_ ≠ gb283) ho0 (fun k_ hk_ => Or.elim hk_ (fun hs_ => fun e_ => Nat.not_le.2 hs_ (by rw [e_]; exact GW283.out)) (fun hn_ => (Kd.freshB (g := gb283) (o := .cells #[.int .u32 a0_0, .int .i64 a0_1, .slice A0_2 l0_2.length c0_2, .int .i64 a0_3, .int .i64 a0_4, .int .i64 a0_5, .int .i64 a0_6] 27 (0, 0)) (by (with_reducible repeat (first | refine blk_drewN ?_ _ | refine blk_drew ?_ | refine blk_alloc ?_ _)); exact BK283.out) k_ hn_)))) (below_size (by repeat (first | (with_reducible first | exact HB.out | apply below_alloc | apply pw_below_drewN | apply below_drew1 | refine below_set ?_ GE283.out) | exact HB.out)))); have n1_ := Aside0.mk (blk_below (g := gb283) (o := .cells #[.int .u32 a0_0, .int .i64 a0_1, .slice A0_2 l0_2.length c0_2, .int .i64 a0_3, .int .i64 a0_4, .int .i64 a0_5, .int .i64 a0_6] 27 (0, 0)) (by (with_reducible repeat (first | refine blk_drewN ?_ _ | refine blk_drew ?_ | refine blk_alloc ?_ _)); exact BK283.out) hb); have n2_ := Aside0.mk (below_step (by repeat (first | (with_reducible first | exact HB.out | apply below_alloc | apply pw_below_drewN | apply below_drew1 | refine below_set ?_ GE283.out) | exact HB.out)) hb); clear BK283; clear HB; have HO295 := n0_; have BK283 := n1_; have HB := n2_; clear n0_ n1_ n2_; (try clear hb); (try clear hb2); (try clear hk); (try clear hi); (try clear ho0)) | (go_at_call 18; (with_reducible refine (lodgerref09_With.calls kj3 _ _ l1 a2 t296 _ ?side1 ?side2 A44.out).mono ?_); (case side1 => repeat (first | exact (Kd.C_below HR1.out HB.out) | (with_reducible refine Kd.C_alloc ?_ _) | (with_reducible refine Kd.C_drewN ?_ _) | (with_reducible refine Kd.C_drew ?_))); (case side2 => exact HC1.out); rintro e w51 ⟨v297, rfl, ho0, hb⟩; have n0_ := Aside0.mk (Kd.V_elder' (by (with_reducible repeat (first | apply Kd.V_alloc | apply Kd.V_drewN | apply Kd.V_drew)); exact HO295.out) (Kd.R_base ho0) hb); have n1_ := Aside0.mk (Kd.R_lower ho0 (below_size (by repeat (first | (with_reducible first | exact HB.out | apply below_alloc | apply pw_below_drewN | apply below_drew1 | refine below_set ?_ GE283.out) | exact HB.out)))); have n2_ := Aside0.mk (blk_below (g := gb283) (o := .cells #[.int .u32 a0_0, .int .i64 a0_1, .slice A0_2 l0_2.length c0_2, .int .i64 a0_3, .int .i64 a0_4, .int .i64 a0_5, .int .i64 a0_6] 27 (0, 0)) (by (with_reducible repeat (first | refine blk_drewN ?_ _ | refine blk_drew ?_ | refine blk_alloc ?_ _)); exact BK283.out) hb); have n3_ := Aside0.mk (below_step (by repeat (first | (with_reducible first | exact HB.out | apply below_alloc | apply pw_below_drewN | apply below_drew1 | refine below_set ?_ GE283.out) | exact HB.out)) hb); clear HO295; clear BK283; clear HB; have HO295 := n0_; have HO298 := n1_; have BK283 := n2_; have HB := n3_; clear n0_ n1_ n2_ n3_; (try clear hb); (try clear hb2); (try clear hk); (try clear hi); (try clear ho0); obtain ⟨Ao52, co52, eo52⟩ := Kd.V_slice HO295.out; subst eo52; obtain ⟨Ao53, co53, eo53⟩ := Kd.R_slice HO298.out; subst eo53) | (go_at_call 16; (with_reducible refine (lodgerref03_Ints.calls kj3 _ _ t293 _ _ t296 true _ ?side1 ?side2 ?side3 ?side4 A45.out).mono ?_); (case side1 => repeat (first | exact (Kd.V_reads' HO295.out).2.2 | (with_reducible refine Kd.C_alloc ?_ _) | (with_reducible refine Kd.C_drewN ?_ _) | (with_reducible refine Kd.C_drew ?_))); (case side2 => exact (Kd.V_reads' HO295.out).2.1); (case side3 => repeat (first | exact (Kd.R_reads' HO298.out).2.2 | (with_reducible refine Kd.C_alloc ?_ _) | (with_reducible refine Kd.C_drewN ?_ _) | (with_reducible refine Kd.C_drew ?_))); (case side4 => exact (Kd.R_reads' HO298.out).2.1); rintro e w' ⟨rfl, ⟨nd, rfl⟩⟩) | (go_at_call 19; (with_reducible refine (model_Without.calls kj3 (fun k_ => k_ < w.heap.size) _ _ l1 a2 t300 _ ?side1 A47.out).mono ?_); (case side1 => exact Kd.V_mk HC1.out (Kd.F_below (Kd.C_F (Kd.heap_int .i64) HR1.out) (by repeat (first | (with_reducible first | exact HB.out | apply below_alloc | apply pw_below_drewN | apply below_drew1 | refine below_set ?_ GE283.out) | exact HB.out)))); rintro e w54 ⟨v301, rfl, ho0, hb⟩; have n0_ := Aside0.mk (Kd.V_below (by (with_reducible repeat (first | apply Kd.V_alloc | apply Kd.V_drewN | apply Kd.V_drew)); exact HO295.out) hb); have n1_ := Aside0.mk (Kd.R_below (by (with_reducible repeat (first | apply Kd.R_alloc | apply Kd.R_drewN | apply Kd.R_drew)); exact HO298.out) hb); have n2_ := Aside0.mk (Kd.V_lower (Kd.V_mono (ok' := fun k_ => some k_ ≠ (.slice Ao53 t296.length co53 : Value).ownBlock ∧ k_ ≠ gb283) ho0 (fun k_ hk_ => ⟨Or.elim hk_ (fun hs_ => fun e_ => Nat.not_le.2 hs_ (Kd.R_base HO298.out k_ e_.symm)) (fun hn_ => (Kd.fresh' (Kd.R_lt (by (with_reducible repeat (first | apply Kd.R_alloc | apply Kd.R_drewN | apply Kd.R_drew)); exact HO298.out)) k_ hn_)), Or.elim hk_ (fun hs_ => fun e_ => Nat.not_le.2 hs_ (by rw [e_]; exact GW283.out)) (fun hn_ => (Kd.freshB (g := gb283) (o := .cells #[.int .u32 a0_0, .int .i64 a0_1, .slice A0_2 l0_2.length c0_2, .int .i64 a0_3, .int .i64 a0_4, .int .i64 a0_5, .int .i64 a0_6] 27 (0, 0)) (by (with_reducible repeat (first | refine blk_drewN ?_ _ | refine blk_drew ?_ | refine blk_alloc ?_ _)); exact BK283.out) k_ hn_))⟩)) (below_size (by repeat (first | (with_reducible first | exact HB.out | apply below_alloc | apply pw_below_drewN | apply below_drew1 | refine below_set ?_ GE283.out) | exact HB.out)))); have n3_ := Aside0.mk (blk_below (g := gb283) (o := .cells #[.int .u32 a0_0, .int .i64 a0_1, .slice A0_2 l0_2.length c0_2, .int .i64 a0_3, .int .i64 a0_4, .int .i64 a0_5, .int .i64 a0_6] 27 (0, 0)) (by (with_reducible repeat (first | refine blk_drewN ?_ _ | refine blk_drew ?_ | refine blk_alloc ?_ _)); exact BK283.out) hb); have n4_ := Aside0.mk (below_step (by repeat (first | (with_reducible first | exact HB.out | apply below_alloc | apply pw_below_drewN | apply below_drew1 | refine below_set ?_ GE283.out) | exact HB.out)) hb); clear HO295; clear HO298; clear BK283; clear HB; have HO295 := n0_; have HO298 := n1_; have HO302 := n2_; have BK283 := n3_; have HB := n4_; clear n0_ n1_ n2_ n3_ n4_; (try clear hb); (try clear hb2); (try clear hk); (try clear hi); (try clear ho0)) | (go_at_call 20; (with_reducible refine (lodgerref09_Without.calls kj3 _ _ l1 a2 t303 _ ?side1 ?side2 A48.out).mono ?_); (case side1 => repeat (first | exact (Kd.C_below HR1.out HB.out) | (with_reducible refine Kd.C_alloc ?_ _) | (with_reducible refine Kd.C_drewN ?_ _) | (with_reducible refine Kd.C_drew ?_))); (case side2 => exact HC1.out); rintro e w55 ⟨v304, rfl, ho0, hb⟩; have n0_ := Aside0.mk (Kd.V_elder' (by (with_reducible repeat (first | apply Kd.V_alloc | apply Kd.V_drewN | apply Kd.V_drew)); exact HO295.out) (Kd.R_base ho0) hb); have n1_ := Aside0.mk (Kd.R_elder' (by (with_reducible repeat (first | apply Kd.R_alloc | apply Kd.R_drewN | apply Kd.R_drew)); exact HO298.out) (Kd.R_base ho0) hb); have n2_ := Aside0.mk (Kd.V_elder' (by (with_reducible repeat (first | apply Kd.V_alloc | apply Kd.V_drewN | apply Kd.V_drew)); exact HO302.out) (Kd.R_base ho0) hb); have n3_ := Aside0.mk (Kd.R_lower (Kd.R_new' ho0 (Kd.R_lt (by (with_reducible repeat (first | apply Kd.R_alloc | apply Kd.R_drewN | apply Kd.R_drew)); exact HO298.out))) (below_size (by repeat (first | (with_reducible first | exact HB.out | apply below_alloc | apply pw_below_drewN | apply below_drew1 | refine below_set ?_ GE283.out) | exact HB.out)))); have n4_ := Aside0.mk (blk_below (g := gb283) (o := .cells #[.int .u32 a0_0, .int .i64 a0_1, .slice A0_2 l0_2.length c0_2, .int .i64 a0_3, .int .i64 a0_4, .int .i64 a0_5, .int .i64 a0_6] 27 (0, 0)) (by (with_reducible repeat (first | refine blk_drewN ?_ _ | refine blk_drew ?_ | refine blk_alloc ?_ _)); exact BK283.out) hb); have n5_ := Aside0.mk (below_step (by repeat (first | (with_reducible first | exact HB.out | apply below_alloc | apply pw_below_drewN | apply below_drew1 | refine below_set ?_ GE283.out) | exact HB.out)) hb); clear HO295; clear HO298; clear HO302; clear BK283; clear HB; have HO295 := n0_; have HO298 := n1_; have HO302 := n2_; have HO305 := n3_; have BK283 := n4_; have HB := n5_; clear n0_ n1_ n2_ n3_ n4_ n5_; (try clear hb); (try clear hb2); (try clear hk); (try clear hi); (try clear ho0); obtain ⟨Ao56, co56, eo56⟩ := Kd.V_slice HO302.out; subst eo56; obtain ⟨Ao57, co57, eo57⟩ := Kd.R_slice HO305.out; subst eo57) | (go_at_call 16; (with_reducible refine (lodgerref03_Ints.calls kj3 _ _ t300 _ _ t303 t306 _ ?side1 ?side2 ?side3 ?side4 A49.out).mono ?_); (case side1 => repeat (first | exact (Kd.V_reads' HO302.out).2.2 | (with_reducible refine Kd.C_alloc ?_ _) | (with_reducible refine Kd.C_drewN ?_ _) | (with_reducible refine Kd.C_drew ?_))); (case side2 => exact (Kd.V_reads' HO302.out).2.1); (case side3 => repeat (first | exact (Kd.R_reads' HO305.out).2.2 | (with_reducible refine Kd.C_alloc ?_ _) | (with_reducible refine Kd.C_drewN ?_ _) | (with_reducible refine Kd.C_drew ?_))); (case side4 => exact (Kd.R_reads' HO305.out).2.1); rintro e w' ⟨rfl, ⟨nd, rfl⟩⟩))
        go_ret
        exact ⟨by first | rfl | (simp [errW_none, errW_some] <;> rfl) | (simp [*, errW_none, errW_some] <;> rfl), by repeat (first | (with_reducible first | exact HB.out | apply below_alloc | apply pw_below_drewN | apply below_drew1 | refine below_set ?_ GE283.out) | exact HB.out)⟩
      ·replace c46 := Bool.eq_false_iff.mpr c46
       subst c46
       have H1 : (some false) = some r := by rw [if_neg (show ¬ (false = true) by decide)] at H; exact H
       rw [hr_.out] at H1
       exact absurd (Option.some.inj H1) (by decide)
     ·rw [if_neg c42] at H
      rw [hr_.out] at H
      exact absurd (Option.some.inj H) (by decide)
    ·replace c39 := Bool.eq_false_iff.mpr c39
     subst c39
     have H1 : (some true) = some r := by rw [if_neg (show ¬ (false = true) by decide)] at H; exact H
     clear H
     have H := H1
     clear H1
     first | (exfalso; rw [hr_.out] at H; exact absurd (Option.some.inj H) (by decide)) | (try clear hr_)
     all_goals
      obtain rfl := Option.some.inj H
      go_wp2_with (first | ((with_reducible refine gate_callee (f := 13) rfl ?_); refine goesL_ (some 40) rfl rfl Try.func13 (by kernel_rfl) rfl #[.slice A1 l1.length c1] rfl (by (try simp only [List.map_toArray, List.map_cons, List.map_nil]); first | done | rfl | (simp only [List.length_drop, List.length_take]; rfl)) ?_; (with_reducible refine (lodgerref09_Rises.calls kj3 _ _ l1 false _ ?side1 ?side2 A38.out).mono ?_); (case side1 => repeat (first | exact (Kd.C_below HR1.out HB.out) | (with_reducible refine Kd.C_alloc ?_ _) | (with_reducible refine Kd.C_drewN ?_ _) | (with_reducible refine Kd.C_drew ?_))); (case side2 => exact HC1.out); rintro e w' ⟨rfl, ⟨nd, rfl⟩⟩; refine ⟨_, rfl, ?_⟩))
      go_ret
      exact ⟨by first | rfl | (simp [errW_none, errW_some] <;> rfl) | (simp [*, errW_none, errW_some] <;> rfl), by repeat (first | (with_reducible first | exact HB.out | apply below_alloc | apply pw_below_drewN | apply below_drew1 | refine below_set ?_ GE283.out) | exact HB.out)⟩

/-- THE ONE PURE STATEMENT of lodgerlaw09_ModelSets: yours. -/
def lodgerlaw09_ModelSets.Pure : Prop := ∀ (a0_0 : Int) (a0_1 : Int) (l0_2 : List Int) (a0_3 : Int) (a0_4 : Int) (a0_5 : Int) (a0_6 : Int) (l1 : List Int) (a2 : Int), (Lit.int .u32 a0_0).wf = true → (Lit.int .i64 a0_1).wf = true → l0_2.length ≤ maxLen → (∀ x ∈ l0_2, (Lit.int .i64 x).wf = true) → (Lit.int .i64 a0_3).wf = true → (Lit.int .i64 a0_4).wf = true → (Lit.int .i64 a0_5).wf = true → (Lit.int .i64 a0_6).wf = true → l1.length ≤ maxLen → l1.length * 8 ≤ 140737488351232 → (∀ x ∈ l1, (Lit.int .i64 x).wf = true) → (Lit.int .i64 a2).wf = true → ∃ k, lodgerlaw09_ModelSets.f k a0_0 a0_1 l0_2 a0_3 a0_4 a0_5 a0_6 l1 a2 = some true
theorem lodgerlaw09_ModelSets.walk (P : lodgerlaw09_ModelSets.Pure) (a0_0 : Int) (a0_1 : Int) (a0_2 : Option Addr) (len0_2 cap0_2 : Nat) (z0_2 : List Int) (a0_3 : Int) (a0_4 : Int) (a0_5 : Int) (a0_6 : Int) (a1 : Option Addr) (len1 cap1 : Nat) (z1 : List Int) (a2 : Int) (w : World) (w0_0 : (Lit.int .u32 a0_0).wf = true) (w0_1 : (Lit.int .i64 a0_1).wf = true) (w0_2 : (a0_2 = none ∧ len0_2 = 0 ∧ cap0_2 = 0 ∧ z0_2 = []) ∨ ∃ x, a0_2 = some x ∧ len0_2 ≤ cap0_2 ∧ cap0_2 ≤ maxLen ∧ z0_2.length = cap0_2 ∧ (∀ i, i < z0_2.length → w.cell? (x.add i) = some (.int .i64 (z0_2.getD i 0))) ∧ ∀ n ∈ z0_2, (Lit.int .i64 n).wf = true) (w0_3 : (Lit.int .i64 a0_3).wf = true) (w0_4 : (Lit.int .i64 a0_4).wf = true) (w0_5 : (Lit.int .i64 a0_5).wf = true) (w0_6 : (Lit.int .i64 a0_6).wf = true) (w1 : (a1 = none ∧ len1 = 0 ∧ cap1 = 0 ∧ z1 = []) ∨ ∃ x, a1 = some x ∧ len1 ≤ cap1 ∧ cap1 ≤ maxLen ∧ z1.length = cap1 ∧ (∀ i, i < z1.length → w.cell? (x.add i) = some (.int .i64 (z1.getD i 0))) ∧ ∀ n ∈ z1, (Lit.int .i64 n).wf = true) (y1 : len1 * 8 ≤ 140737488351232) (w2 : (Lit.int .i64 a2).wf = true) :
  Calls Try.prog 3 #[.agg #[.int .u32 a0_0, .int .i64 a0_1, .slice a0_2 len0_2 cap0_2, .int .i64 a0_3, .int .i64 a0_4, .int .i64 a0_5, .int .i64 a0_6], .slice a1 len1 cap1, .int .i64 a2] w fun e w' => e = .returned (.bool true) ∧ Below w.heap.size w w' := by
 obtain ⟨l0_2, rfl, hr0_2, hm0_2, hw0_2, hc0_2⟩ := ReadsInt.ofRowC w0_2
 obtain ⟨l1, rfl, hr1, hm1, hw1, hc1⟩ := ReadsInt.ofRowC w1
 obtain ⟨k, h⟩ := P a0_0 a0_1 l0_2 a0_3 a0_4 a0_5 a0_6 l1 a2 w0_0 w0_1 hm0_2 hw0_2 w0_3 w0_4 w0_5 w0_6 hm1 y1 hw1 w2
 refine (lodgerlaw09_ModelSets.calls k a0_0 a0_1 _ _ l0_2 a0_3 a0_4 a0_5 a0_6 _ _ l1 a2 true w (Kd.C_of_reads (d := (0 : Int)) (h1 := fun _ => rfl) hr0_2) hc0_2 (Kd.C_of_reads (d := (0 : Int)) (h1 := fun _ => rfl) hr1) hc1 rfl h).mono ?_
 rintro e w' ⟨rfl, hd⟩
 exact ⟨rfl, hd⟩

end Go.Proofs.Ythfcgjmffjmplaa.PModelSets
