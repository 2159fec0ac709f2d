/- The walk of AskOthers, part of it: what the Go functions answer; no condition. -/
import Derived.Test.YthfcgjmffjmplaaDoorQAskOthersx0
import Derived.Test.YthfcgjmffjmplaaDoorQAskOthersx3
namespace Go.Proofs.YthfcgjmffjmplaaDoor.PAskOthers
open Go.RowKit Go.Proofs.YthfcgjmffjmplaaDoorW.PrintWords Go.Proofs.YthfcgjmffjmplaaDoorW.PrintLast Go.Proofs.YthfcgjmffjmplaaDoorW.PrintMore
attribute [local go_sem] max2_int min2_int max_two min_two max_three min_three max_four min_four   -- for this text's walks alone
set_option linter.unusedVariables false
set_option linter.unusedSimpArgs false

/-! ### lodgerref05_May: function 9 -/
mutual
def lodgerref05_May.j0 : Nat → Bool → Int → Int → List Int → Int → Int → Int → Int → Option (Bool)
 | 0, _, _, _, _, _, _, _, _ => none
 | k + 1, x53, x161000, x161001, x161002, x161003, x161004, x161005, x161006 => if x53 = true then (some false) else (lodgerref05_May.l0 k 0 x161000 x161001 x161002 x161003 x161004 x161005 x161006)
def lodgerref05_May.l0 : Nat → Int → Int → Int → List Int → Int → Int → Int → Int → Option (Bool)
 | 0, _, _, _, _, _, _, _, _ => none
 | k + 1, x3, x161000, x161001, x161002, x161003, x161004, x161005, x161006 => if x3 < (x161002.length : Int) then (if 0 ≤ x3 then (if (rd x161002 x3) < 0 then (some false) else ((lodgerref05_Many.f k x161000 x161001).bind fun t164 => (if (rd x161002 x3) ≥ t164 then (some false) else (if x3 > 0 then (if 0 ≤ (wrap64 (x3 - 1)) then (if (wrap64 (x3 - 1)) < (x161002.length : Int) then (if (rd x161002 x3) ≤ (rd x161002 (wrap64 (x3 - 1))) then (some false) else (lodgerref05_May.l0 k (wrap64 (x3 + 1)) x161000 x161001 x161002 x161003 x161004 x161005 x161006)) else (none)) else (none)) else (lodgerref05_May.l0 k (wrap64 (x3 + 1)) x161000 x161001 x161002 x161003 x161004 x161005 x161006))))) else (none)) else (some true)
end
def lodgerref05_May.f (k : Nat) (a0_0 : Int) (a0_1 : Int) (l0_2 : List Int) (a0_3 : Int) (a0_4 : Int) (a0_5 : Int) (a0_6 : Int) : Option (Bool) := (lodgerref04_May.f k a0_0 a0_1).bind fun t161 => (if t161 = true then (if (l0_2.length : Int) > 64 then (lodgerref05_May.j0 k true a0_0 a0_1 l0_2 a0_3 a0_4 a0_5 a0_6) else (if a0_3 < 1 then (lodgerref05_May.j0 k true a0_0 a0_1 l0_2 a0_3 a0_4 a0_5 a0_6) else (if a0_3 > 64 then (lodgerref05_May.j0 k true a0_0 a0_1 l0_2 a0_3 a0_4 a0_5 a0_6) else (if a0_4 < 1 then (lodgerref05_May.j0 k true a0_0 a0_1 l0_2 a0_3 a0_4 a0_5 a0_6) else (if a0_4 > 64 then (lodgerref05_May.j0 k true a0_0 a0_1 l0_2 a0_3 a0_4 a0_5 a0_6) else (if a0_5 < 1 then (lodgerref05_May.j0 k true a0_0 a0_1 l0_2 a0_3 a0_4 a0_5 a0_6) else (if a0_5 > 64 then (lodgerref05_May.j0 k true a0_0 a0_1 l0_2 a0_3 a0_4 a0_5 a0_6) else (if a0_6 < 1 then (lodgerref05_May.j0 k true a0_0 a0_1 l0_2 a0_3 a0_4 a0_5 a0_6) else (lodgerref05_May.j0 k (decide (a0_6 > 8)) a0_0 a0_1 l0_2 a0_3 a0_4 a0_5 a0_6))))))))) else (lodgerref05_May.j0 k true a0_0 a0_1 l0_2 a0_3 a0_4 a0_5 a0_6))
theorem lodgerref05_May.mono_l : ∀ k, (∀ y0 y1 y2 y3 y4 y5 y6 y7, LeO (lodgerref05_May.j0 k y0 y1 y2 y3 y4 y5 y6 y7) (lodgerref05_May.j0 (k + 1) y0 y1 y2 y3 y4 y5 y6 y7)) ∧ (∀ y0 y1 y2 y3 y4 y5 y6 y7, LeO (lodgerref05_May.l0 k y0 y1 y2 y3 y4 y5 y6 y7) (lodgerref05_May.l0 (k + 1) y0 y1 y2 y3 y4 y5 y6 y7))
 | 0 => ⟨fun _ _ _ _ _ _ _ _ r h => by simp [lodgerref05_May.j0] at h, fun _ _ _ _ _ _ _ _ r h => by simp [lodgerref05_May.l0] at h⟩
 | k + 1 => by
  obtain ⟨ih0, ih1⟩ := lodgerref05_May.mono_l k
  refine ⟨?_, ?_⟩
  ·intro y0 y1 y2 y3 y4 y5 y6 y7
   unfold lodgerref05_May.j0
   repeat' first
   | (with_reducible exact ih0 _ _ _ _ _ _ _ _)
   | (with_reducible exact ih1 _ _ _ _ _ _ _ _)
   | (with_reducible exact lodgerref04_May.mono _ _ _)
   | (with_reducible exact lodgerref05_Many.mono _ _ _)
   | (with_reducible exact LeO.refl _)
   | (with_reducible exact LeO.none _)
   | (with_reducible refine LeO.ite ?_ ?_)
   | (with_reducible refine LeO.bind ?_ (fun _ => ?_))
   | exact ih0 _ _ _ _ _ _ _ _
   | exact ih1 _ _ _ _ _ _ _ _
   | exact lodgerref04_May.mono _ _ _
   | exact lodgerref05_Many.mono _ _ _
   | exact LeO.none _
   | refine LeO.ite ?_ ?_
   | refine LeO.bind ?_ (fun _ => ?_)
  ·intro y0 y1 y2 y3 y4 y5 y6 y7
   unfold lodgerref05_May.l0
   repeat' first
   | (with_reducible exact ih0 _ _ _ _ _ _ _ _)
   | (with_reducible exact ih1 _ _ _ _ _ _ _ _)
   | (with_reducible exact lodgerref04_May.mono _ _ _)
   | (with_reducible exact lodgerref05_Many.mono _ _ _)
   | (with_reducible exact LeO.refl _)
   | (with_reducible exact LeO.none _)
   | (with_reducible refine LeO.ite ?_ ?_)
   | (with_reducible refine LeO.bind ?_ (fun _ => ?_))
   | exact ih0 _ _ _ _ _ _ _ _
   | exact ih1 _ _ _ _ _ _ _ _
   | exact lodgerref04_May.mono _ _ _
   | exact lodgerref05_Many.mono _ _ _
   | exact LeO.none _
   | refine LeO.ite ?_ ?_
   | refine LeO.bind ?_ (fun _ => ?_)
theorem lodgerref05_May.mono : ∀ a0 a1 a2 a3 a4 a5 a6 k, LeO (lodgerref05_May.f k a0 a1 a2 a3 a4 a5 a6) (lodgerref05_May.f (k + 1) a0 a1 a2 a3 a4 a5 a6) := by
 intro a0 a1 a2 a3 a4 a5 a6 k
 obtain ⟨ih0, ih1⟩ := lodgerref05_May.mono_l k
 unfold lodgerref05_May.f
 repeat' first
   | (with_reducible exact ih0 _ _ _ _ _ _ _ _)
   | (with_reducible exact ih1 _ _ _ _ _ _ _ _)
   | (with_reducible exact lodgerref04_May.mono _ _ _)
   | (with_reducible exact lodgerref05_Many.mono _ _ _)
   | (with_reducible exact LeO.refl _)
   | (with_reducible exact LeO.none _)
   | (with_reducible refine LeO.ite ?_ ?_)
   | (with_reducible refine LeO.bind ?_ (fun _ => ?_))
   | exact ih0 _ _ _ _ _ _ _ _
   | exact ih1 _ _ _ _ _ _ _ _
   | exact lodgerref04_May.mono _ _ _
   | exact lodgerref05_Many.mono _ _ _
   | exact LeO.none _
   | refine LeO.ite ?_ ?_
   | refine LeO.bind ?_ (fun _ => ?_)
def lodgerref05_May.T6 : Bool × List (List Nat × List Nat) := (true, [([], []), ([0], [0]), ([], []), ([1, 2], [1, 2]), ([3], [3]), ([4], [4]), ([5], [5]), ([6], [6]), ([7, 6], [6, 7]), ([6], [6]), ([8, 9, 6], [6, 8, 9]), ([10, 6], [6, 10]), ([6], [6]), ([12, 6], [6, 12]), ([13, 6, 6], [6, 13]), ([11, 14, 6], [6, 11, 14]), ([6, 15], [6, 15]), ([16, 14], [16]), ([17], [17]), ([18, 17], [17, 18]), ([19, 17, 17], [17, 19]), ([20], [20]), ([21, 20], [20, 21]), ([20], [20]), ([22, 23, 20], [20, 22, 23]), ([24, 20], [20, 24]), ([20], [20]), ([26, 20], [20, 26]), ([20], [20]), ([28, 20], [20, 28]), ([27, 29, 20], [20, 27, 29]), ([30, 20], [20, 30]), ([25, 31, 20], [20, 25, 31]), ([20, 32, 17], [17, 20, 32]), ([17, 33], [17, 33])])
def lodgerref05_May.B6 : List Nat := [0, 1, 0, 7, 15, 31, 63, 127, 255, 127, 1023, 2047, 127, 4223, 12415, 32767, 65535, 131071, 262143, 524287, 1048575, 2097151, 4194303, 2097151, 16777215, 33554431, 2097151, 69206015, 2097151, 270532607, 1008730111, 2082471935, 4294967295, 8589934591, 17179869183]
theorem lodgerref05_May.tab6 : rtab .any (opsOf Tryd.f9 6) = lodgerref05_May.T6 := by kernel_rfl
theorem lodgerref05_May.bits6 : waitsOk lodgerref05_May.T6.2 lodgerref05_May.B6 = true := by kernel_rfl
set_option maxHeartbeats 8000000 in
set_option maxRecDepth 100000 in
theorem lodgerref05_May.calls (k : Nat) (a0_0 : Int) (a0_1 : Int) (A0_2 : Option Addr) (c0_2 : Nat) (l0_2 : List Int) (a0_3 : Int) (a0_4 : Int) (a0_5 : Int) (a0_6 : Int) (r : Bool) (w : World) (hr0_2 : Kd.C (Kd.int .i64) w A0_2 l0_2.length l0_2) (hc0_2 : l0_2.length ≤ c0_2) (h : lodgerref05_May.f k a0_0 a0_1 l0_2 a0_3 a0_4 a0_5 a0_6 = some r) :
  Calls Tryd.prog 9 #[.agg #[.int .u32 a0_0, .int .i64 a0_1, .slice A0_2 l0_2.length c0_2, .int .i64 a0_3, .int .i64 a0_4, .int .i64 a0_5, .int .i64 a0_6]] w fun e w' => e = .returned (.bool r) ∧ Below w.heap.size w w' := by
 have hu27 := Tryd.underlying27
 have hu24 := Tryd.underlying24
 have HR0_2 := Aside0.mk hr0_2
 have HC0_2 := Aside0.mk hc0_2
 clear hr0_2 hc0_2
 have HB := Aside0.mk (Below.refl w.heap.size w)
 have H : ((lodgerref04_May.f k a0_0 a0_1).bind fun t161 => (if t161 = true then (if (l0_2.length : Int) > 64 then (lodgerref05_May.j0 k true a0_0 a0_1 l0_2 a0_3 a0_4 a0_5 a0_6) else (if a0_3 < 1 then (lodgerref05_May.j0 k true a0_0 a0_1 l0_2 a0_3 a0_4 a0_5 a0_6) else (if a0_3 > 64 then (lodgerref05_May.j0 k true a0_0 a0_1 l0_2 a0_3 a0_4 a0_5 a0_6) else (if a0_4 < 1 then (lodgerref05_May.j0 k true a0_0 a0_1 l0_2 a0_3 a0_4 a0_5 a0_6) else (if a0_4 > 64 then (lodgerref05_May.j0 k true a0_0 a0_1 l0_2 a0_3 a0_4 a0_5 a0_6) else (if a0_5 < 1 then (lodgerref05_May.j0 k true a0_0 a0_1 l0_2 a0_3 a0_4 a0_5 a0_6) else (if a0_5 > 64 then (lodgerref05_May.j0 k true a0_0 a0_1 l0_2 a0_3 a0_4 a0_5 a0_6) else (if a0_6 < 1 then (lodgerref05_May.j0 k true a0_0 a0_1 l0_2 a0_3 a0_4 a0_5 a0_6) else (lodgerref05_May.j0 k (decide (a0_6 > 8)) a0_0 a0_1 l0_2 a0_3 a0_4 a0_5 a0_6))))))))) else (lodgerref05_May.j0 k true a0_0 a0_1 l0_2 a0_3 a0_4 a0_5 a0_6))) = some r := h
 clear h
 have HC2 := Aside0.mk H
 clear H
 go_enter Tryd.func9, Tryd.ntmps9
 go_upto_region 1 with (first | ((with_reducible refine gate_dst (N := 1) rfl ?_); (try (refine gate_guard (by rfl) ?_; dsimp only)); refine box_event ?hg (N := 1) ?hd (cs := #[.int .u32 a0_0, .int .i64 a0_1, .slice A0_2 l0_2.length c0_2, .int .i64 a0_3, .int .i64 a0_4, .int .i64 a0_5, .int .i64 a0_6]) (t := 27) ?hr ?_; (case hd => rfl); (case hg => rfl); (case hr => first | (go_simp; done) | (go_simp; rfl)); intro gb160 hg w3 hbox hb; have n0_ := Aside0.mk (below_step (by repeat (first | (with_reducible first | exact HB.out | apply below_alloc | apply pw_below_drewN | apply below_drew1) | exact HB.out)) hb); have n1_ := Aside0.mk (hbox); have n2_ := Aside0.mk ((by rw [hg]; exact (below_size (by repeat (first | (with_reducible first | exact HB.out | apply below_alloc | apply pw_below_drewN | apply below_drew1) | exact HB.out))) : w.heap.size ≤ gb160)); have n3_ := Aside0.mk ((by rw [hg]; exact (below_size (by repeat (first | (with_reducible first | exact HB.out | apply below_alloc | apply pw_below_drewN | apply below_drew1) | exact HB.out))) : w.heap.size ≤ gb160)); clear HB; have HB := n0_; have BK160 := n1_; have GW160 := n2_; have GE160 := n3_; clear n0_ n1_ n2_ n3_; clear hb hbox hg))
 (try simp only [Act.put, List.setIfInBounds_toArray, List.set_cons_zero, List.set_cons_succ])
 go_cut [53] (fun v53 wc => ∃ (kq : Nat) (x53_1 : Bool), v53 = .bool x53_1 ∧ Aside0 (lodgerref05_May.j0 kq x53_1 a0_0 a0_1 l0_2 a0_3 a0_4 a0_5 a0_6 = some r) ∧ Aside0 (kq ≤ k) ∧ Aside0 (wc.heap[gb160]? = some (.cells #[.int .u32 a0_0, .int .i64 a0_1, (.slice A0_2 l0_2.length c0_2), .int .i64 a0_3, .int .i64 a0_4, .int .i64 a0_5, .int .i64 a0_6] 27 (0, 0))) ∧ Aside0 (Below w.heap.size w wc))
 case first =>
  have H := HC2.out
  clear HC2
  replace H := Option.bind_eq_some_iff.mp H
  obtain ⟨t161, A40, H⟩ := H
  replace H : (if t161 = true then (if (l0_2.length : Int) > 64 then (lodgerref05_May.j0 k true a0_0 a0_1 l0_2 a0_3 a0_4 a0_5 a0_6) else (if a0_3 < 1 then (lodgerref05_May.j0 k true a0_0 a0_1 l0_2 a0_3 a0_4 a0_5 a0_6) else (if a0_3 > 64 then (lodgerref05_May.j0 k true a0_0 a0_1 l0_2 a0_3 a0_4 a0_5 a0_6) else (if a0_4 < 1 then (lodgerref05_May.j0 k true a0_0 a0_1 l0_2 a0_3 a0_4 a0_5 a0_6) else (if a0_4 > 64 then (lodgerref05_May.j0 k true a0_0 a0_1 l0_2 a0_3 a0_4 a0_5 a0_6) else (if a0_5 < 1 then (lodgerref05_May.j0 k true a0_0 a0_1 l0_2 a0_3 a0_4 a0_5 a0_6) else (if a0_5 > 64 then (lodgerref05_May.j0 k true a0_0 a0_1 l0_2 a0_3 a0_4 a0_5 a0_6) else (if a0_6 < 1 then (lodgerref05_May.j0 k true a0_0 a0_1 l0_2 a0_3 a0_4 a0_5 a0_6) else (lodgerref05_May.j0 k (decide (a0_6 > 8)) a0_0 a0_1 l0_2 a0_3 a0_4 a0_5 a0_6))))))))) else (lodgerref05_May.j0 k true a0_0 a0_1 l0_2 a0_3 a0_4 a0_5 a0_6)) = some r := H
  have A4 := Aside0.mk A40
  clear A40
  by_cases c5 : t161 = true
  ·subst c5
   have H1 : (if (l0_2.length : Int) > 64 then (lodgerref05_May.j0 k true a0_0 a0_1 l0_2 a0_3 a0_4 a0_5 a0_6) else (if a0_3 < 1 then (lodgerref05_May.j0 k true a0_0 a0_1 l0_2 a0_3 a0_4 a0_5 a0_6) else (if a0_3 > 64 then (lodgerref05_May.j0 k true a0_0 a0_1 l0_2 a0_3 a0_4 a0_5 a0_6) else (if a0_4 < 1 then (lodgerref05_May.j0 k true a0_0 a0_1 l0_2 a0_3 a0_4 a0_5 a0_6) else (if a0_4 > 64 then (lodgerref05_May.j0 k true a0_0 a0_1 l0_2 a0_3 a0_4 a0_5 a0_6) else (if a0_5 < 1 then (lodgerref05_May.j0 k true a0_0 a0_1 l0_2 a0_3 a0_4 a0_5 a0_6) else (if a0_5 > 64 then (lodgerref05_May.j0 k true a0_0 a0_1 l0_2 a0_3 a0_4 a0_5 a0_6) else (if a0_6 < 1 then (lodgerref05_May.j0 k true a0_0 a0_1 l0_2 a0_3 a0_4 a0_5 a0_6) else (lodgerref05_May.j0 k (decide (a0_6 > 8)) a0_0 a0_1 l0_2 a0_3 a0_4 a0_5 a0_6))))))))) = some r := by rw [if_pos rfl] at H; exact H
   clear H
   have H := H1
   clear H1
   by_cases c6 : (l0_2.length : Int) > 64
   ·rw [if_pos c6] at H
    have c6b0 : decide (64 < (l0_2.length : Int)) = true := decide_eq_true c6
    have c6b1 : decide (64 < l0_2.length) = true := decide_eq_true (by omega)
    clear c6
    (first | rw [c6b0] | (simp only [i64_w, i32_w]; rw [c6b0]) | skip)
    have H' := Aside0.mk H
    clear H
    have hcz7_0 : w3.cell? ⟨gb160, 0, none⟩ = some (.int .u32 a0_0) := (blk_cell BK160.out 0).trans rfl
    have hcz7_1 : w3.cell? ⟨gb160, 1, none⟩ = some (.int .i64 a0_1) := (blk_cell BK160.out 1).trans rfl
    have hcz7_2 : w3.cell? ⟨gb160, 2, none⟩ = some (.slice A0_2 l0_2.length c0_2) := (blk_cell BK160.out 2).trans rfl
    have hcz7_3 : w3.cell? ⟨gb160, 3, none⟩ = some (.int .i64 a0_3) := (blk_cell BK160.out 3).trans rfl
    have hcz7_4 : w3.cell? ⟨gb160, 4, none⟩ = some (.int .i64 a0_4) := (blk_cell BK160.out 4).trans rfl
    have hcz7_5 : w3.cell? ⟨gb160, 5, none⟩ = some (.int .i64 a0_5) := (blk_cell BK160.out 5).trans rfl
    have hcz7_6 : w3.cell? ⟨gb160, 6, none⟩ = some (.int .i64 a0_6) := (blk_cell BK160.out 6).trans rfl
    have hfz7_0 := blk_frozen BK160.out 0
    have hfz7_1 := blk_frozen BK160.out 1
    have hfz7_2 := blk_frozen BK160.out 2
    have hfz7_3 := blk_frozen BK160.out 3
    have hfz7_4 := blk_frozen BK160.out 4
    have hfz7_5 := blk_frozen BK160.out 5
    have hfz7_6 := blk_frozen BK160.out 6
    go_wp2_with (first | ((with_reducible refine gate_callee (f := 19) rfl ?_); refine goesL_ (some 6) rfl rfl Tryd.func19 (by kernel_rfl) rfl #[.agg #[.int .u32 a0_0, .int .i64 a0_1]] rfl (by (try simp only [List.map_toArray, List.map_cons, List.map_nil]); first | done | rfl | (simp only [List.length_drop, List.length_take]; rfl)) ?_; (with_reducible refine (lodgerref04_May.calls k a0_0 a0_1 true _ A4.out).mono ?_); rintro e w8 ⟨rfl, hb⟩; refine ⟨_, rfl, ?_⟩; have n0_ := Aside0.mk (blk_below (g := gb160) (o := .cells #[.int .u32 a0_0, .int .i64 a0_1, .slice A0_2 l0_2.length c0_2, .int .i64 a0_3, .int .i64 a0_4, .int .i64 a0_5, .int .i64 a0_6] 27 (0, 0)) (by (with_reducible repeat (first | refine blk_drewN ?_ _ | refine blk_drew ?_ | refine blk_alloc ?_ _)); exact BK160.out) hb); have n1_ := Aside0.mk (below_step (by repeat (first | (with_reducible first | exact HB.out | apply below_alloc | apply pw_below_drewN | apply below_drew1 | refine below_set ?_ GE160.out) | exact HB.out)) hb); clear BK160; clear HB; have BK160 := n0_; have HB := n1_; clear n0_ n1_; (try clear hb); (try clear hb2); (try clear hk); (try clear hi); have hcz9_0 : w8.cell? ⟨gb160, 0, none⟩ = some (.int .u32 a0_0) := (blk_cell BK160.out 0).trans rfl; have hcz9_1 : w8.cell? ⟨gb160, 1, none⟩ = some (.int .i64 a0_1) := (blk_cell BK160.out 1).trans rfl; have hcz9_2 : w8.cell? ⟨gb160, 2, none⟩ = some (.slice A0_2 l0_2.length c0_2) := (blk_cell BK160.out 2).trans rfl; have hcz9_3 : w8.cell? ⟨gb160, 3, none⟩ = some (.int .i64 a0_3) := (blk_cell BK160.out 3).trans rfl; have hcz9_4 : w8.cell? ⟨gb160, 4, none⟩ = some (.int .i64 a0_4) := (blk_cell BK160.out 4).trans rfl; have hcz9_5 : w8.cell? ⟨gb160, 5, none⟩ = some (.int .i64 a0_5) := (blk_cell BK160.out 5).trans rfl; have hcz9_6 : w8.cell? ⟨gb160, 6, none⟩ = some (.int .i64 a0_6) := (blk_cell BK160.out 6).trans rfl; have hfz9_0 := blk_frozen BK160.out 0; have hfz9_1 := blk_frozen BK160.out 1; have hfz9_2 := blk_frozen BK160.out 2; have hfz9_3 := blk_frozen BK160.out 3; have hfz9_4 := blk_frozen BK160.out 4; have hfz9_5 := blk_frozen BK160.out 5; have hfz9_6 := blk_frozen BK160.out 6))
    go_meet
    case rel => exact ⟨_, (true), (by first | rfl | (simp; done) | (simp [*]; done)), H', ⟨by first | omega | exact Nat.le_refl _⟩, ⟨by (with_reducible repeat (first | refine blk_drewN ?_ _ | refine blk_drew ?_ | refine blk_alloc ?_ _)); exact BK160.out⟩, ⟨by repeat (first | (with_reducible first | exact HB.out | apply below_alloc | apply pw_below_drewN | apply below_drew1 | refine below_set ?_ GE160.out) | exact HB.out)⟩⟩
   ·rw [if_neg c6] at H
    have c6b0 : decide (64 < (l0_2.length : Int)) = false := decide_eq_false c6
    have c6b1 : decide (64 < l0_2.length) = false := decide_eq_false (by omega)
    clear c6
    (first | rw [c6b0] | (simp only [i64_w, i32_w]; rw [c6b0]) | skip)
    by_cases c10 : a0_3 < 1
    ·rw [if_pos c10] at H
     have c10b0 : decide (a0_3 < 1) = true := decide_eq_true c10
     clear c10
     have H' := Aside0.mk H
     clear H
     have hcz11_0 : w3.cell? ⟨gb160, 0, none⟩ = some (.int .u32 a0_0) := (blk_cell BK160.out 0).trans rfl
     have hcz11_1 : w3.cell? ⟨gb160, 1, none⟩ = some (.int .i64 a0_1) := (blk_cell BK160.out 1).trans rfl
     have hcz11_2 : w3.cell? ⟨gb160, 2, none⟩ = some (.slice A0_2 l0_2.length c0_2) := (blk_cell BK160.out 2).trans rfl
     have hcz11_3 : w3.cell? ⟨gb160, 3, none⟩ = some (.int .i64 a0_3) := (blk_cell BK160.out 3).trans rfl
     have hcz11_4 : w3.cell? ⟨gb160, 4, none⟩ = some (.int .i64 a0_4) := (blk_cell BK160.out 4).trans rfl
     have hcz11_5 : w3.cell? ⟨gb160, 5, none⟩ = some (.int .i64 a0_5) := (blk_cell BK160.out 5).trans rfl
     have hcz11_6 : w3.cell? ⟨gb160, 6, none⟩ = some (.int .i64 a0_6) := (blk_cell BK160.out 6).trans rfl
     have hfz11_0 := blk_frozen BK160.out 0
     have hfz11_1 := blk_frozen BK160.out 1
     have hfz11_2 := blk_frozen BK160.out 2
     have hfz11_3 := blk_frozen BK160.out 3
     have hfz11_4 := blk_frozen BK160.out 4
     have hfz11_5 := blk_frozen BK160.out 5
     have hfz11_6 := blk_frozen BK160.out 6
     go_wp2_with (first | ((with_reducible refine gate_callee (f := 19) rfl ?_); refine goesL_ (some 6) rfl rfl Tryd.func19 (by kernel_rfl) rfl #[.agg #[.int .u32 a0_0, .int .i64 a0_1]] rfl (by (try simp only [List.map_toArray, List.map_cons, List.map_nil]); first | done | rfl | (simp only [List.length_drop, List.length_take]; rfl)) ?_; (with_reducible refine (lodgerref04_May.calls k a0_0 a0_1 true _ A4.out).mono ?_); rintro e w12 ⟨rfl, hb⟩; refine ⟨_, rfl, ?_⟩; have n0_ := Aside0.mk (blk_below (g := gb160) (o := .cells #[.int .u32 a0_0, .int .i64 a0_1, .slice A0_2 l0_2.length c0_2, .int .i64 a0_3, .int .i64 a0_4, .int .i64 a0_5, .int .i64 a0_6] 27 (0, 0)) (by (with_reducible repeat (first | refine blk_drewN ?_ _ | refine blk_drew ?_ | refine blk_alloc ?_ _)); exact BK160.out) hb); have n1_ := Aside0.mk (below_step (by repeat (first | (with_reducible first | exact HB.out | apply below_alloc | apply pw_below_drewN | apply below_drew1 | refine below_set ?_ GE160.out) | exact HB.out)) hb); clear BK160; clear HB; have BK160 := n0_; have HB := n1_; clear n0_ n1_; (try clear hb); (try clear hb2); (try clear hk); (try clear hi); have hcz13_0 : w12.cell? ⟨gb160, 0, none⟩ = some (.int .u32 a0_0) := (blk_cell BK160.out 0).trans rfl; have hcz13_1 : w12.cell? ⟨gb160, 1, none⟩ = some (.int .i64 a0_1) := (blk_cell BK160.out 1).trans rfl; have hcz13_2 : w12.cell? ⟨gb160, 2, none⟩ = some (.slice A0_2 l0_2.length c0_2) := (blk_cell BK160.out 2).trans rfl; have hcz13_3 : w12.cell? ⟨gb160, 3, none⟩ = some (.int .i64 a0_3) := (blk_cell BK160.out 3).trans rfl; have hcz13_4 : w12.cell? ⟨gb160, 4, none⟩ = some (.int .i64 a0_4) := (blk_cell BK160.out 4).trans rfl; have hcz13_5 : w12.cell? ⟨gb160, 5, none⟩ = some (.int .i64 a0_5) := (blk_cell BK160.out 5).trans rfl; have hcz13_6 : w12.cell? ⟨gb160, 6, none⟩ = some (.int .i64 a0_6) := (blk_cell BK160.out 6).trans rfl; have hfz13_0 := blk_frozen BK160.out 0; have hfz13_1 := blk_frozen BK160.out 1; have hfz13_2 := blk_frozen BK160.out 2; have hfz13_3 := blk_frozen BK160.out 3; have hfz13_4 := blk_frozen BK160.out 4; have hfz13_5 := blk_frozen BK160.out 5; have hfz13_6 := blk_frozen BK160.out 6))
     go_meet
     case rel => exact ⟨_, (true), (by first | rfl | (simp; done) | (simp [*]; done)), H', ⟨by first | omega | exact Nat.le_refl _⟩, ⟨by (with_reducible repeat (first | refine blk_drewN ?_ _ | refine blk_drew ?_ | refine blk_alloc ?_ _)); exact BK160.out⟩, ⟨by repeat (first | (with_reducible first | exact HB.out | apply below_alloc | apply pw_below_drewN | apply below_drew1 | refine below_set ?_ GE160.out) | exact HB.out)⟩⟩
    ·rw [if_neg c10] at H
     have c10b0 : decide (a0_3 < 1) = false := decide_eq_false c10
     clear c10
     by_cases c14 : a0_3 > 64
     ·rw [if_pos c14] at H
      have c14b0 : decide (64 < a0_3) = true := decide_eq_true c14
      clear c14
      have H' := Aside0.mk H
      clear H
      have hcz15_0 : w3.cell? ⟨gb160, 0, none⟩ = some (.int .u32 a0_0) := (blk_cell BK160.out 0).trans rfl
      have hcz15_1 : w3.cell? ⟨gb160, 1, none⟩ = some (.int .i64 a0_1) := (blk_cell BK160.out 1).trans rfl
      have hcz15_2 : w3.cell? ⟨gb160, 2, none⟩ = some (.slice A0_2 l0_2.length c0_2) := (blk_cell BK160.out 2).trans rfl
      have hcz15_3 : w3.cell? ⟨gb160, 3, none⟩ = some (.int .i64 a0_3) := (blk_cell BK160.out 3).trans rfl
      have hcz15_4 : w3.cell? ⟨gb160, 4, none⟩ = some (.int .i64 a0_4) := (blk_cell BK160.out 4).trans rfl
      have hcz15_5 : w3.cell? ⟨gb160, 5, none⟩ = some (.int .i64 a0_5) := (blk_cell BK160.out 5).trans rfl
      have hcz15_6 : w3.cell? ⟨gb160, 6, none⟩ = some (.int .i64 a0_6) := (blk_cell BK160.out 6).trans rfl
      have hfz15_0 := blk_frozen BK160.out 0
      have hfz15_1 := blk_frozen BK160.out 1
      have hfz15_2 := blk_frozen BK160.out 2
      have hfz15_3 := blk_frozen BK160.out 3
      have hfz15_4 := blk_frozen BK160.out 4
      have hfz15_5 := blk_frozen BK160.out 5
      have hfz15_6 := blk_frozen BK160.out 6
      go_wp2_with (first | ((with_reducible refine gate_callee (f := 19) rfl ?_); refine goesL_ (some 6) rfl rfl Tryd.func19 (by kernel_rfl) rfl #[.agg #[.int .u32 a0_0, .int .i64 a0_1]] rfl (by (try simp only [List.map_toArray, List.map_cons, List.map_nil]); first | done | rfl | (simp only [List.length_drop, List.length_take]; rfl)) ?_; (with_reducible refine (lodgerref04_May.calls k a0_0 a0_1 true _ A4.out).mono ?_); rintro e w16 ⟨rfl, hb⟩; refine ⟨_, rfl, ?_⟩; have n0_ := Aside0.mk (blk_below (g := gb160) (o := .cells #[.int .u32 a0_0, .int .i64 a0_1, .slice A0_2 l0_2.length c0_2, .int .i64 a0_3, .int .i64 a0_4, .int .i64 a0_5, .int .i64 a0_6] 27 (0, 0)) (by (with_reducible repeat (first | refine blk_drewN ?_ _ | refine blk_drew ?_ | refine blk_alloc ?_ _)); exact BK160.out) hb); have n1_ := Aside0.mk (below_step (by repeat (first | (with_reducible first | exact HB.out | apply below_alloc | apply pw_below_drewN | apply below_drew1 | refine below_set ?_ GE160.out) | exact HB.out)) hb); clear BK160; clear HB; have BK160 := n0_; have HB := n1_; clear n0_ n1_; (try clear hb); (try clear hb2); (try clear hk); (try clear hi); have hcz17_0 : w16.cell? ⟨gb160, 0, none⟩ = some (.int .u32 a0_0) := (blk_cell BK160.out 0).trans rfl; have hcz17_1 : w16.cell? ⟨gb160, 1, none⟩ = some (.int .i64 a0_1) := (blk_cell BK160.out 1).trans rfl; have hcz17_2 : w16.cell? ⟨gb160, 2, none⟩ = some (.slice A0_2 l0_2.length c0_2) := (blk_cell BK160.out 2).trans rfl; have hcz17_3 : w16.cell? ⟨gb160, 3, none⟩ = some (.int .i64 a0_3) := (blk_cell BK160.out 3).trans rfl; have hcz17_4 : w16.cell? ⟨gb160, 4, none⟩ = some (.int .i64 a0_4) := (blk_cell BK160.out 4).trans rfl; have hcz17_5 : w16.cell? ⟨gb160, 5, none⟩ = some (.int .i64 a0_5) := (blk_cell BK160.out 5).trans rfl; have hcz17_6 : w16.cell? ⟨gb160, 6, none⟩ = some (.int .i64 a0_6) := (blk_cell BK160.out 6).trans rfl; have hfz17_0 := blk_frozen BK160.out 0; have hfz17_1 := blk_frozen BK160.out 1; have hfz17_2 := blk_frozen BK160.out 2; have hfz17_3 := blk_frozen BK160.out 3; have hfz17_4 := blk_frozen BK160.out 4; have hfz17_5 := blk_frozen BK160.out 5; have hfz17_6 := blk_frozen BK160.out 6))
      go_meet
      case rel => exact ⟨_, (true), (by first | rfl | (simp; done) | (simp [*]; done)), H', ⟨by first | omega | exact Nat.le_refl _⟩, ⟨by (with_reducible repeat (first | refine blk_drewN ?_ _ | refine blk_drew ?_ | refine blk_alloc ?_ _)); exact BK160.out⟩, ⟨by repeat (first | (with_reducible first | exact HB.out | apply below_alloc | apply pw_below_drewN | apply below_drew1 | refine below_set ?_ GE160.out) | exact HB.out)⟩⟩
     ·rw [if_neg c14] at H
      have c14b0 : decide (64 < a0_3) = false := decide_eq_false c14
      clear c14
      by_cases c18 : a0_4 < 1
      ·rw [if_pos c18] at H
       have c18b0 : decide (a0_4 < 1) = true := decide_eq_true c18
       clear c18
       have H' := Aside0.mk H
       clear H
       have hcz19_0 : w3.cell? ⟨gb160, 0, none⟩ = some (.int .u32 a0_0) := (blk_cell BK160.out 0).trans rfl
       have hcz19_1 : w3.cell? ⟨gb160, 1, none⟩ = some (.int .i64 a0_1) := (blk_cell BK160.out 1).trans rfl
       have hcz19_2 : w3.cell? ⟨gb160, 2, none⟩ = some (.slice A0_2 l0_2.length c0_2) := (blk_cell BK160.out 2).trans rfl
       have hcz19_3 : w3.cell? ⟨gb160, 3, none⟩ = some (.int .i64 a0_3) := (blk_cell BK160.out 3).trans rfl
       have hcz19_4 : w3.cell? ⟨gb160, 4, none⟩ = some (.int .i64 a0_4) := (blk_cell BK160.out 4).trans rfl
       have hcz19_5 : w3.cell? ⟨gb160, 5, none⟩ = some (.int .i64 a0_5) := (blk_cell BK160.out 5).trans rfl
       have hcz19_6 : w3.cell? ⟨gb160, 6, none⟩ = some (.int .i64 a0_6) := (blk_cell BK160.out 6).trans rfl
       have hfz19_0 := blk_frozen BK160.out 0
       have hfz19_1 := blk_frozen BK160.out 1
       have hfz19_2 := blk_frozen BK160.out 2
       have hfz19_3 := blk_frozen BK160.out 3
       have hfz19_4 := blk_frozen BK160.out 4
       have hfz19_5 := blk_frozen BK160.out 5
       have hfz19_6 := blk_frozen BK160.out 6
       go_wp2_with (first | ((with_reducible refine gate_callee (f := 19) rfl ?_); refine goesL_ (some 6) rfl rfl Tryd.func19 (by kernel_rfl) rfl #[.agg #[.int .u32 a0_0, .int .i64 a0_1]] rfl (by (try simp only [List.map_toArray, List.map_cons, List.map_nil]); first | done | rfl | (simp only [List.length_drop, List.length_take]; rfl)) ?_; (with_reducible refine (lodgerref04_May.calls k a0_0 a0_1 true _ A4.out).mono ?_); rintro e w20 ⟨rfl, hb⟩; refine ⟨_, rfl, ?_⟩; have n0_ := Aside0.mk (blk_below (g := gb160) (o := .cells #[.int .u32 a0_0, .int .i64 a0_1, .slice A0_2 l0_2.length c0_2, .int .i64 a0_3, .int .i64 a0_4, .int .i64 a0_5, .int .i64 a0_6] 27 (0, 0)) (by (with_reducible repeat (first | refine blk_drewN ?_ _ | refine blk_drew ?_ | refine blk_alloc ?_ _)); exact BK160.out) hb); have n1_ := Aside0.mk (below_step (by repeat (first | (with_reducible first | exact HB.out | apply below_alloc | apply pw_below_drewN | apply below_drew1 | refine below_set ?_ GE160.out) | exact HB.out)) hb); clear BK160; clear HB; have BK160 := n0_; have HB := n1_; clear n0_ n1_; (try clear hb); (try clear hb2); (try clear hk); (try clear hi); have hcz21_0 : w20.cell? ⟨gb160, 0, none⟩ = some (.int .u32 a0_0) := (blk_cell BK160.out 0).trans rfl; have hcz21_1 : w20.cell? ⟨gb160, 1, none⟩ = some (.int .i64 a0_1) := (blk_cell BK160.out 1).trans rfl; have hcz21_2 : w20.cell? ⟨gb160, 2, none⟩ = some (.slice A0_2 l0_2.length c0_2) := (blk_cell BK160.out 2).trans rfl; have hcz21_3 : w20.cell? ⟨gb160, 3, none⟩ = some (.int .i64 a0_3) := (blk_cell BK160.out 3).trans rfl; have hcz21_4 : w20.cell? ⟨gb160, 4, none⟩ = some (.int .i64 a0_4) := (blk_cell BK160.out 4).trans rfl; have hcz21_5 : w20.cell? ⟨gb160, 5, none⟩ = some (.int .i64 a0_5) := (blk_cell BK160.out 5).trans rfl; have hcz21_6 : w20.cell? ⟨gb160, 6, none⟩ = some (.int .i64 a0_6) := (blk_cell BK160.out 6).trans rfl; have hfz21_0 := blk_frozen BK160.out 0; have hfz21_1 := blk_frozen BK160.out 1; have hfz21_2 := blk_frozen BK160.out 2; have hfz21_3 := blk_frozen BK160.out 3; have hfz21_4 := blk_frozen BK160.out 4; have hfz21_5 := blk_frozen BK160.out 5; have hfz21_6 := blk_frozen BK160.out 6))
       go_meet
       case rel => exact ⟨_, (true), (by first | rfl | (simp; done) | (simp [*]; done)), H', ⟨by first | omega | exact Nat.le_refl _⟩, ⟨by (with_reducible repeat (first | refine blk_drewN ?_ _ | refine blk_drew ?_ | refine blk_alloc ?_ _)); exact BK160.out⟩, ⟨by repeat (first | (with_reducible first | exact HB.out | apply below_alloc | apply pw_below_drewN | apply below_drew1 | refine below_set ?_ GE160.out) | exact HB.out)⟩⟩
      ·rw [if_neg c18] at H
       have c18b0 : decide (a0_4 < 1) = false := decide_eq_false c18
       clear c18
       by_cases c22 : a0_4 > 64
       ·rw [if_pos c22] at H
        have c22b0 : decide (64 < a0_4) = true := decide_eq_true c22
        clear c22
        have H' := Aside0.mk H
        clear H
        have hcz23_0 : w3.cell? ⟨gb160, 0, none⟩ = some (.int .u32 a0_0) := (blk_cell BK160.out 0).trans rfl
        have hcz23_1 : w3.cell? ⟨gb160, 1, none⟩ = some (.int .i64 a0_1) := (blk_cell BK160.out 1).trans rfl
        have hcz23_2 : w3.cell? ⟨gb160, 2, none⟩ = some (.slice A0_2 l0_2.length c0_2) := (blk_cell BK160.out 2).trans rfl
        have hcz23_3 : w3.cell? ⟨gb160, 3, none⟩ = some (.int .i64 a0_3) := (blk_cell BK160.out 3).trans rfl
        have hcz23_4 : w3.cell? ⟨gb160, 4, none⟩ = some (.int .i64 a0_4) := (blk_cell BK160.out 4).trans rfl
        have hcz23_5 : w3.cell? ⟨gb160, 5, none⟩ = some (.int .i64 a0_5) := (blk_cell BK160.out 5).trans rfl
        have hcz23_6 : w3.cell? ⟨gb160, 6, none⟩ = some (.int .i64 a0_6) := (blk_cell BK160.out 6).trans rfl
        have hfz23_0 := blk_frozen BK160.out 0
        have hfz23_1 := blk_frozen BK160.out 1
        have hfz23_2 := blk_frozen BK160.out 2
        have hfz23_3 := blk_frozen BK160.out 3
        have hfz23_4 := blk_frozen BK160.out 4
        have hfz23_5 := blk_frozen BK160.out 5
        have hfz23_6 := blk_frozen BK160.out 6
        go_wp2_with (first | ((with_reducible refine gate_callee (f := 19) rfl ?_); refine goesL_ (some 6) rfl rfl Tryd.func19 (by kernel_rfl) rfl #[.agg #[.int .u32 a0_0, .int .i64 a0_1]] rfl (by (try simp only [List.map_toArray, List.map_cons, List.map_nil]); first | done | rfl | (simp only [List.length_drop, List.length_take]; rfl)) ?_; (with_reducible refine (lodgerref04_May.calls k a0_0 a0_1 true _ A4.out).mono ?_); rintro e w24 ⟨rfl, hb⟩; refine ⟨_, rfl, ?_⟩; have n0_ := Aside0.mk (blk_below (g := gb160) (o := .cells #[.int .u32 a0_0, .int .i64 a0_1, .slice A0_2 l0_2.length c0_2, .int .i64 a0_3, .int .i64 a0_4, .int .i64 a0_5, .int .i64 a0_6] 27 (0, 0)) (by (with_reducible repeat (first | refine blk_drewN ?_ _ | refine blk_drew ?_ | refine blk_alloc ?_ _)); exact BK160.out) hb); have n1_ := Aside0.mk (below_step (by repeat (first | (with_reducible first | exact HB.out | apply below_alloc | apply pw_below_drewN | apply below_drew1 | refine below_set ?_ GE160.out) | exact HB.out)) hb); clear BK160; clear HB; have BK160 := n0_; have HB := n1_; clear n0_ n1_; (try clear hb); (try clear hb2); (try clear hk); (try clear hi); have hcz25_0 : w24.cell? ⟨gb160, 0, none⟩ = some (.int .u32 a0_0) := (blk_cell BK160.out 0).trans rfl; have hcz25_1 : w24.cell? ⟨gb160, 1, none⟩ = some (.int .i64 a0_1) := (blk_cell BK160.out 1).trans rfl; have hcz25_2 : w24.cell? ⟨gb160, 2, none⟩ = some (.slice A0_2 l0_2.length c0_2) := (blk_cell BK160.out 2).trans rfl; have hcz25_3 : w24.cell? ⟨gb160, 3, none⟩ = some (.int .i64 a0_3) := (blk_cell BK160.out 3).trans rfl; have hcz25_4 : w24.cell? ⟨gb160, 4, none⟩ = some (.int .i64 a0_4) := (blk_cell BK160.out 4).trans rfl; have hcz25_5 : w24.cell? ⟨gb160, 5, none⟩ = some (.int .i64 a0_5) := (blk_cell BK160.out 5).trans rfl; have hcz25_6 : w24.cell? ⟨gb160, 6, none⟩ = some (.int .i64 a0_6) := (blk_cell BK160.out 6).trans rfl; have hfz25_0 := blk_frozen BK160.out 0; have hfz25_1 := blk_frozen BK160.out 1; have hfz25_2 := blk_frozen BK160.out 2; have hfz25_3 := blk_frozen BK160.out 3; have hfz25_4 := blk_frozen BK160.out 4; have hfz25_5 := blk_frozen BK160.out 5; have hfz25_6 := blk_frozen BK160.out 6))
        go_meet
        case rel => exact ⟨_, (true), (by first | rfl | (simp; done) | (simp [*]; done)), H', ⟨by first | omega | exact Nat.le_refl _⟩, ⟨by (with_reducible repeat (first | refine blk_drewN ?_ _ | refine blk_drew ?_ | refine blk_alloc ?_ _)); exact BK160.out⟩, ⟨by repeat (first | (with_reducible first | exact HB.out | apply below_alloc | apply pw_below_drewN | apply below_drew1 | refine below_set ?_ GE160.out) | exact HB.out)⟩⟩
       ·rw [if_neg c22] at H
        have c22b0 : decide (64 < a0_4) = false := decide_eq_false c22
        clear c22
        by_cases c26 : a0_5 < 1
        ·rw [if_pos c26] at H
         have c26b0 : decide (a0_5 < 1) = true := decide_eq_true c26
         clear c26
         have H' := Aside0.mk H
         clear H
         have hcz27_0 : w3.cell? ⟨gb160, 0, none⟩ = some (.int .u32 a0_0) := (blk_cell BK160.out 0).trans rfl
         have hcz27_1 : w3.cell? ⟨gb160, 1, none⟩ = some (.int .i64 a0_1) := (blk_cell BK160.out 1).trans rfl
         have hcz27_2 : w3.cell? ⟨gb160, 2, none⟩ = some (.slice A0_2 l0_2.length c0_2) := (blk_cell BK160.out 2).trans rfl
         have hcz27_3 : w3.cell? ⟨gb160, 3, none⟩ = some (.int .i64 a0_3) := (blk_cell BK160.out 3).trans rfl
         have hcz27_4 : w3.cell? ⟨gb160, 4, none⟩ = some (.int .i64 a0_4) := (blk_cell BK160.out 4).trans rfl
         have hcz27_5 : w3.cell? ⟨gb160, 5, none⟩ = some (.int .i64 a0_5) := (blk_cell BK160.out 5).trans rfl
         have hcz27_6 : w3.cell? ⟨gb160, 6, none⟩ = some (.int .i64 a0_6) := (blk_cell BK160.out 6).trans rfl
         have hfz27_0 := blk_frozen BK160.out 0
         have hfz27_1 := blk_frozen BK160.out 1
         have hfz27_2 := blk_frozen BK160.out 2
         have hfz27_3 := blk_frozen BK160.out 3
         have hfz27_4 := blk_frozen BK160.out 4
         have hfz27_5 := blk_frozen BK160.out 5
         have hfz27_6 := blk_frozen BK160.out 6
         go_wp2_with (first | ((with_reducible refine gate_callee (f := 19) rfl ?_); refine goesL_ (some 6) rfl rfl Tryd.func19 (by kernel_rfl) rfl #[.agg #[.int .u32 a0_0, .int .i64 a0_1]] rfl (by (try simp only [List.map_toArray, List.map_cons, List.map_nil]); first | done | rfl | (simp only [List.length_drop, List.length_take]; rfl)) ?_; (with_reducible refine (lodgerref04_May.calls k a0_0 a0_1 true _ A4.out).mono ?_); rintro e w28 ⟨rfl, hb⟩; refine ⟨_, rfl, ?_⟩; have n0_ := Aside0.mk (blk_below (g := gb160) (o := .cells #[.int .u32 a0_0, .int .i64 a0_1, .slice A0_2 l0_2.length c0_2, .int .i64 a0_3, .int .i64 a0_4, .int .i64 a0_5, .int .i64 a0_6] 27 (0, 0)) (by (with_reducible repeat (first | refine blk_drewN ?_ _ | refine blk_drew ?_ | refine blk_alloc ?_ _)); exact BK160.out) hb); have n1_ := Aside0.mk (below_step (by repeat (first | (with_reducible first | exact HB.out | apply below_alloc | apply pw_below_drewN | apply below_drew1 | refine below_set ?_ GE160.out) | exact HB.out)) hb); clear BK160; clear HB; have BK160 := n0_; have HB := n1_; clear n0_ n1_; (try clear hb); (try clear hb2); (try clear hk); (try clear hi); have hcz29_0 : w28.cell? ⟨gb160, 0, none⟩ = some (.int .u32 a0_0) := (blk_cell BK160.out 0).trans rfl; have hcz29_1 : w28.cell? ⟨gb160, 1, none⟩ = some (.int .i64 a0_1) := (blk_cell BK160.out 1).trans rfl; have hcz29_2 : w28.cell? ⟨gb160, 2, none⟩ = some (.slice A0_2 l0_2.length c0_2) := (blk_cell BK160.out 2).trans rfl; have hcz29_3 : w28.cell? ⟨gb160, 3, none⟩ = some (.int .i64 a0_3) := (blk_cell BK160.out 3).trans rfl; have hcz29_4 : w28.cell? ⟨gb160, 4, none⟩ = some (.int .i64 a0_4) := (blk_cell BK160.out 4).trans rfl; have hcz29_5 : w28.cell? ⟨gb160, 5, none⟩ = some (.int .i64 a0_5) := (blk_cell BK160.out 5).trans rfl; have hcz29_6 : w28.cell? ⟨gb160, 6, none⟩ = some (.int .i64 a0_6) := (blk_cell BK160.out 6).trans rfl; have hfz29_0 := blk_frozen BK160.out 0; have hfz29_1 := blk_frozen BK160.out 1; have hfz29_2 := blk_frozen BK160.out 2; have hfz29_3 := blk_frozen BK160.out 3; have hfz29_4 := blk_frozen BK160.out 4; have hfz29_5 := blk_frozen BK160.out 5; have hfz29_6 := blk_frozen BK160.out 6))
         go_meet
         case rel => exact ⟨_, (true), (by first | rfl | (simp; done) | (simp [*]; done)), H', ⟨by first | omega | exact Nat.le_refl _⟩, ⟨by (with_reducible repeat (first | refine blk_drewN ?_ _ | refine blk_drew ?_ | refine blk_alloc ?_ _)); exact BK160.out⟩, ⟨by repeat (first | (with_reducible first | exact HB.out | apply below_alloc | apply pw_below_drewN | apply below_drew1 | refine below_set ?_ GE160.out) | exact HB.out)⟩⟩
        ·rw [if_neg c26] at H
         have c26b0 : decide (a0_5 < 1) = false := decide_eq_false c26
         clear c26
         by_cases c30 : a0_5 > 64
         ·rw [if_pos c30] at H
          have c30b0 : decide (64 < a0_5) = true := decide_eq_true c30
          clear c30
          have H' := Aside0.mk H
          clear H
          have hcz31_0 : w3.cell? ⟨gb160, 0, none⟩ = some (.int .u32 a0_0) := (blk_cell BK160.out 0).trans rfl
          have hcz31_1 : w3.cell? ⟨gb160, 1, none⟩ = some (.int .i64 a0_1) := (blk_cell BK160.out 1).trans rfl
          have hcz31_2 : w3.cell? ⟨gb160, 2, none⟩ = some (.slice A0_2 l0_2.length c0_2) := (blk_cell BK160.out 2).trans rfl
          have hcz31_3 : w3.cell? ⟨gb160, 3, none⟩ = some (.int .i64 a0_3) := (blk_cell BK160.out 3).trans rfl
          have hcz31_4 : w3.cell? ⟨gb160, 4, none⟩ = some (.int .i64 a0_4) := (blk_cell BK160.out 4).trans rfl
          have hcz31_5 : w3.cell? ⟨gb160, 5, none⟩ = some (.int .i64 a0_5) := (blk_cell BK160.out 5).trans rfl
          have hcz31_6 : w3.cell? ⟨gb160, 6, none⟩ = some (.int .i64 a0_6) := (blk_cell BK160.out 6).trans rfl
          have hfz31_0 := blk_frozen BK160.out 0
          have hfz31_1 := blk_frozen BK160.out 1
          have hfz31_2 := blk_frozen BK160.out 2
          have hfz31_3 := blk_frozen BK160.out 3
          have hfz31_4 := blk_frozen BK160.out 4
          have hfz31_5 := blk_frozen BK160.out 5
          have hfz31_6 := blk_frozen BK160.out 6
          go_wp2_with (first | ((with_reducible refine gate_callee (f := 19) rfl ?_); refine goesL_ (some 6) rfl rfl Tryd.func19 (by kernel_rfl) rfl #[.agg #[.int .u32 a0_0, .int .i64 a0_1]] rfl (by (try simp only [List.map_toArray, List.map_cons, List.map_nil]); first | done | rfl | (simp only [List.length_drop, List.length_take]; rfl)) ?_; (with_reducible refine (lodgerref04_May.calls k a0_0 a0_1 true _ A4.out).mono ?_); rintro e w32 ⟨rfl, hb⟩; refine ⟨_, rfl, ?_⟩; have n0_ := Aside0.mk (blk_below (g := gb160) (o := .cells #[.int .u32 a0_0, .int .i64 a0_1, .slice A0_2 l0_2.length c0_2, .int .i64 a0_3, .int .i64 a0_4, .int .i64 a0_5, .int .i64 a0_6] 27 (0, 0)) (by (with_reducible repeat (first | refine blk_drewN ?_ _ | refine blk_drew ?_ | refine blk_alloc ?_ _)); exact BK160.out) hb); have n1_ := Aside0.mk (below_step (by repeat (first | (with_reducible first | exact HB.out | apply below_alloc | apply pw_below_drewN | apply below_drew1 | refine below_set ?_ GE160.out) | exact HB.out)) hb); clear BK160; clear HB; have BK160 := n0_; have HB := n1_; clear n0_ n1_; (try clear hb); (try clear hb2); (try clear hk); (try clear hi); have hcz33_0 : w32.cell? ⟨gb160, 0, none⟩ = some (.int .u32 a0_0) := (blk_cell BK160.out 0).trans rfl; have hcz33_1 : w32.cell? ⟨gb160, 1, none⟩ = some (.int .i64 a0_1) := (blk_cell BK160.out 1).trans rfl; have hcz33_2 : w32.cell? ⟨gb160, 2, none⟩ = some (.slice A0_2 l0_2.length c0_2) := (blk_cell BK160.out 2).trans rfl; have hcz33_3 : w32.cell? ⟨gb160, 3, none⟩ = some (.int .i64 a0_3) := (blk_cell BK160.out 3).trans rfl; have hcz33_4 : w32.cell? ⟨gb160, 4, none⟩ = some (.int .i64 a0_4) := (blk_cell BK160.out 4).trans rfl; have hcz33_5 : w32.cell? ⟨gb160, 5, none⟩ = some (.int .i64 a0_5) := (blk_cell BK160.out 5).trans rfl; have hcz33_6 : w32.cell? ⟨gb160, 6, none⟩ = some (.int .i64 a0_6) := (blk_cell BK160.out 6).trans rfl; have hfz33_0 := blk_frozen BK160.out 0; have hfz33_1 := blk_frozen BK160.out 1; have hfz33_2 := blk_frozen BK160.out 2; have hfz33_3 := blk_frozen BK160.out 3; have hfz33_4 := blk_frozen BK160.out 4; have hfz33_5 := blk_frozen BK160.out 5; have hfz33_6 := blk_frozen BK160.out 6))
          go_meet
          case rel => exact ⟨_, (true), (by first | rfl | (simp; done) | (simp [*]; done)), H', ⟨by first | omega | exact Nat.le_refl _⟩, ⟨by (with_reducible repeat (first | refine blk_drewN ?_ _ | refine blk_drew ?_ | refine blk_alloc ?_ _)); exact BK160.out⟩, ⟨by repeat (first | (with_reducible first | exact HB.out | apply below_alloc | apply pw_below_drewN | apply below_drew1 | refine below_set ?_ GE160.out) | exact HB.out)⟩⟩
         ·rw [if_neg c30] at H
          have c30b0 : decide (64 < a0_5) = false := decide_eq_false c30
          clear c30
          by_cases c34 : a0_6 < 1
          ·rw [if_pos c34] at H
           have c34b0 : decide (a0_6 < 1) = true := decide_eq_true c34
           clear c34
           have H' := Aside0.mk H
           clear H
           have hcz35_0 : w3.cell? ⟨gb160, 0, none⟩ = some (.int .u32 a0_0) := (blk_cell BK160.out 0).trans rfl
           have hcz35_1 : w3.cell? ⟨gb160, 1, none⟩ = some (.int .i64 a0_1) := (blk_cell BK160.out 1).trans rfl
           have hcz35_2 : w3.cell? ⟨gb160, 2, none⟩ = some (.slice A0_2 l0_2.length c0_2) := (blk_cell BK160.out 2).trans rfl
           have hcz35_3 : w3.cell? ⟨gb160, 3, none⟩ = some (.int .i64 a0_3) := (blk_cell BK160.out 3).trans rfl
           have hcz35_4 : w3.cell? ⟨gb160, 4, none⟩ = some (.int .i64 a0_4) := (blk_cell BK160.out 4).trans rfl
           have hcz35_5 : w3.cell? ⟨gb160, 5, none⟩ = some (.int .i64 a0_5) := (blk_cell BK160.out 5).trans rfl
           have hcz35_6 : w3.cell? ⟨gb160, 6, none⟩ = some (.int .i64 a0_6) := (blk_cell BK160.out 6).trans rfl
           have hfz35_0 := blk_frozen BK160.out 0
           have hfz35_1 := blk_frozen BK160.out 1
           have hfz35_2 := blk_frozen BK160.out 2
           have hfz35_3 := blk_frozen BK160.out 3
           have hfz35_4 := blk_frozen BK160.out 4
           have hfz35_5 := blk_frozen BK160.out 5
           have hfz35_6 := blk_frozen BK160.out 6
           go_wp2_with (first | ((with_reducible refine gate_callee (f := 19) rfl ?_); refine goesL_ (some 6) rfl rfl Tryd.func19 (by kernel_rfl) rfl #[.agg #[.int .u32 a0_0, .int .i64 a0_1]] rfl (by (try simp only [List.map_toArray, List.map_cons, List.map_nil]); first | done | rfl | (simp only [List.length_drop, List.length_take]; rfl)) ?_; (with_reducible refine (lodgerref04_May.calls k a0_0 a0_1 true _ A4.out).mono ?_); rintro e w36 ⟨rfl, hb⟩; refine ⟨_, rfl, ?_⟩; have n0_ := Aside0.mk (blk_below (g := gb160) (o := .cells #[.int .u32 a0_0, .int .i64 a0_1, .slice A0_2 l0_2.length c0_2, .int .i64 a0_3, .int .i64 a0_4, .int .i64 a0_5, .int .i64 a0_6] 27 (0, 0)) (by (with_reducible repeat (first | refine blk_drewN ?_ _ | refine blk_drew ?_ | refine blk_alloc ?_ _)); exact BK160.out) hb); have n1_ := Aside0.mk (below_step (by repeat (first | (with_reducible first | exact HB.out | apply below_alloc | apply pw_below_drewN | apply below_drew1 | refine below_set ?_ GE160.out) | exact HB.out)) hb); clear BK160; clear HB; have BK160 := n0_; have HB := n1_; clear n0_ n1_; (try clear hb); (try clear hb2); (try clear hk); (try clear hi); have hcz37_0 : w36.cell? ⟨gb160, 0, none⟩ = some (.int .u32 a0_0) := (blk_cell BK160.out 0).trans rfl; have hcz37_1 : w36.cell? ⟨gb160, 1, none⟩ = some (.int .i64 a0_1) := (blk_cell BK160.out 1).trans rfl; have hcz37_2 : w36.cell? ⟨gb160, 2, none⟩ = some (.slice A0_2 l0_2.length c0_2) := (blk_cell BK160.out 2).trans rfl; have hcz37_3 : w36.cell? ⟨gb160, 3, none⟩ = some (.int .i64 a0_3) := (blk_cell BK160.out 3).trans rfl; have hcz37_4 : w36.cell? ⟨gb160, 4, none⟩ = some (.int .i64 a0_4) := (blk_cell BK160.out 4).trans rfl; have hcz37_5 : w36.cell? ⟨gb160, 5, none⟩ = some (.int .i64 a0_5) := (blk_cell BK160.out 5).trans rfl; have hcz37_6 : w36.cell? ⟨gb160, 6, none⟩ = some (.int .i64 a0_6) := (blk_cell BK160.out 6).trans rfl; have hfz37_0 := blk_frozen BK160.out 0; have hfz37_1 := blk_frozen BK160.out 1; have hfz37_2 := blk_frozen BK160.out 2; have hfz37_3 := blk_frozen BK160.out 3; have hfz37_4 := blk_frozen BK160.out 4; have hfz37_5 := blk_frozen BK160.out 5; have hfz37_6 := blk_frozen BK160.out 6))
           go_meet
           case rel => exact ⟨_, (true), (by first | rfl | (simp; done) | (simp [*]; done)), H', ⟨by first | omega | exact Nat.le_refl _⟩, ⟨by (with_reducible repeat (first | refine blk_drewN ?_ _ | refine blk_drew ?_ | refine blk_alloc ?_ _)); exact BK160.out⟩, ⟨by repeat (first | (with_reducible first | exact HB.out | apply below_alloc | apply pw_below_drewN | apply below_drew1 | refine below_set ?_ GE160.out) | exact HB.out)⟩⟩
          ·rw [if_neg c34] at H
           have c34b0 : decide (a0_6 < 1) = false := decide_eq_false c34
           clear c34
           have H' := Aside0.mk H
           clear H
           have hcz38_0 : w3.cell? ⟨gb160, 0, none⟩ = some (.int .u32 a0_0) := (blk_cell BK160.out 0).trans rfl
           have hcz38_1 : w3.cell? ⟨gb160, 1, none⟩ = some (.int .i64 a0_1) := (blk_cell BK160.out 1).trans rfl
           have hcz38_2 : w3.cell? ⟨gb160, 2, none⟩ = some (.slice A0_2 l0_2.length c0_2) := (blk_cell BK160.out 2).trans rfl
           have hcz38_3 : w3.cell? ⟨gb160, 3, none⟩ = some (.int .i64 a0_3) := (blk_cell BK160.out 3).trans rfl
           have hcz38_4 : w3.cell? ⟨gb160, 4, none⟩ = some (.int .i64 a0_4) := (blk_cell BK160.out 4).trans rfl
           have hcz38_5 : w3.cell? ⟨gb160, 5, none⟩ = some (.int .i64 a0_5) := (blk_cell BK160.out 5).trans rfl
           have hcz38_6 : w3.cell? ⟨gb160, 6, none⟩ = some (.int .i64 a0_6) := (blk_cell BK160.out 6).trans rfl
           have hfz38_0 := blk_frozen BK160.out 0
           have hfz38_1 := blk_frozen BK160.out 1
           have hfz38_2 := blk_frozen BK160.out 2
           have hfz38_3 := blk_frozen BK160.out 3
           have hfz38_4 := blk_frozen BK160.out 4
           have hfz38_5 := blk_frozen BK160.out 5
           have hfz38_6 := blk_frozen BK160.out 6
           go_wp2_with (first | ((with_reducible refine gate_callee (f := 19) rfl ?_); refine goesL_ (some 6) rfl rfl Tryd.func19 (by kernel_rfl) rfl #[.agg #[.int .u32 a0_0, .int .i64 a0_1]] rfl (by (try simp only [List.map_toArray, List.map_cons, List.map_nil]); first | done | rfl | (simp only [List.length_drop, List.length_take]; rfl)) ?_; (with_reducible refine (lodgerref04_May.calls k a0_0 a0_1 true _ A4.out).mono ?_); rintro e w39 ⟨rfl, hb⟩; refine ⟨_, rfl, ?_⟩; have n0_ := Aside0.mk (blk_below (g := gb160) (o := .cells #[.int .u32 a0_0, .int .i64 a0_1, .slice A0_2 l0_2.length c0_2, .int .i64 a0_3, .int .i64 a0_4, .int .i64 a0_5, .int .i64 a0_6] 27 (0, 0)) (by (with_reducible repeat (first | refine blk_drewN ?_ _ | refine blk_drew ?_ | refine blk_alloc ?_ _)); exact BK160.out) hb); have n1_ := Aside0.mk (below_step (by repeat (first | (with_reducible first | exact HB.out | apply below_alloc | apply pw_below_drewN | apply below_drew1 | refine below_set ?_ GE160.out) | exact HB.out)) hb); clear BK160; clear HB; have BK160 := n0_; have HB := n1_; clear n0_ n1_; (try clear hb); (try clear hb2); (try clear hk); (try clear hi); have hcz40_0 : w39.cell? ⟨gb160, 0, none⟩ = some (.int .u32 a0_0) := (blk_cell BK160.out 0).trans rfl; have hcz40_1 : w39.cell? ⟨gb160, 1, none⟩ = some (.int .i64 a0_1) := (blk_cell BK160.out 1).trans rfl; have hcz40_2 : w39.cell? ⟨gb160, 2, none⟩ = some (.slice A0_2 l0_2.length c0_2) := (blk_cell BK160.out 2).trans rfl; have hcz40_3 : w39.cell? ⟨gb160, 3, none⟩ = some (.int .i64 a0_3) := (blk_cell BK160.out 3).trans rfl; have hcz40_4 : w39.cell? ⟨gb160, 4, none⟩ = some (.int .i64 a0_4) := (blk_cell BK160.out 4).trans rfl; have hcz40_5 : w39.cell? ⟨gb160, 5, none⟩ = some (.int .i64 a0_5) := (blk_cell BK160.out 5).trans rfl; have hcz40_6 : w39.cell? ⟨gb160, 6, none⟩ = some (.int .i64 a0_6) := (blk_cell BK160.out 6).trans rfl; have hfz40_0 := blk_frozen BK160.out 0; have hfz40_1 := blk_frozen BK160.out 1; have hfz40_2 := blk_frozen BK160.out 2; have hfz40_3 := blk_frozen BK160.out 3; have hfz40_4 := blk_frozen BK160.out 4; have hfz40_5 := blk_frozen BK160.out 5; have hfz40_6 := blk_frozen BK160.out 6))
           go_meet
           case rel => exact ⟨_, (decide (a0_6 > 8)), (by first | rfl | (simp; done) | (simp [*]; done)), H', ⟨by first | omega | exact Nat.le_refl _⟩, ⟨by (with_reducible repeat (first | refine blk_drewN ?_ _ | refine blk_drew ?_ | refine blk_alloc ?_ _)); exact BK160.out⟩, ⟨by repeat (first | (with_reducible first | exact HB.out | apply below_alloc | apply pw_below_drewN | apply below_drew1 | refine below_set ?_ GE160.out) | exact HB.out)⟩⟩
  ·replace c5 := Bool.eq_false_iff.mpr c5
   subst c5
   have H1 : (lodgerref05_May.j0 k true a0_0 a0_1 l0_2 a0_3 a0_4 a0_5 a0_6) = some r := by rw [if_neg (show ¬ (false = true) by decide)] at H; exact H
   clear H
   have H := H1
   clear H1
   have H' := Aside0.mk H
   clear H
   have hcz41_0 : w3.cell? ⟨gb160, 0, none⟩ = some (.int .u32 a0_0) := (blk_cell BK160.out 0).trans rfl
   have hcz41_1 : w3.cell? ⟨gb160, 1, none⟩ = some (.int .i64 a0_1) := (blk_cell BK160.out 1).trans rfl
   have hcz41_2 : w3.cell? ⟨gb160, 2, none⟩ = some (.slice A0_2 l0_2.length c0_2) := (blk_cell BK160.out 2).trans rfl
   have hcz41_3 : w3.cell? ⟨gb160, 3, none⟩ = some (.int .i64 a0_3) := (blk_cell BK160.out 3).trans rfl
   have hcz41_4 : w3.cell? ⟨gb160, 4, none⟩ = some (.int .i64 a0_4) := (blk_cell BK160.out 4).trans rfl
   have hcz41_5 : w3.cell? ⟨gb160, 5, none⟩ = some (.int .i64 a0_5) := (blk_cell BK160.out 5).trans rfl
   have hcz41_6 : w3.cell? ⟨gb160, 6, none⟩ = some (.int .i64 a0_6) := (blk_cell BK160.out 6).trans rfl
   have hfz41_0 := blk_frozen BK160.out 0
   have hfz41_1 := blk_frozen BK160.out 1
   have hfz41_2 := blk_frozen BK160.out 2
   have hfz41_3 := blk_frozen BK160.out 3
   have hfz41_4 := blk_frozen BK160.out 4
   have hfz41_5 := blk_frozen BK160.out 5
   have hfz41_6 := blk_frozen BK160.out 6
   go_wp2_with (first | ((with_reducible refine gate_callee (f := 19) rfl ?_); refine goesL_ (some 6) rfl rfl Tryd.func19 (by kernel_rfl) rfl #[.agg #[.int .u32 a0_0, .int .i64 a0_1]] rfl (by (try simp only [List.map_toArray, List.map_cons, List.map_nil]); first | done | rfl | (simp only [List.length_drop, List.length_take]; rfl)) ?_; (with_reducible refine (lodgerref04_May.calls k a0_0 a0_1 false _ A4.out).mono ?_); rintro e w42 ⟨rfl, hb⟩; refine ⟨_, rfl, ?_⟩; have n0_ := Aside0.mk (blk_below (g := gb160) (o := .cells #[.int .u32 a0_0, .int .i64 a0_1, .slice A0_2 l0_2.length c0_2, .int .i64 a0_3, .int .i64 a0_4, .int .i64 a0_5, .int .i64 a0_6] 27 (0, 0)) (by (with_reducible repeat (first | refine blk_drewN ?_ _ | refine blk_drew ?_ | refine blk_alloc ?_ _)); exact BK160.out) hb); have n1_ := Aside0.mk (below_step (by repeat (first | (with_reducible first | exact HB.out | apply below_alloc | apply pw_below_drewN | apply below_drew1 | refine below_set ?_ GE160.out) | exact HB.out)) hb); clear BK160; clear HB; have BK160 := n0_; have HB := n1_; clear n0_ n1_; (try clear hb); (try clear hb2); (try clear hk); (try clear hi)))
   go_meet
   case rel => exact ⟨_, (true), (by first | rfl | (simp; done) | (simp [*]; done)), H', ⟨by first | omega | exact Nat.le_refl _⟩, ⟨by (with_reducible repeat (first | refine blk_drewN ?_ _ | refine blk_drew ?_ | refine blk_alloc ?_ _)); exact BK160.out⟩, ⟨by repeat (first | (with_reducible first | exact HB.out | apply below_alloc | apply pw_below_drewN | apply below_drew1 | refine below_set ?_ GE160.out) | exact HB.out)⟩⟩
 case rest =>
  clear HC2
  try clear c1
  try clear c2
  try clear p2
  try clear c3
  try clear c5
  try clear c6
  try clear c6b0
  try clear c6b1
  try clear c9
  try clear c10
  try clear c10b0
  try clear c14
  try clear c14b0
  try clear c18
  try clear c18b0
  try clear c19
  try clear c22
  try clear c22b0
  try clear c26
  try clear c26b0
  try clear c30
  try clear c30b0
  try clear c34
  try clear c34b0
  try clear hcz11_0
  try clear hcz11_1
  try clear hcz11_2
  try clear hcz11_3
  try clear hcz11_4
  try clear hcz11_5
  try clear hcz11_6
  try clear hcz13_0
  try clear hcz13_1
  try clear hcz13_2
  try clear hcz13_3
  try clear hcz13_4
  try clear hcz13_5
  try clear hcz13_6
  try clear hcz15_0
  try clear hcz15_1
  try clear hcz15_2
  try clear hcz15_3
  try clear hcz15_4
  try clear hcz15_5
  try clear hcz15_6
  try clear hcz17_0
  try clear hcz17_1
  try clear hcz17_2
  try clear hcz17_3
  try clear hcz17_4
  try clear hcz17_5
  try clear hcz17_6
  try clear hcz19_0
  try clear hcz19_1
  try clear hcz19_2
  try clear hcz19_3
  try clear hcz19_4
  try clear hcz19_5
  try clear hcz19_6
  try clear hcz21_0
  try clear hcz21_1
  try clear hcz21_2
  try clear hcz21_3
  try clear hcz21_4
  try clear hcz21_5
  try clear hcz21_6
  try clear hcz23_0
  try clear hcz23_1
  try clear hcz23_2
  try clear hcz23_3
  try clear hcz23_4
  try clear hcz23_5
  try clear hcz23_6
  try clear hcz25_0
  try clear hcz25_1
  try clear hcz25_2
  try clear hcz25_3
  try clear hcz25_4
  try clear hcz25_5
  try clear hcz25_6
  try clear hcz27_0
  try clear hcz27_1
  try clear hcz27_2
  try clear hcz27_3
  try clear hcz27_4
  try clear hcz27_5
  try clear hcz27_6
  try clear hcz29_0
  try clear hcz29_1
  try clear hcz29_2
  try clear hcz29_3
  try clear hcz29_4
  try clear hcz29_5
  try clear hcz29_6
  try clear hcz31_0
  try clear hcz31_1
  try clear hcz31_2
  try clear hcz31_3
  try clear hcz31_4
  try clear hcz31_5
  try clear hcz31_6
  try clear hcz33_0
  try clear hcz33_1
  try clear hcz33_2
  try clear hcz33_3
  try clear hcz33_4
  try clear hcz33_5
  try clear hcz33_6
  try clear hcz35_0
  try clear hcz35_1
  try clear hcz35_2
  try clear hcz35_3
  try clear hcz35_4
  try clear hcz35_5
  try clear hcz35_6
  try clear hcz37_0
  try clear hcz37_1
  try clear hcz37_2
  try clear hcz37_3
  try clear hcz37_4
  try clear hcz37_5
  try clear hcz37_6
  try clear hcz38_0
  try clear hcz38_1
  try clear hcz38_2
  try clear hcz38_3
  try clear hcz38_4
  try clear hcz38_5
  try clear hcz38_6
  try clear hcz40_0
  try clear hcz40_1
  try clear hcz40_2
  try clear hcz40_3
  try clear hcz40_4
  try clear hcz40_5
  try clear hcz40_6
  try clear hcz41_0
  try clear hcz41_1
  try clear hcz41_2
  try clear hcz41_3
  try clear hcz41_4
  try clear hcz41_5
  try clear hcz41_6
  try clear hcz7_0
  try clear hcz7_1
  try clear hcz7_2
  try clear hcz7_3
  try clear hcz7_4
  try clear hcz7_5
  try clear hcz7_6
  try clear hcz9_0
  try clear hcz9_1
  try clear hcz9_2
  try clear hcz9_3
  try clear hcz9_4
  try clear hcz9_5
  try clear hcz9_6
  try clear hfz11_0
  try clear hfz11_1
  try clear hfz11_2
  try clear hfz11_3
  try clear hfz11_4
  try clear hfz11_5
  try clear hfz11_6
  try clear hfz13_0
  try clear hfz13_1
  try clear hfz13_2
  try clear hfz13_3
  try clear hfz13_4
  try clear hfz13_5
  try clear hfz13_6
  try clear hfz15_0
  try clear hfz15_1
  try clear hfz15_2
  try clear hfz15_3
  try clear hfz15_4
  try clear hfz15_5
  try clear hfz15_6
  try clear hfz17_0
  try clear hfz17_1
  try clear hfz17_2
  try clear hfz17_3
  try clear hfz17_4
  try clear hfz17_5
  try clear hfz17_6
  try clear hfz19_0
  try clear hfz19_1
  try clear hfz19_2
  try clear hfz19_3
  try clear hfz19_4
  try clear hfz19_5
  try clear hfz19_6
  try clear hfz21_0
  try clear hfz21_1
  try clear hfz21_2
  try clear hfz21_3
  try clear hfz21_4
  try clear hfz21_5
  try clear hfz21_6
  try clear hfz23_0
  try clear hfz23_1
  try clear hfz23_2
  try clear hfz23_3
  try clear hfz23_4
  try clear hfz23_5
  try clear hfz23_6
  try clear hfz25_0
  try clear hfz25_1
  try clear hfz25_2
  try clear hfz25_3
  try clear hfz25_4
  try clear hfz25_5
  try clear hfz25_6
  try clear hfz27_0
  try clear hfz27_1
  try clear hfz27_2
  try clear hfz27_3
  try clear hfz27_4
  try clear hfz27_5
  try clear hfz27_6
  try clear hfz29_0
  try clear hfz29_1
  try clear hfz29_2
  try clear hfz29_3
  try clear hfz29_4
  try clear hfz29_5
  try clear hfz29_6
  try clear hfz31_0
  try clear hfz31_1
  try clear hfz31_2
  try clear hfz31_3
  try clear hfz31_4
  try clear hfz31_5
  try clear hfz31_6
  try clear hfz33_0
  try clear hfz33_1
  try clear hfz33_2
  try clear hfz33_3
  try clear hfz33_4
  try clear hfz33_5
  try clear hfz33_6
  try clear hfz35_0
  try clear hfz35_1
  try clear hfz35_2
  try clear hfz35_3
  try clear hfz35_4
  try clear hfz35_5
  try clear hfz35_6
  try clear hfz37_0
  try clear hfz37_1
  try clear hfz37_2
  try clear hfz37_3
  try clear hfz37_4
  try clear hfz37_5
  try clear hfz37_6
  try clear hfz38_0
  try clear hfz38_1
  try clear hfz38_2
  try clear hfz38_3
  try clear hfz38_4
  try clear hfz38_5
  try clear hfz38_6
  try clear hfz40_0
  try clear hfz40_1
  try clear hfz40_2
  try clear hfz40_3
  try clear hfz40_4
  try clear hfz40_5
  try clear hfz40_6
  try clear hfz41_0
  try clear hfz41_1
  try clear hfz41_2
  try clear hfz41_3
  try clear hfz41_4
  try clear hfz41_5
  try clear hfz41_6
  try clear hfz7_0
  try clear hfz7_1
  try clear hfz7_2
  try clear hfz7_3
  try clear hfz7_4
  try clear hfz7_5
  try clear hfz7_6
  try clear hfz9_0
  try clear hfz9_1
  try clear hfz9_2
  try clear hfz9_3
  try clear hfz9_4
  try clear hfz9_5
  try clear hfz9_6
  obtain ⟨kq, x53_1, rfl, HA, HJ1, BK160, HB⟩ := hcut
  cases kq with
  | zero => exact absurd HA.out (by simp [lodgerref05_May.j0])
  | succ kj1 =>
   have H := HA.out
   clear HA
   simp only [lodgerref05_May.j0] at H
   by_cases c43 : x53_1 = true
   ·subst c43
    have H1 : (some false) = some r := by rw [if_pos rfl] at H; exact H
    clear H
    have H := H1
    clear H1
    obtain rfl := Option.some.inj H
    go_wp2
    go_ret
    exact ⟨by first | rfl | (simp [errW_none, errW_some] <;> rfl) | (simp [*, errW_none, errW_some] <;> rfl), by repeat (first | (with_reducible first | exact HB.out | apply below_alloc | apply pw_below_drewN | apply below_drew1 | refine below_set ?_ GE160.out) | exact HB.out)⟩
   ·replace c43 := Bool.eq_false_iff.mpr c43
    subst c43
    have H1 : (lodgerref05_May.l0 kj1 0 a0_0 a0_1 l0_2 a0_3 a0_4 a0_5 a0_6) = some r := by rw [if_neg (show ¬ (false = true) by decide)] at H; exact H
    clear H
    have H := H1
    clear H1
    have H' := Aside0.mk H
    clear H
    go_wp2
    go_loopg [3] kj1 (fun kq v3 w' => ∃ (x3_2 : Int), v3 = .int .i64 x3_2 ∧ Aside0 (lodgerref05_May.l0 kq x3_2 a0_0 a0_1 l0_2 a0_3 a0_4 a0_5 a0_6 = some r) ∧ Aside0 (kq ≤ kj1) ∧ Aside0 (w'.heap[gb160]? = some (.cells #[.int .u32 a0_0, .int .i64 a0_1, (.slice A0_2 l0_2.length c0_2), .int .i64 a0_3, .int .i64 a0_4, .int .i64 a0_5, .int .i64 a0_6] 27 (0, 0))) ∧ Aside0 (Below w.heap.size w w'))
    case atStart => exact ⟨(0), (by first | rfl | (simp; done) | (simp [*]; done)), H', ⟨Nat.le_refl _⟩, ⟨by (with_reducible repeat (first | refine blk_drewN ?_ _ | refine blk_drew ?_ | refine blk_alloc ?_ _)); exact BK160.out⟩, ⟨by repeat (first | (with_reducible first | exact HB.out | apply below_alloc | apply pw_below_drewN | apply below_drew1 | refine below_set ?_ GE160.out) | exact HB.out)⟩⟩
    case round =>
     clear H'
     try clear c1
     try clear c2
     try clear p2
     try clear c3
     try clear c4
     try clear c5
     try clear c6
     try clear c6b0
     try clear c6b1
     try clear c9
     try clear c10
     try clear c10b0
     try clear c14
     try clear c14b0
     try clear c18
     try clear c18b0
     try clear c19
     try clear c22
     try clear c22b0
     try clear c26
     try clear c26b0
     try clear c30
     try clear c30b0
     try clear c34
     try clear c34b0
     try clear c43
     try clear hcz11_0
     try clear hcz11_1
     try clear hcz11_2
     try clear hcz11_3
     try clear hcz11_4
     try clear hcz11_5
     try clear hcz11_6
     try clear hcz13_0
     try clear hcz13_1
     try clear hcz13_2
     try clear hcz13_3
     try clear hcz13_4
     try clear hcz13_5
     try clear hcz13_6
     try clear hcz15_0
     try clear hcz15_1
     try clear hcz15_2
     try clear hcz15_3
     try clear hcz15_4
     try clear hcz15_5
     try clear hcz15_6
     try clear hcz17_0
     try clear hcz17_1
     try clear hcz17_2
     try clear hcz17_3
     try clear hcz17_4
     try clear hcz17_5
     try clear hcz17_6
     try clear hcz19_0
     try clear hcz19_1
     try clear hcz19_2
     try clear hcz19_3
     try clear hcz19_4
     try clear hcz19_5
     try clear hcz19_6
     try clear hcz21_0
     try clear hcz21_1
     try clear hcz21_2
     try clear hcz21_3
     try clear hcz21_4
     try clear hcz21_5
     try clear hcz21_6
     try clear hcz23_0
     try clear hcz23_1
     try clear hcz23_2
     try clear hcz23_3
     try clear hcz23_4
     try clear hcz23_5
     try clear hcz23_6
     try clear hcz25_0
     try clear hcz25_1
     try clear hcz25_2
     try clear hcz25_3
     try clear hcz25_4
     try clear hcz25_5
     try clear hcz25_6
     try clear hcz27_0
     try clear hcz27_1
     try clear hcz27_2
     try clear hcz27_3
     try clear hcz27_4
     try clear hcz27_5
     try clear hcz27_6
     try clear hcz29_0
     try clear hcz29_1
     try clear hcz29_2
     try clear hcz29_3
     try clear hcz29_4
     try clear hcz29_5
     try clear hcz29_6
     try clear hcz31_0
     try clear hcz31_1
     try clear hcz31_2
     try clear hcz31_3
     try clear hcz31_4
     try clear hcz31_5
     try clear hcz31_6
     try clear hcz33_0
     try clear hcz33_1
     try clear hcz33_2
     try clear hcz33_3
     try clear hcz33_4
     try clear hcz33_5
     try clear hcz33_6
     try clear hcz35_0
     try clear hcz35_1
     try clear hcz35_2
     try clear hcz35_3
     try clear hcz35_4
     try clear hcz35_5
     try clear hcz35_6
     try clear hcz37_0
     try clear hcz37_1
     try clear hcz37_2
     try clear hcz37_3
     try clear hcz37_4
     try clear hcz37_5
     try clear hcz37_6
     try clear hcz38_0
     try clear hcz38_1
     try clear hcz38_2
     try clear hcz38_3
     try clear hcz38_4
     try clear hcz38_5
     try clear hcz38_6
     try clear hcz40_0
     try clear hcz40_1
     try clear hcz40_2
     try clear hcz40_3
     try clear hcz40_4
     try clear hcz40_5
     try clear hcz40_6
     try clear hcz41_0
     try clear hcz41_1
     try clear hcz41_2
     try clear hcz41_3
     try clear hcz41_4
     try clear hcz41_5
     try clear hcz41_6
     try clear hcz7_0
     try clear hcz7_1
     try clear hcz7_2
     try clear hcz7_3
     try clear hcz7_4
     try clear hcz7_5
     try clear hcz7_6
     try clear hcz9_0
     try clear hcz9_1
     try clear hcz9_2
     try clear hcz9_3
     try clear hcz9_4
     try clear hcz9_5
     try clear hcz9_6
     try clear hfz11_0
     try clear hfz11_1
     try clear hfz11_2
     try clear hfz11_3
     try clear hfz11_4
     try clear hfz11_5
     try clear hfz11_6
     try clear hfz13_0
     try clear hfz13_1
     try clear hfz13_2
     try clear hfz13_3
     try clear hfz13_4
     try clear hfz13_5
     try clear hfz13_6
     try clear hfz15_0
     try clear hfz15_1
     try clear hfz15_2
     try clear hfz15_3
     try clear hfz15_4
     try clear hfz15_5
     try clear hfz15_6
     try clear hfz17_0
     try clear hfz17_1
     try clear hfz17_2
     try clear hfz17_3
     try clear hfz17_4
     try clear hfz17_5
     try clear hfz17_6
     try clear hfz19_0
     try clear hfz19_1
     try clear hfz19_2
     try clear hfz19_3
     try clear hfz19_4
     try clear hfz19_5
     try clear hfz19_6
     try clear hfz21_0
     try clear hfz21_1
     try clear hfz21_2
     try clear hfz21_3
     try clear hfz21_4
     try clear hfz21_5
     try clear hfz21_6
     try clear hfz23_0
     try clear hfz23_1
     try clear hfz23_2
     try clear hfz23_3
     try clear hfz23_4
     try clear hfz23_5
     try clear hfz23_6
     try clear hfz25_0
     try clear hfz25_1
     try clear hfz25_2
     try clear hfz25_3
     try clear hfz25_4
     try clear hfz25_5
     try clear hfz25_6
     try clear hfz27_0
     try clear hfz27_1
     try clear hfz27_2
     try clear hfz27_3
     try clear hfz27_4
     try clear hfz27_5
     try clear hfz27_6
     try clear hfz29_0
     try clear hfz29_1
     try clear hfz29_2
     try clear hfz29_3
     try clear hfz29_4
     try clear hfz29_5
     try clear hfz29_6
     try clear hfz31_0
     try clear hfz31_1
     try clear hfz31_2
     try clear hfz31_3
     try clear hfz31_4
     try clear hfz31_5
     try clear hfz31_6
     try clear hfz33_0
     try clear hfz33_1
     try clear hfz33_2
     try clear hfz33_3
     try clear hfz33_4
     try clear hfz33_5
     try clear hfz33_6
     try clear hfz35_0
     try clear hfz35_1
     try clear hfz35_2
     try clear hfz35_3
     try clear hfz35_4
     try clear hfz35_5
     try clear hfz35_6
     try clear hfz37_0
     try clear hfz37_1
     try clear hfz37_2
     try clear hfz37_3
     try clear hfz37_4
     try clear hfz37_5
     try clear hfz37_6
     try clear hfz38_0
     try clear hfz38_1
     try clear hfz38_2
     try clear hfz38_3
     try clear hfz38_4
     try clear hfz38_5
     try clear hfz38_6
     try clear hfz40_0
     try clear hfz40_1
     try clear hfz40_2
     try clear hfz40_3
     try clear hfz40_4
     try clear hfz40_5
     try clear hfz40_6
     try clear hfz41_0
     try clear hfz41_1
     try clear hfz41_2
     try clear hfz41_3
     try clear hfz41_4
     try clear hfz41_5
     try clear hfz41_6
     try clear hfz7_0
     try clear hfz7_1
     try clear hfz7_2
     try clear hfz7_3
     try clear hfz7_4
     try clear hfz7_5
     try clear hfz7_6
     try clear hfz9_0
     try clear hfz9_1
     try clear hfz9_2
     try clear hfz9_3
     try clear hfz9_4
     try clear hfz9_5
     try clear hfz9_6
     try clear p2
     obtain ⟨x3_2, rfl, HA, HK2, BK160, HB⟩ := hrel
     cases gk with
     | zero => exact absurd HA.out (by simp [lodgerref05_May.l0])
     | succ k2 =>
      have H := HA.out
      clear HA
      simp only [lodgerref05_May.l0] at H
      by_cases c44 : x3_2 < (l0_2.length : Int)
      ·rw [if_pos c44] at H
       have c44b0 : decide (x3_2 < (l0_2.length : Int)) = true := decide_eq_true c44
       clear c44
       by_cases c45 : 0 ≤ x3_2
       ·rw [if_pos c45] at H
        have c45b0 : decide (0 ≤ x3_2) = true := decide_eq_true c45
        clear c45
        by_cases c46 : (rd l0_2 x3_2) < 0
        ·rw [if_pos c46] at H
         have c46b0 : decide ((rd l0_2 x3_2) < 0) = true := decide_eq_true c46
         clear c46
         obtain rfl := Option.some.inj H
         have hcz47_0 : wr.cell? ⟨gb160, 0, none⟩ = some (.int .u32 a0_0) := (blk_cell BK160.out 0).trans rfl
         have hcz47_1 : wr.cell? ⟨gb160, 1, none⟩ = some (.int .i64 a0_1) := (blk_cell BK160.out 1).trans rfl
         have hcz47_2 : wr.cell? ⟨gb160, 2, none⟩ = some (.slice A0_2 l0_2.length c0_2) := (blk_cell BK160.out 2).trans rfl
         have hcz47_3 : wr.cell? ⟨gb160, 3, none⟩ = some (.int .i64 a0_3) := (blk_cell BK160.out 3).trans rfl
         have hcz47_4 : wr.cell? ⟨gb160, 4, none⟩ = some (.int .i64 a0_4) := (blk_cell BK160.out 4).trans rfl
         have hcz47_5 : wr.cell? ⟨gb160, 5, none⟩ = some (.int .i64 a0_5) := (blk_cell BK160.out 5).trans rfl
         have hcz47_6 : wr.cell? ⟨gb160, 6, none⟩ = some (.int .i64 a0_6) := (blk_cell BK160.out 6).trans rfl
         have hfz47_0 := blk_frozen BK160.out 0
         have hfz47_1 := blk_frozen BK160.out 1
         have hfz47_2 := blk_frozen BK160.out 2
         have hfz47_3 := blk_frozen BK160.out 3
         have hfz47_4 := blk_frozen BK160.out 4
         have hfz47_5 := blk_frozen BK160.out 5
         have hfz47_6 := blk_frozen BK160.out 6
         try go_wp2
         have n0_ := Aside0.mk (blk_drew BK160.out)
         have n1_ := Aside0.mk (below_drew1 HB.out)
         clear BK160
         clear HB
         have BK160 := n0_
         have HB := n1_
         clear n0_ n1_
         have p162 : 0 ≤ (x3_2 : Int) := od_
         have q162 : x3_2 < (l0_2.length : Int) := od_
         obtain ⟨ad162, e162, hx162_0⟩ := Kd.at_int HR0_2.out x3_2 p162 q162
         have hw162_0 := hx162_0
         cases e162
         replace hx162_0 := (HB.out.cell (World.block_lt_of_cell? w _ hx162_0)).trans hx162_0
         replace p162 := eq_true p162
         replace q162 := eq_true q162
         refine start_ (n := 35) (S := fun w' => w'.cell? ⟨gb160, 0, none⟩ = some (.int .u32 a0_0) ∧ w'.cell? ⟨gb160, 1, none⟩ = some (.int .i64 a0_1) ∧ w'.cell? ⟨gb160, 2, none⟩ = some (.slice (some ad162) l0_2.length c0_2) ∧ w'.cell? ⟨gb160, 3, none⟩ = some (.int .i64 a0_3) ∧ w'.cell? ⟨gb160, 4, none⟩ = some (.int .i64 a0_4) ∧ w'.cell? ⟨gb160, 5, none⟩ = some (.int .i64 a0_5) ∧ w'.cell? ⟨gb160, 6, none⟩ = some (.int .i64 a0_6) ∧ w'.cell? (ad162.add (x3_2).toNat) = some (.int .i64 (rd l0_2 x3_2))) (ds := []) #[false, false, false, false, false, false, false, false, false, false, false, false, false, false, false, false, false, false, false, false, false, false, false, false, false, false, false, false, false, false, false, false, false, false, false] (by kernel_rfl) rfl rfl ⟨(blk_cell BK160.out 0).trans rfl, (blk_cell BK160.out 1).trans rfl, (blk_cell BK160.out 2).trans rfl, (blk_cell BK160.out 3).trans rfl, (blk_cell BK160.out 4).trans rfl, (blk_cell BK160.out 5).trans rfl, (blk_cell BK160.out 6).trans rfl, ((HB.out.cell (World.block_lt_of_cell? w _ hw162_0)).trans hw162_0)⟩ (fun hHeld => ?_); refine with_tabW lodgerref05_May.tab6 lodgerref05_May.bits6 (fun HT_ HW_ => ?_)
         generalize wr.drew = w48 at BK160 HB hx162_0 hHeld ⊢
         refine pu_ (i := 0) (N := some 61) (tf 35 1) HT_ ?_
         refine pu_ (i := 2) (N := some 63) (tf 35 5) HT_ ?_
         refine tk_ (i := 1) (N := some 62) (tf 35 7) rfl rfl HT_ HW_ hHeld (by rintro w' ⟨s0, s1, s2, s3, s4, s5, s6, s7⟩; go_simp; with_reducible rfl) ?_
         refine pu_ (i := 3) (N := some 64) (tf 35 15) HT_ ?_
         refine tk_ (i := 4) (N := some 65) (tf 35 31) rfl rfl HT_ HW_ hHeld (by rintro w' ⟨s0, s1, s2, s3, s4, s5, s6, s7⟩; go_simp; with_reducible rfl) ?_
         refine pu_ (i := 5) (N := some 66) (tf 35 63) HT_ ?_
         refine pu_ (i := 6) (N := some 67) (tf 35 127) HT_ ?_
         refine pure_ (i := 7) (N := some 68) (v := undef) (a' := ?_) #[true, true, true, true, true, true, true, true, false, false, false, false, false, false, false, false, false, false, false, false, false, false, false, false, false, false, false, false, false, false, false, false, false, false, false] rfl rfl (any_of HT_.out (by kernel_rfl)) (fun _ _ _ h => h) (Or.inr ⟨by rfl, rfl⟩) ?_ ?_
         rotate_left
         ·simp only [Act.put, List.setIfInBounds_toArray, List.set_cons_zero, List.set_cons_succ, i64_w, i32_w]
          rfl
         refine pure_ (i := 8) (N := some 69) (v := undef) (a' := ?_) #[true, true, true, true, true, true, true, true, true, false, false, false, false, false, false, false, false, false, false, false, false, false, false, false, false, false, false, false, false, false, false, false, false, false, false] rfl rfl (any_of HT_.out (by kernel_rfl)) (fun _ _ _ h => h) (Or.inr ⟨by rfl, rfl⟩) ?_ ?_
         rotate_left
         ·simp only [Act.put, List.setIfInBounds_toArray, List.set_cons_zero, List.set_cons_succ, i64_w, i32_w]
          rfl
         refine pure_ (i := 9) (N := some 70) (v := undef) (a' := ?_) #[true, true, true, true, true, true, true, true, true, true, false, false, false, false, false, false, false, false, false, false, false, false, false, false, false, false, false, false, false, false, false, false, false, false, false] rfl rfl (any_of HT_.out (by kernel_rfl)) (fun _ _ _ h => h) (Or.inr ⟨by rfl, rfl⟩) ?_ ?_
         rotate_left
         ·simp only [Act.put, List.setIfInBounds_toArray, List.set_cons_zero, List.set_cons_succ, i64_w, i32_w]
          rfl
         refine pure_ (i := 10) (N := some 71) (v := undef) (a' := ?_) #[true, true, true, true, true, true, true, true, true, true, true, false, false, false, false, false, false, false, false, false, false, false, false, false, false, false, false, false, false, false, false, false, false, false, false] rfl rfl (any_of HT_.out (by kernel_rfl)) (fun _ _ _ h => h) (Or.inr ⟨by rfl, rfl⟩) ?_ ?_
         rotate_left
         ·simp only [Act.put, List.setIfInBounds_toArray, List.set_cons_zero, List.set_cons_succ, i64_w, i32_w]
          rfl
         refine pure_ (i := 11) (N := some 72) (v := undef) (a' := ?_) #[true, true, true, true, true, true, true, true, true, true, true, true, false, false, false, false, false, false, false, false, false, false, false, false, false, false, false, false, false, false, false, false, false, false, false] rfl rfl (any_of HT_.out (by kernel_rfl)) (fun _ _ _ h => h) (Or.inr ⟨by rfl, rfl⟩) ?_ ?_
         rotate_left
         ·simp only [Act.put, List.setIfInBounds_toArray, List.set_cons_zero, List.set_cons_succ, i64_w, i32_w]
          rfl
         refine pure_ (i := 12) (N := some 73) (v := undef) (a' := ?_) #[true, true, true, true, true, true, true, true, true, true, true, true, true, false, false, false, false, false, false, false, false, false, false, false, false, false, false, false, false, false, false, false, false, false, false] rfl rfl (any_of HT_.out (by kernel_rfl)) (fun _ _ _ h => h) (Or.inr ⟨by rfl, rfl⟩) ?_ ?_
         rotate_left
         ·simp only [Act.put, List.setIfInBounds_toArray, List.set_cons_zero, List.set_cons_succ, i64_w, i32_w]
          rfl
         refine pure_ (i := 13) (N := some 74) (v := undef) (a' := ?_) #[true, true, true, true, true, true, true, true, true, true, true, true, true, true, false, false, false, false, false, false, false, false, false, false, false, false, false, false, false, false, false, false, false, false, false] rfl rfl (any_of HT_.out (by kernel_rfl)) (fun _ _ _ h => h) (Or.inr ⟨by rfl, rfl⟩) ?_ ?_
         rotate_left
         ·simp only [Act.put, List.setIfInBounds_toArray, List.set_cons_zero, List.set_cons_succ, i64_w, i32_w]
          rfl
         refine pure_ (i := 14) (N := some 75) (v := undef) (a' := ?_) #[true, true, true, true, true, true, true, true, true, true, true, true, true, true, true, false, false, false, false, false, false, false, false, false, false, false, false, false, false, false, false, false, false, false, false] rfl rfl (any_of HT_.out (by kernel_rfl)) (fun _ _ _ h => h) (Or.inr ⟨by rfl, rfl⟩) ?_ ?_
         rotate_left
         ·simp only [Act.put, List.setIfInBounds_toArray, List.set_cons_zero, List.set_cons_succ, i64_w, i32_w]
          rfl
         refine pure_ (i := 15) (N := some 76) (v := undef) (a' := ?_) #[true, true, true, true, true, true, true, true, true, true, true, true, true, true, true, true, false, false, false, false, false, false, false, false, false, false, false, false, false, false, false, false, false, false, false] rfl rfl (any_of HT_.out (by kernel_rfl)) (fun _ _ _ h => h) (Or.inr ⟨by rfl, rfl⟩) ?_ ?_
         rotate_left
         ·simp only [Act.put, List.setIfInBounds_toArray, List.set_cons_zero, List.set_cons_succ, i64_w, i32_w]
          rfl
         refine pu_ (i := 16) (N := some 77) (tf 35 131071) HT_ ?_
         refine pu_ (i := 17) (N := some 78) (tf 35 262143) HT_ ?_
         refine pure_ (i := 18) (N := some 79) (v := undef) (a' := ?_) #[true, true, true, true, true, true, true, true, true, true, true, true, true, true, true, true, true, true, true, false, false, false, false, false, false, false, false, false, false, false, false, false, false, false, false] rfl rfl (any_of HT_.out (by kernel_rfl)) (fun _ _ _ h => h) (Or.inr ⟨by rfl, rfl⟩) ?_ ?_
         rotate_left
         ·simp only [Act.put, List.setIfInBounds_toArray, List.set_cons_zero, List.set_cons_succ, i64_w, i32_w]
          rfl
         refine pure_ (i := 19) (N := some 80) (v := undef) (a' := ?_) #[true, true, true, true, true, true, true, true, true, true, true, true, true, true, true, true, true, true, true, true, false, false, false, false, false, false, false, false, false, false, false, false, false, false, false] rfl rfl (any_of HT_.out (by kernel_rfl)) (fun _ _ _ h => h) (Or.inr ⟨by rfl, rfl⟩) ?_ ?_
         rotate_left
         ·simp only [Act.put, List.setIfInBounds_toArray, List.set_cons_zero, List.set_cons_succ, i64_w, i32_w]
          rfl
         refine pure_ (i := 20) (N := some 81) (v := undef) (a' := ?_) #[true, true, true, true, true, true, true, true, true, true, true, true, true, true, true, true, true, true, true, true, true, false, false, false, false, false, false, false, false, false, false, false, false, false, false] rfl rfl (any_of HT_.out (by kernel_rfl)) (fun _ _ _ h => h) (Or.inr ⟨by rfl, rfl⟩) ?_ ?_
         rotate_left
         ·simp only [Act.put, List.setIfInBounds_toArray, List.set_cons_zero, List.set_cons_succ, i64_w, i32_w]
          rfl
         refine pure_ (i := 21) (N := some 82) (v := undef) (a' := ?_) #[true, true, true, true, true, true, true, true, true, true, true, true, true, true, true, true, true, true, true, true, true, true, false, false, false, false, false, false, false, false, false, false, false, false, false] rfl rfl (any_of HT_.out (by kernel_rfl)) (fun _ _ _ h => h) (Or.inr ⟨by rfl, rfl⟩) ?_ ?_
         rotate_left
         ·simp only [Act.put, List.setIfInBounds_toArray, List.set_cons_zero, List.set_cons_succ, i64_w, i32_w]
          rfl
         refine pure_ (i := 22) (N := some 83) (v := undef) (a' := ?_) #[true, true, true, true, true, true, true, true, true, true, true, true, true, true, true, true, true, true, true, true, true, true, true, false, false, false, false, false, false, false, false, false, false, false, false] rfl rfl (any_of HT_.out (by kernel_rfl)) (fun _ _ _ h => h) (Or.inr ⟨by rfl, rfl⟩) ?_ ?_
         rotate_left
         ·simp only [Act.put, List.setIfInBounds_toArray, List.set_cons_zero, List.set_cons_succ, i64_w, i32_w]
          rfl
         refine pure_ (i := 23) (N := some 84) (v := undef) (a' := ?_) #[true, true, true, true, true, true, true, true, true, true, true, true, true, true, true, true, true, true, true, true, true, true, true, true, false, false, false, false, false, false, false, false, false, false, false] rfl rfl (any_of HT_.out (by kernel_rfl)) (fun _ _ _ h => h) (Or.inr ⟨by rfl, rfl⟩) ?_ ?_
         rotate_left
         ·simp only [Act.put, List.setIfInBounds_toArray, List.set_cons_zero, List.set_cons_succ, i64_w, i32_w]
          rfl
         refine pure_ (i := 24) (N := some 85) (v := undef) (a' := ?_) #[true, true, true, true, true, true, true, true, true, true, true, true, true, true, true, true, true, true, true, true, true, true, true, true, true, false, false, false, false, false, false, false, false, false, false] rfl rfl (any_of HT_.out (by kernel_rfl)) (fun _ _ _ h => h) (Or.inr ⟨by rfl, rfl⟩) ?_ ?_
         rotate_left
         ·simp only [Act.put, List.setIfInBounds_toArray, List.set_cons_zero, List.set_cons_succ, i64_w, i32_w]
          rfl
         refine pure_ (i := 25) (N := some 86) (v := undef) (a' := ?_) #[true, true, true, true, true, true, true, true, true, true, true, true, true, true, true, true, true, true, true, true, true, true, true, true, true, true, false, false, false, false, false, false, false, false, false] rfl rfl (any_of HT_.out (by kernel_rfl)) (fun _ _ _ h => h) (Or.inr ⟨by rfl, rfl⟩) ?_ ?_
         rotate_left
         ·simp only [Act.put, List.setIfInBounds_toArray, List.set_cons_zero, List.set_cons_succ, i64_w, i32_w]
          rfl
         refine pure_ (i := 26) (N := some 87) (v := undef) (a' := ?_) #[true, true, true, true, true, true, true, true, true, true, true, true, true, true, true, true, true, true, true, true, true, true, true, true, true, true, true, false, false, false, false, false, false, false, false] rfl rfl (any_of HT_.out (by kernel_rfl)) (fun _ _ _ h => h) (Or.inr ⟨by rfl, rfl⟩) ?_ ?_
         rotate_left
         ·simp only [Act.put, List.setIfInBounds_toArray, List.set_cons_zero, List.set_cons_succ, i64_w, i32_w]
          rfl
         refine pure_ (i := 27) (N := some 88) (v := undef) (a' := ?_) #[true, true, true, true, true, true, true, true, true, true, true, true, true, true, true, true, true, true, true, true, true, true, true, true, true, true, true, true, false, false, false, false, false, false, false] rfl rfl (any_of HT_.out (by kernel_rfl)) (fun _ _ _ h => h) (Or.inr ⟨by rfl, rfl⟩) ?_ ?_
         rotate_left
         ·simp only [Act.put, List.setIfInBounds_toArray, List.set_cons_zero, List.set_cons_succ, i64_w, i32_w]
          rfl
         refine pure_ (i := 28) (N := some 89) (v := undef) (a' := ?_) #[true, true, true, true, true, true, true, true, true, true, true, true, true, true, true, true, true, true, true, true, true, true, true, true, true, true, true, true, true, false, false, false, false, false, false] rfl rfl (any_of HT_.out (by kernel_rfl)) (fun _ _ _ h => h) (Or.inr ⟨by rfl, rfl⟩) ?_ ?_
         rotate_left
         ·simp only [Act.put, List.setIfInBounds_toArray, List.set_cons_zero, List.set_cons_succ, i64_w, i32_w]
          rfl
         refine pure_ (i := 29) (N := some 90) (v := undef) (a' := ?_) #[true, true, true, true, true, true, true, true, true, true, true, true, true, true, true, true, true, true, true, true, true, true, true, true, true, true, true, true, true, true, false, false, false, false, false] rfl rfl (any_of HT_.out (by kernel_rfl)) (fun _ _ _ h => h) (Or.inr ⟨by rfl, rfl⟩) ?_ ?_
         rotate_left
         ·simp only [Act.put, List.setIfInBounds_toArray, List.set_cons_zero, List.set_cons_succ, i64_w, i32_w]
          rfl
         refine pure_ (i := 30) (N := some 91) (v := undef) (a' := ?_) #[true, true, true, true, true, true, true, true, true, true, true, true, true, true, true, true, true, true, true, true, true, true, true, true, true, true, true, true, true, true, true, false, false, false, false] rfl rfl (any_of HT_.out (by kernel_rfl)) (fun _ _ _ h => h) (Or.inr ⟨by rfl, rfl⟩) ?_ ?_
         rotate_left
         ·simp only [Act.put, List.setIfInBounds_toArray, List.set_cons_zero, List.set_cons_succ, i64_w, i32_w]
          rfl
         refine pure_ (i := 31) (N := some 92) (v := undef) (a' := ?_) #[true, true, true, true, true, true, true, true, true, true, true, true, true, true, true, true, true, true, true, true, true, true, true, true, true, true, true, true, true, true, true, true, false, false, false] rfl rfl (any_of HT_.out (by kernel_rfl)) (fun _ _ _ h => h) (Or.inr ⟨by rfl, rfl⟩) ?_ ?_
         rotate_left
         ·simp only [Act.put, List.setIfInBounds_toArray, List.set_cons_zero, List.set_cons_succ, i64_w, i32_w]
          rfl
         refine pure_ (i := 32) (N := some 93) (v := undef) (a' := ?_) #[true, true, true, true, true, true, true, true, true, true, true, true, true, true, true, true, true, true, true, true, true, true, true, true, true, true, true, true, true, true, true, true, true, false, false] rfl rfl (any_of HT_.out (by kernel_rfl)) (fun _ _ _ h => h) (Or.inr ⟨by rfl, rfl⟩) ?_ ?_
         rotate_left
         ·simp only [Act.put, List.setIfInBounds_toArray, List.set_cons_zero, List.set_cons_succ, i64_w, i32_w]
          rfl
         refine pure_ (i := 33) (N := some 94) (v := undef) (a' := ?_) #[true, true, true, true, true, true, true, true, true, true, true, true, true, true, true, true, true, true, true, true, true, true, true, true, true, true, true, true, true, true, true, true, true, true, false] rfl rfl (any_of HT_.out (by kernel_rfl)) (fun _ _ _ h => h) (Or.inr ⟨by rfl, rfl⟩) ?_ ?_
         rotate_left
         ·simp only [Act.put, List.setIfInBounds_toArray, List.set_cons_zero, List.set_cons_succ, i64_w, i32_w]
          rfl
         refine pu_ (i := 34) (N := some 95) (tf 35 34359738367) HT_ ?_
         refine done_ (done_of HT_.out (by kernel_rfl)) ?_
         try go_wp2
         go_ret
         exact ⟨by first | rfl | (simp [errW_none, errW_some] <;> rfl) | (simp [*, errW_none, errW_some] <;> rfl), by repeat (first | (with_reducible first | exact HB.out | apply below_alloc | apply pw_below_drewN | apply below_drew1 | refine below_set ?_ GE160.out) | exact HB.out)⟩
        ·rw [if_neg c46] at H
         have c46b0 : decide ((rd l0_2 x3_2) < 0) = false := decide_eq_false c46
         clear c46
         replace H := Option.bind_eq_some_iff.mp H
         obtain ⟨t164, A490, H⟩ := H
         replace H : (if (rd l0_2 x3_2) ≥ t164 then (some false) else (if x3_2 > 0 then (if 0 ≤ (wrap64 (x3_2 - 1)) then (if (wrap64 (x3_2 - 1)) < (l0_2.length : Int) then (if (rd l0_2 x3_2) ≤ (rd l0_2 (wrap64 (x3_2 - 1))) then (some false) else (lodgerref05_May.l0 k2 (wrap64 (x3_2 + 1)) a0_0 a0_1 l0_2 a0_3 a0_4 a0_5 a0_6)) else (none)) else (none)) else (lodgerref05_May.l0 k2 (wrap64 (x3_2 + 1)) a0_0 a0_1 l0_2 a0_3 a0_4 a0_5 a0_6))) = some r := H
         have A49 := Aside0.mk A490
         clear A490
         by_cases c50 : (rd l0_2 x3_2) ≥ t164
         ·rw [if_pos c50] at H
          have c50b0 : decide (t164 ≤ (rd l0_2 x3_2)) = true := decide_eq_true c50
          clear c50
          obtain rfl := Option.some.inj H
          have hcz51_0 : wr.cell? ⟨gb160, 0, none⟩ = some (.int .u32 a0_0) := (blk_cell BK160.out 0).trans rfl
          have hcz51_1 : wr.cell? ⟨gb160, 1, none⟩ = some (.int .i64 a0_1) := (blk_cell BK160.out 1).trans rfl
          have hcz51_2 : wr.cell? ⟨gb160, 2, none⟩ = some (.slice A0_2 l0_2.length c0_2) := (blk_cell BK160.out 2).trans rfl
          have hcz51_3 : wr.cell? ⟨gb160, 3, none⟩ = some (.int .i64 a0_3) := (blk_cell BK160.out 3).trans rfl
          have hcz51_4 : wr.cell? ⟨gb160, 4, none⟩ = some (.int .i64 a0_4) := (blk_cell BK160.out 4).trans rfl
          have hcz51_5 : wr.cell? ⟨gb160, 5, none⟩ = some (.int .i64 a0_5) := (blk_cell BK160.out 5).trans rfl
          have hcz51_6 : wr.cell? ⟨gb160, 6, none⟩ = some (.int .i64 a0_6) := (blk_cell BK160.out 6).trans rfl
          have hfz51_0 := blk_frozen BK160.out 0
          have hfz51_1 := blk_frozen BK160.out 1
          have hfz51_2 := blk_frozen BK160.out 2
          have hfz51_3 := blk_frozen BK160.out 3
          have hfz51_4 := blk_frozen BK160.out 4
          have hfz51_5 := blk_frozen BK160.out 5
          have hfz51_6 := blk_frozen BK160.out 6
          try go_wp2
          have n0_ := Aside0.mk (blk_drew BK160.out)
          have n1_ := Aside0.mk (below_drew1 HB.out)
          clear BK160
          clear HB
          have BK160 := n0_
          have HB := n1_
          clear n0_ n1_
          have p162 : 0 ≤ (x3_2 : Int) := od_
          have q162 : x3_2 < (l0_2.length : Int) := od_
          obtain ⟨ad162, e162, hx162_0⟩ := Kd.at_int HR0_2.out x3_2 p162 q162
          have hw162_0 := hx162_0
          cases e162
          replace hx162_0 := (HB.out.cell (World.block_lt_of_cell? w _ hx162_0)).trans hx162_0
          replace p162 := eq_true p162
          replace q162 := eq_true q162
          have p163 : 0 ≤ (x3_2 : Int) := od_
          have q163 : x3_2 < (l0_2.length : Int) := od_
          obtain ⟨ad163, e163, hx163_0⟩ := Kd.at_int HR0_2.out x3_2 p163 q163
          have hw163_0 := hx163_0
          obtain rfl : ad162 = ad163 := (by injection e163)
          replace hx163_0 := (HB.out.cell (World.block_lt_of_cell? w _ hx163_0)).trans hx163_0
          replace p163 := eq_true p163
          replace q163 := eq_true q163
          refine start_ (n := 35) (S := fun w' => w'.cell? ⟨gb160, 0, none⟩ = some (.int .u32 a0_0) ∧ w'.cell? ⟨gb160, 1, none⟩ = some (.int .i64 a0_1) ∧ w'.cell? ⟨gb160, 2, none⟩ = some (.slice (some ad162) l0_2.length c0_2) ∧ w'.cell? ⟨gb160, 3, none⟩ = some (.int .i64 a0_3) ∧ w'.cell? ⟨gb160, 4, none⟩ = some (.int .i64 a0_4) ∧ w'.cell? ⟨gb160, 5, none⟩ = some (.int .i64 a0_5) ∧ w'.cell? ⟨gb160, 6, none⟩ = some (.int .i64 a0_6) ∧ w'.cell? (ad162.add (x3_2).toNat) = some (.int .i64 (rd l0_2 x3_2)) ∧ w'.cell? (ad162.add (x3_2).toNat) = some (.int .i64 (rd l0_2 x3_2))) (ds := []) #[false, false, false, false, false, false, false, false, false, false, false, false, false, false, false, false, false, false, false, false, false, false, false, false, false, false, false, false, false, false, false, false, false, false, false] (by kernel_rfl) rfl rfl ⟨(blk_cell BK160.out 0).trans rfl, (blk_cell BK160.out 1).trans rfl, (blk_cell BK160.out 2).trans rfl, (blk_cell BK160.out 3).trans rfl, (blk_cell BK160.out 4).trans rfl, (blk_cell BK160.out 5).trans rfl, (blk_cell BK160.out 6).trans rfl, ((HB.out.cell (World.block_lt_of_cell? w _ hw162_0)).trans hw162_0), ((HB.out.cell (World.block_lt_of_cell? w _ hw163_0)).trans hw163_0)⟩ (fun hHeld => ?_); refine with_tabW lodgerref05_May.tab6 lodgerref05_May.bits6 (fun HT_ HW_ => ?_)
          generalize wr.drew = w52 at BK160 HB hx162_0 hx163_0 hHeld ⊢
          refine pu_ (i := 0) (N := some 61) (tf 35 1) HT_ ?_
          refine pu_ (i := 2) (N := some 63) (tf 35 5) HT_ ?_
          refine tk_ (i := 1) (N := some 62) (tf 35 7) rfl rfl HT_ HW_ hHeld (by rintro w' ⟨s0, s1, s2, s3, s4, s5, s6, s7, s8⟩; go_simp; with_reducible rfl) ?_
          refine pu_ (i := 3) (N := some 64) (tf 35 15) HT_ ?_
          refine tk_ (i := 4) (N := some 65) (tf 35 31) rfl rfl HT_ HW_ hHeld (by rintro w' ⟨s0, s1, s2, s3, s4, s5, s6, s7, s8⟩; go_simp; with_reducible rfl) ?_
          refine pu_ (i := 5) (N := some 66) (tf 35 63) HT_ ?_
          refine pu_ (i := 6) (N := some 67) (tf 35 127) HT_ ?_
          refine pu_ (i := 7) (N := some 68) (tf 35 255) HT_ ?_
          refine pu_ (i := 9) (N := some 70) (tf 35 767) HT_ ?_
          refine pu_ (i := 12) (N := some 73) (tf 35 4863) HT_ ?_
          refine tk_ (i := 8) (N := some 69) (tf 35 5119) rfl rfl HT_ HW_ hHeld (by rintro w' ⟨s0, s1, s2, s3, s4, s5, s6, s7, s8⟩; go_simp; with_reducible rfl) ?_
          refine pu_ (i := 10) (N := some 71) (tf 35 6143) HT_ ?_
          refine tk_ (i := 11) (N := some 72) (tf 35 8191) rfl rfl HT_ HW_ hHeld (by rintro w' ⟨s0, s1, s2, s3, s4, s5, s6, s7, s8⟩; go_simp; with_reducible rfl) ?_
          refine tk_ (i := 13) (N := some 74) (tf 35 16383) rfl rfl HT_ HW_ hHeld (by rintro w' ⟨s0, s1, s2, s3, s4, s5, s6, s7, s8⟩; go_simp; with_reducible rfl) ?_
          refine one_ (i := 14) (N := some 75) #[true, true, true, true, true, true, true, true, true, true, true, true, true, true, true, false, false, false, false, false, false, false, false, false, false, false, false, false, false, false, false, false, false, false, false] rfl rfl (one_of HT_.out (by kernel_rfl)) (by decide) (fun K hK => ?_)
          refine goes_ Tryd.func20 (by kernel_rfl) rfl #[.agg #[.int .u32 a0_0, .int .i64 a0_1]] (by rfl) rfl rfl (by (try simp only [List.map_toArray, List.map_cons, List.map_nil]); first | done | rfl | (simp only [List.length_drop, List.length_take]; rfl)) ?_
          with_reducible refine (lodgerref05_Many.calls k2 a0_0 a0_1 t164 _ A49.out).mono ?_
          rintro e w53 ⟨rfl, hb⟩
          refine ⟨_, rfl, ?_⟩
          have n0_ := Aside0.mk (blk_below (g := gb160) (o := .cells #[.int .u32 a0_0, .int .i64 a0_1, .slice (some ad162) l0_2.length c0_2, .int .i64 a0_3, .int .i64 a0_4, .int .i64 a0_5, .int .i64 a0_6] 27 (0, 0)) (by (with_reducible repeat (first | refine blk_drewN ?_ _ | refine blk_drew ?_ | refine blk_alloc ?_ _)); exact BK160.out) hb)
          have n1_ := Aside0.mk (below_step (by repeat (first | (with_reducible first | exact HB.out | apply below_alloc | apply pw_below_drewN | apply below_drew1 | refine below_set ?_ GE160.out) | exact HB.out)) hb)
          clear BK160
          clear HB
          have BK160 := n0_
          have HB := n1_
          clear n0_ n1_
          (try clear hb)
          (try clear hb2)
          (try clear hk)
          (try clear hi)
          refine hK.out _ _ ⟨(blk_cell BK160.out 0).trans rfl, (blk_cell BK160.out 1).trans rfl, (blk_cell BK160.out 2).trans rfl, (blk_cell BK160.out 3).trans rfl, (blk_cell BK160.out 4).trans rfl, (blk_cell BK160.out 5).trans rfl, (blk_cell BK160.out 6).trans rfl, ((HB.out.cell (World.block_lt_of_cell? w _ hw162_0)).trans hw162_0), ((HB.out.cell (World.block_lt_of_cell? w _ hw163_0)).trans hw163_0)⟩ (fun hHeld => ?_)
          clear hK K
          refine norm_ (a' := ?_) ?_ ?_
          rotate_left
          ·show Act.put _ (some 75) _ = _
           simp only [Act.put, List.setIfInBounds_toArray, List.set_cons_zero, List.set_cons_succ, i64_w, i32_w]
           rfl
          refine pu_ (i := 15) (N := some 76) (tf 35 65535) HT_ ?_
          refine pu_ (i := 16) (N := some 77) (tf 35 131071) HT_ ?_
          refine pu_ (i := 17) (N := some 78) (tf 35 262143) HT_ ?_
          refine pure_ (i := 18) (N := some 79) (v := undef) (a' := ?_) #[true, true, true, true, true, true, true, true, true, true, true, true, true, true, true, true, true, true, true, false, false, false, false, false, false, false, false, false, false, false, false, false, false, false, false] rfl rfl (any_of HT_.out (by kernel_rfl)) (fun _ _ _ h => h) (Or.inr ⟨by rfl, rfl⟩) ?_ ?_
          rotate_left
          ·simp only [Act.put, List.setIfInBounds_toArray, List.set_cons_zero, List.set_cons_succ, i64_w, i32_w]
           rfl
          refine pure_ (i := 19) (N := some 80) (v := undef) (a' := ?_) #[true, true, true, true, true, true, true, true, true, true, true, true, true, true, true, true, true, true, true, true, false, false, false, false, false, false, false, false, false, false, false, false, false, false, false] rfl rfl (any_of HT_.out (by kernel_rfl)) (fun _ _ _ h => h) (Or.inr ⟨by rfl, rfl⟩) ?_ ?_
          rotate_left
          ·simp only [Act.put, List.setIfInBounds_toArray, List.set_cons_zero, List.set_cons_succ, i64_w, i32_w]
           rfl
          refine pure_ (i := 20) (N := some 81) (v := undef) (a' := ?_) #[true, true, true, true, true, true, true, true, true, true, true, true, true, true, true, true, true, true, true, true, true, false, false, false, false, false, false, false, false, false, false, false, false, false, false] rfl rfl (any_of HT_.out (by kernel_rfl)) (fun _ _ _ h => h) (Or.inr ⟨by rfl, rfl⟩) ?_ ?_
          rotate_left
          ·simp only [Act.put, List.setIfInBounds_toArray, List.set_cons_zero, List.set_cons_succ, i64_w, i32_w]
           rfl
          refine pure_ (i := 21) (N := some 82) (v := undef) (a' := ?_) #[true, true, true, true, true, true, true, true, true, true, true, true, true, true, true, true, true, true, true, true, true, true, false, false, false, false, false, false, false, false, false, false, false, false, false] rfl rfl (any_of HT_.out (by kernel_rfl)) (fun _ _ _ h => h) (Or.inr ⟨by rfl, rfl⟩) ?_ ?_
          rotate_left
          ·simp only [Act.put, List.setIfInBounds_toArray, List.set_cons_zero, List.set_cons_succ, i64_w, i32_w]
           rfl
          refine pure_ (i := 22) (N := some 83) (v := undef) (a' := ?_) #[true, true, true, true, true, true, true, true, true, true, true, true, true, true, true, true, true, true, true, true, true, true, true, false, false, false, false, false, false, false, false, false, false, false, false] rfl rfl (any_of HT_.out (by kernel_rfl)) (fun _ _ _ h => h) (Or.inr ⟨by rfl, rfl⟩) ?_ ?_
          rotate_left
          ·simp only [Act.put, List.setIfInBounds_toArray, List.set_cons_zero, List.set_cons_succ, i64_w, i32_w]
           rfl
          refine pure_ (i := 23) (N := some 84) (v := undef) (a' := ?_) #[true, true, true, true, true, true, true, true, true, true, true, true, true, true, true, true, true, true, true, true, true, true, true, true, false, false, false, false, false, false, false, false, false, false, false] rfl rfl (any_of HT_.out (by kernel_rfl)) (fun _ _ _ h => h) (Or.inr ⟨by rfl, rfl⟩) ?_ ?_
          rotate_left
          ·simp only [Act.put, List.setIfInBounds_toArray, List.set_cons_zero, List.set_cons_succ, i64_w, i32_w]
           rfl
          refine pure_ (i := 24) (N := some 85) (v := undef) (a' := ?_) #[true, true, true, true, true, true, true, true, true, true, true, true, true, true, true, true, true, true, true, true, true, true, true, true, true, false, false, false, false, false, false, false, false, false, false] rfl rfl (any_of HT_.out (by kernel_rfl)) (fun _ _ _ h => h) (Or.inr ⟨by rfl, rfl⟩) ?_ ?_
          rotate_left
          ·simp only [Act.put, List.setIfInBounds_toArray, List.set_cons_zero, List.set_cons_succ, i64_w, i32_w]
           rfl
          refine pure_ (i := 25) (N := some 86) (v := undef) (a' := ?_) #[true, true, true, true, true, true, true, true, true, true, true, true, true, true, true, true, true, true, true, true, true, true, true, true, true, true, false, false, false, false, false, false, false, false, false] rfl rfl (any_of HT_.out (by kernel_rfl)) (fun _ _ _ h => h) (Or.inr ⟨by rfl, rfl⟩) ?_ ?_
          rotate_left
          ·simp only [Act.put, List.setIfInBounds_toArray, List.set_cons_zero, List.set_cons_succ, i64_w, i32_w]
           rfl
          refine pure_ (i := 26) (N := some 87) (v := undef) (a' := ?_) #[true, true, true, true, true, true, true, true, true, true, true, true, true, true, true, true, true, true, true, true, true, true, true, true, true, true, true, false, false, false, false, false, false, false, false] rfl rfl (any_of HT_.out (by kernel_rfl)) (fun _ _ _ h => h) (Or.inr ⟨by rfl, rfl⟩) ?_ ?_
          rotate_left
          ·simp only [Act.put, List.setIfInBounds_toArray, List.set_cons_zero, List.set_cons_succ, i64_w, i32_w]
           rfl
          refine pure_ (i := 27) (N := some 88) (v := undef) (a' := ?_) #[true, true, true, true, true, true, true, true, true, true, true, true, true, true, true, true, true, true, true, true, true, true, true, true, true, true, true, true, false, false, false, false, false, false, false] rfl rfl (any_of HT_.out (by kernel_rfl)) (fun _ _ _ h => h) (Or.inr ⟨by rfl, rfl⟩) ?_ ?_
          rotate_left
          ·simp only [Act.put, List.setIfInBounds_toArray, List.set_cons_zero, List.set_cons_succ, i64_w, i32_w]
           rfl
          refine pure_ (i := 28) (N := some 89) (v := undef) (a' := ?_) #[true, true, true, true, true, true, true, true, true, true, true, true, true, true, true, true, true, true, true, true, true, true, true, true, true, true, true, true, true, false, false, false, false, false, false] rfl rfl (any_of HT_.out (by kernel_rfl)) (fun _ _ _ h => h) (Or.inr ⟨by rfl, rfl⟩) ?_ ?_
          rotate_left
          ·simp only [Act.put, List.setIfInBounds_toArray, List.set_cons_zero, List.set_cons_succ, i64_w, i32_w]
           rfl
          refine pure_ (i := 29) (N := some 90) (v := undef) (a' := ?_) #[true, true, true, true, true, true, true, true, true, true, true, true, true, true, true, true, true, true, true, true, true, true, true, true, true, true, true, true, true, true, false, false, false, false, false] rfl rfl (any_of HT_.out (by kernel_rfl)) (fun _ _ _ h => h) (Or.inr ⟨by rfl, rfl⟩) ?_ ?_
          rotate_left
          ·simp only [Act.put, List.setIfInBounds_toArray, List.set_cons_zero, List.set_cons_succ, i64_w, i32_w]
           rfl
          refine pure_ (i := 30) (N := some 91) (v := undef) (a' := ?_) #[true, true, true, true, true, true, true, true, true, true, true, true, true, true, true, true, true, true, true, true, true, true, true, true, true, true, true, true, true, true, true, false, false, false, false] rfl rfl (any_of HT_.out (by kernel_rfl)) (fun _ _ _ h => h) (Or.inr ⟨by rfl, rfl⟩) ?_ ?_
          rotate_left
          ·simp only [Act.put, List.setIfInBounds_toArray, List.set_cons_zero, List.set_cons_succ, i64_w, i32_w]
           rfl
          refine pure_ (i := 31) (N := some 92) (v := undef) (a' := ?_) #[true, true, true, true, true, true, true, true, true, true, true, true, true, true, true, true, true, true, true, true, true, true, true, true, true, true, true, true, true, true, true, true, false, false, false] rfl rfl (any_of HT_.out (by kernel_rfl)) (fun _ _ _ h => h) (Or.inr ⟨by rfl, rfl⟩) ?_ ?_
          rotate_left
          ·simp only [Act.put, List.setIfInBounds_toArray, List.set_cons_zero, List.set_cons_succ, i64_w, i32_w]
           rfl
          refine pure_ (i := 32) (N := some 93) (v := undef) (a' := ?_) #[true, true, true, true, true, true, true, true, true, true, true, true, true, true, true, true, true, true, true, true, true, true, true, true, true, true, true, true, true, true, true, true, true, false, false] rfl rfl (any_of HT_.out (by kernel_rfl)) (fun _ _ _ h => h) (Or.inr ⟨by rfl, rfl⟩) ?_ ?_
          rotate_left
          ·simp only [Act.put, List.setIfInBounds_toArray, List.set_cons_zero, List.set_cons_succ, i64_w, i32_w]
           rfl
          refine pure_ (i := 33) (N := some 94) (v := undef) (a' := ?_) #[true, true, true, true, true, true, true, true, true, true, true, true, true, true, true, true, true, true, true, true, true, true, true, true, true, true, true, true, true, true, true, true, true, true, false] rfl rfl (any_of HT_.out (by kernel_rfl)) (fun _ _ _ h => h) (Or.inr ⟨by rfl, rfl⟩) ?_ ?_
          rotate_left
          ·simp only [Act.put, List.setIfInBounds_toArray, List.set_cons_zero, List.set_cons_succ, i64_w, i32_w]
           rfl
          refine pu_ (i := 34) (N := some 95) (tf 35 34359738367) HT_ ?_
          refine done_ (done_of HT_.out (by kernel_rfl)) ?_
          try go_wp2
          go_ret
          exact ⟨by first | rfl | (simp [errW_none, errW_some] <;> rfl) | (simp [*, errW_none, errW_some] <;> rfl), by repeat (first | (with_reducible first | exact HB.out | apply below_alloc | apply pw_below_drewN | apply below_drew1 | refine below_set ?_ GE160.out) | exact HB.out)⟩
         ·rw [if_neg c50] at H
          have c50b0 : decide (t164 ≤ (rd l0_2 x3_2)) = false := decide_eq_false c50
          clear c50
          by_cases c54 : x3_2 > 0
          ·rw [if_pos c54] at H
           have c54b0 : decide (0 < x3_2) = true := decide_eq_true c54
           clear c54
           obtain ⟨ji55, hji55⟩ : ∃ j_ : Int, (wrap64 (x3_2 - 1)) = j_ := ⟨_, rfl⟩
           replace H : (if 0 ≤ (ji55) then (if (ji55) < (l0_2.length : Int) then (if (rd l0_2 x3_2) ≤ (rd l0_2 (ji55)) then (some false) else (lodgerref05_May.l0 k2 (wrap64 (x3_2 + 1)) a0_0 a0_1 l0_2 a0_3 a0_4 a0_5 a0_6)) else (none)) else (none)) = some r := by first | (rw [hji55] at H; exact H) | (simp only [hji55] at H ⊢; exact H)
           (try rw [hji55] at A49)
           have hji55w : (IntKind.i64.wrap (x3_2 - 1)) = ji55 := (i64_w _).trans hji55
           by_cases c56 : 0 ≤ (ji55)
           ·rw [if_pos c56] at H
            have c56b0 : decide (0 ≤ (ji55)) = true := decide_eq_true c56
            clear c56
            by_cases c57 : (ji55) < (l0_2.length : Int)
            ·rw [if_pos c57] at H
             have c57b0 : decide ((ji55) < (l0_2.length : Int)) = true := decide_eq_true c57
             clear c57
             by_cases c58 : (rd l0_2 x3_2) ≤ (rd l0_2 (ji55))
             ·rw [if_pos c58] at H
              have c58b0 : decide ((rd l0_2 x3_2) ≤ (rd l0_2 (ji55))) = true := decide_eq_true c58
              clear c58
              obtain rfl := Option.some.inj H
              have hcz59_0 : wr.cell? ⟨gb160, 0, none⟩ = some (.int .u32 a0_0) := (blk_cell BK160.out 0).trans rfl
              have hcz59_1 : wr.cell? ⟨gb160, 1, none⟩ = some (.int .i64 a0_1) := (blk_cell BK160.out 1).trans rfl
              have hcz59_2 : wr.cell? ⟨gb160, 2, none⟩ = some (.slice A0_2 l0_2.length c0_2) := (blk_cell BK160.out 2).trans rfl
              have hcz59_3 : wr.cell? ⟨gb160, 3, none⟩ = some (.int .i64 a0_3) := (blk_cell BK160.out 3).trans rfl
              have hcz59_4 : wr.cell? ⟨gb160, 4, none⟩ = some (.int .i64 a0_4) := (blk_cell BK160.out 4).trans rfl
              have hcz59_5 : wr.cell? ⟨gb160, 5, none⟩ = some (.int .i64 a0_5) := (blk_cell BK160.out 5).trans rfl
              have hcz59_6 : wr.cell? ⟨gb160, 6, none⟩ = some (.int .i64 a0_6) := (blk_cell BK160.out 6).trans rfl
              have hfz59_0 := blk_frozen BK160.out 0
              have hfz59_1 := blk_frozen BK160.out 1
              have hfz59_2 := blk_frozen BK160.out 2
              have hfz59_3 := blk_frozen BK160.out 3
              have hfz59_4 := blk_frozen BK160.out 4
              have hfz59_5 := blk_frozen BK160.out 5
              have hfz59_6 := blk_frozen BK160.out 6
              try go_wp2
              have n0_ := Aside0.mk (blk_drew BK160.out)
              have n1_ := Aside0.mk (below_drew1 HB.out)
              clear BK160
              clear HB
              have BK160 := n0_
              have HB := n1_
              clear n0_ n1_
              have p162 : 0 ≤ (x3_2 : Int) := od_
              have q162 : x3_2 < (l0_2.length : Int) := od_
              obtain ⟨ad162, e162, hx162_0⟩ := Kd.at_int HR0_2.out x3_2 p162 q162
              have hw162_0 := hx162_0
              cases e162
              replace hx162_0 := (HB.out.cell (World.block_lt_of_cell? w _ hx162_0)).trans hx162_0
              replace p162 := eq_true p162
              replace q162 := eq_true q162
              have p163 : 0 ≤ (x3_2 : Int) := od_
              have q163 : x3_2 < (l0_2.length : Int) := od_
              obtain ⟨ad163, e163, hx163_0⟩ := Kd.at_int HR0_2.out x3_2 p163 q163
              have hw163_0 := hx163_0
              obtain rfl : ad162 = ad163 := (by injection e163)
              replace hx163_0 := (HB.out.cell (World.block_lt_of_cell? w _ hx163_0)).trans hx163_0
              replace p163 := eq_true p163
              replace q163 := eq_true q163
              have p165 : 0 ≤ (x3_2 : Int) := od_
              have q165 : x3_2 < (l0_2.length : Int) := od_
              obtain ⟨ad165, e165, hx165_0⟩ := Kd.at_int HR0_2.out x3_2 p165 q165
              have hw165_0 := hx165_0
              obtain rfl : ad162 = ad165 := (by injection e165)
              replace hx165_0 := (HB.out.cell (World.block_lt_of_cell? w _ hx165_0)).trans hx165_0
              replace p165 := eq_true p165
              replace q165 := eq_true q165
              have p166 : 0 ≤ ((ji55) : Int) := od_
              have q166 : (ji55) < (l0_2.length : Int) := od_
              obtain ⟨ad166, e166, hx166_0⟩ := Kd.at_int HR0_2.out (ji55) p166 q166
              have hw166_0 := hx166_0
              obtain rfl : ad162 = ad166 := (by injection e166)
              replace hx166_0 := (HB.out.cell (World.block_lt_of_cell? w _ hx166_0)).trans hx166_0
              replace p166 := eq_true p166
              replace q166 := eq_true q166
              refine start_ (n := 35) (S := fun w' => w'.cell? ⟨gb160, 0, none⟩ = some (.int .u32 a0_0) ∧ w'.cell? ⟨gb160, 1, none⟩ = some (.int .i64 a0_1) ∧ w'.cell? ⟨gb160, 2, none⟩ = some (.slice (some ad162) l0_2.length c0_2) ∧ w'.cell? ⟨gb160, 3, none⟩ = some (.int .i64 a0_3) ∧ w'.cell? ⟨gb160, 4, none⟩ = some (.int .i64 a0_4) ∧ w'.cell? ⟨gb160, 5, none⟩ = some (.int .i64 a0_5) ∧ w'.cell? ⟨gb160, 6, none⟩ = some (.int .i64 a0_6) ∧ w'.cell? (ad162.add (x3_2).toNat) = some (.int .i64 (rd l0_2 x3_2)) ∧ w'.cell? (ad162.add (x3_2).toNat) = some (.int .i64 (rd l0_2 x3_2)) ∧ w'.cell? (ad162.add (x3_2).toNat) = some (.int .i64 (rd l0_2 x3_2)) ∧ w'.cell? (ad162.add ((ji55)).toNat) = some (.int .i64 (rd l0_2 (ji55)))) (ds := []) #[false, false, false, false, false, false, false, false, false, false, false, false, false, false, false, false, false, false, false, false, false, false, false, false, false, false, false, false, false, false, false, false, false, false, false] (by kernel_rfl) rfl rfl ⟨(blk_cell BK160.out 0).trans rfl, (blk_cell BK160.out 1).trans rfl, (blk_cell BK160.out 2).trans rfl, (blk_cell BK160.out 3).trans rfl, (blk_cell BK160.out 4).trans rfl, (blk_cell BK160.out 5).trans rfl, (blk_cell BK160.out 6).trans rfl, ((HB.out.cell (World.block_lt_of_cell? w _ hw162_0)).trans hw162_0), ((HB.out.cell (World.block_lt_of_cell? w _ hw163_0)).trans hw163_0), ((HB.out.cell (World.block_lt_of_cell? w _ hw165_0)).trans hw165_0), ((HB.out.cell (World.block_lt_of_cell? w _ hw166_0)).trans hw166_0)⟩ (fun hHeld => ?_); refine with_tabW lodgerref05_May.tab6 lodgerref05_May.bits6 (fun HT_ HW_ => ?_)
              generalize wr.drew = w60 at BK160 HB hx162_0 hx163_0 hx165_0 hx166_0 hHeld ⊢
              refine pu_ (i := 0) (N := some 61) (tf 35 1) HT_ ?_
              refine pu_ (i := 2) (N := some 63) (tf 35 5) HT_ ?_
              refine tk_ (i := 1) (N := some 62) (tf 35 7) rfl rfl HT_ HW_ hHeld (by rintro w' ⟨s0, s1, s2, s3, s4, s5, s6, s7, s8, s9, s10⟩; go_simp; with_reducible rfl) ?_
              refine pu_ (i := 3) (N := some 64) (tf 35 15) HT_ ?_
              refine tk_ (i := 4) (N := some 65) (tf 35 31) rfl rfl HT_ HW_ hHeld (by rintro w' ⟨s0, s1, s2, s3, s4, s5, s6, s7, s8, s9, s10⟩; go_simp; with_reducible rfl) ?_
              refine pu_ (i := 5) (N := some 66) (tf 35 63) HT_ ?_
              refine pu_ (i := 6) (N := some 67) (tf 35 127) HT_ ?_
              refine pu_ (i := 7) (N := some 68) (tf 35 255) HT_ ?_
              refine pu_ (i := 9) (N := some 70) (tf 35 767) HT_ ?_
              refine pu_ (i := 12) (N := some 73) (tf 35 4863) HT_ ?_
              refine tk_ (i := 8) (N := some 69) (tf 35 5119) rfl rfl HT_ HW_ hHeld (by rintro w' ⟨s0, s1, s2, s3, s4, s5, s6, s7, s8, s9, s10⟩; go_simp; with_reducible rfl) ?_
              refine pu_ (i := 10) (N := some 71) (tf 35 6143) HT_ ?_
              refine tk_ (i := 11) (N := some 72) (tf 35 8191) rfl rfl HT_ HW_ hHeld (by rintro w' ⟨s0, s1, s2, s3, s4, s5, s6, s7, s8, s9, s10⟩; go_simp; with_reducible rfl) ?_
              refine tk_ (i := 13) (N := some 74) (tf 35 16383) rfl rfl HT_ HW_ hHeld (by rintro w' ⟨s0, s1, s2, s3, s4, s5, s6, s7, s8, s9, s10⟩; go_simp; with_reducible rfl) ?_
              refine one_ (i := 14) (N := some 75) #[true, true, true, true, true, true, true, true, true, true, true, true, true, true, true, false, false, false, false, false, false, false, false, false, false, false, false, false, false, false, false, false, false, false, false] rfl rfl (one_of HT_.out (by kernel_rfl)) (by decide) (fun K hK => ?_)
              refine goes_ Tryd.func20 (by kernel_rfl) rfl #[.agg #[.int .u32 a0_0, .int .i64 a0_1]] (by rfl) rfl rfl (by (try simp only [List.map_toArray, List.map_cons, List.map_nil]); first | done | rfl | (simp only [List.length_drop, List.length_take]; rfl)) ?_
              with_reducible refine (lodgerref05_Many.calls k2 a0_0 a0_1 t164 _ A49.out).mono ?_
              rintro e w61 ⟨rfl, hb⟩
              refine ⟨_, rfl, ?_⟩
              have n0_ := Aside0.mk (blk_below (g := gb160) (o := .cells #[.int .u32 a0_0, .int .i64 a0_1, .slice (some ad162) l0_2.length c0_2, .int .i64 a0_3, .int .i64 a0_4, .int .i64 a0_5, .int .i64 a0_6] 27 (0, 0)) (by (with_reducible repeat (first | refine blk_drewN ?_ _ | refine blk_drew ?_ | refine blk_alloc ?_ _)); exact BK160.out) hb)
              have n1_ := Aside0.mk (below_step (by repeat (first | (with_reducible first | exact HB.out | apply below_alloc | apply pw_below_drewN | apply below_drew1 | refine below_set ?_ GE160.out) | exact HB.out)) hb)
              clear BK160
              clear HB
              have BK160 := n0_
              have HB := n1_
              clear n0_ n1_
              (try clear hb)
              (try clear hb2)
              (try clear hk)
              (try clear hi)
              refine hK.out _ _ ⟨(blk_cell BK160.out 0).trans rfl, (blk_cell BK160.out 1).trans rfl, (blk_cell BK160.out 2).trans rfl, (blk_cell BK160.out 3).trans rfl, (blk_cell BK160.out 4).trans rfl, (blk_cell BK160.out 5).trans rfl, (blk_cell BK160.out 6).trans rfl, ((HB.out.cell (World.block_lt_of_cell? w _ hw162_0)).trans hw162_0), ((HB.out.cell (World.block_lt_of_cell? w _ hw163_0)).trans hw163_0), ((HB.out.cell (World.block_lt_of_cell? w _ hw165_0)).trans hw165_0), ((HB.out.cell (World.block_lt_of_cell? w _ hw166_0)).trans hw166_0)⟩ (fun hHeld => ?_)
              clear hK K
              refine norm_ (a' := ?_) ?_ ?_
              rotate_left
              ·show Act.put _ (some 75) _ = _
               simp only [Act.put, List.setIfInBounds_toArray, List.set_cons_zero, List.set_cons_succ, i64_w, i32_w]
               rfl
              refine pu_ (i := 15) (N := some 76) (tf 35 65535) HT_ ?_
              refine pu_ (i := 16) (N := some 77) (tf 35 131071) HT_ ?_
              refine pu_ (i := 17) (N := some 78) (tf 35 262143) HT_ ?_
              refine pu_ (i := 18) (N := some 79) (tf 35 524287) HT_ ?_
              refine pu_ (i := 19) (N := some 80) (tf 35 1048575) HT_ ?_
              refine pu_ (i := 20) (N := some 81) (tf 35 2097151) HT_ ?_
              refine pu_ (i := 21) (N := some 82) (tf 35 4194303) HT_ ?_
              refine pu_ (i := 23) (N := some 84) (tf 35 12582911) HT_ ?_
              refine pu_ (i := 26) (N := some 87) (tf 35 79691775) HT_ ?_
              refine pu_ (i := 28) (N := some 89) (tf 35 348127231) HT_ ?_
              refine pu_ (i := 29) (N := some 90) (tf 35 884998143) HT_ ?_
              refine tk_ (i := 22) (N := some 83) (tf 35 889192447) rfl rfl HT_ HW_ hHeld (by rintro w' ⟨s0, s1, s2, s3, s4, s5, s6, s7, s8, s9, s10⟩; go_simp; with_reducible rfl) ?_
              refine pu_ (i := 24) (N := some 85) (tf 35 905969663) HT_ ?_
              refine tk_ (i := 25) (N := some 86) (tf 35 939524095) rfl rfl HT_ HW_ hHeld (by rintro w' ⟨s0, s1, s2, s3, s4, s5, s6, s7, s8, s9, s10⟩; go_simp; with_reducible rfl) ?_
              refine tk_ (i := 27) (N := some 88) (tf 35 1073741823) rfl rfl HT_ HW_ hHeld (by rintro w' ⟨s0, s1, s2, s3, s4, s5, s6, s7, s8, s9, s10⟩; go_simp; with_reducible rfl) ?_
              refine pu_ (i := 30) (N := some 91) (tf 35 2147483647) HT_ ?_
              refine tk_ (i := 31) (N := some 92) (tf 35 4294967295) rfl rfl HT_ HW_ hHeld (by rintro w' ⟨s0, s1, s2, s3, s4, s5, s6, s7, s8, s9, s10⟩; go_simp; with_reducible rfl) ?_
              refine pu_ (i := 32) (N := some 93) (tf 35 8589934591) HT_ ?_
              refine pu_ (i := 33) (N := some 94) (tf 35 17179869183) HT_ ?_
              refine pu_ (i := 34) (N := some 95) (tf 35 34359738367) HT_ ?_
              refine done_ (done_of HT_.out (by kernel_rfl)) ?_
              try go_wp2
              go_ret
              exact ⟨by first | rfl | (simp [errW_none, errW_some] <;> rfl) | (simp only [← hji55]; first | rfl | (simp [errW_none, errW_some] <;> rfl)) | (simp [*, errW_none, errW_some] <;> rfl), by repeat (first | (with_reducible first | exact HB.out | apply below_alloc | apply pw_below_drewN | apply below_drew1 | refine below_set ?_ GE160.out) | exact HB.out)⟩
             ·rw [if_neg c58] at H
              have c58b0 : decide ((rd l0_2 x3_2) ≤ (rd l0_2 (ji55))) = false := decide_eq_false c58
              clear c58
              have H' := Aside0.mk H
              clear H
              have hcz62_0 : wr.cell? ⟨gb160, 0, none⟩ = some (.int .u32 a0_0) := (blk_cell BK160.out 0).trans rfl
              have hcz62_1 : wr.cell? ⟨gb160, 1, none⟩ = some (.int .i64 a0_1) := (blk_cell BK160.out 1).trans rfl
              have hcz62_2 : wr.cell? ⟨gb160, 2, none⟩ = some (.slice A0_2 l0_2.length c0_2) := (blk_cell BK160.out 2).trans rfl
              have hcz62_3 : wr.cell? ⟨gb160, 3, none⟩ = some (.int .i64 a0_3) := (blk_cell BK160.out 3).trans rfl
              have hcz62_4 : wr.cell? ⟨gb160, 4, none⟩ = some (.int .i64 a0_4) := (blk_cell BK160.out 4).trans rfl
              have hcz62_5 : wr.cell? ⟨gb160, 5, none⟩ = some (.int .i64 a0_5) := (blk_cell BK160.out 5).trans rfl
              have hcz62_6 : wr.cell? ⟨gb160, 6, none⟩ = some (.int .i64 a0_6) := (blk_cell BK160.out 6).trans rfl
              have hfz62_0 := blk_frozen BK160.out 0
              have hfz62_1 := blk_frozen BK160.out 1
              have hfz62_2 := blk_frozen BK160.out 2
              have hfz62_3 := blk_frozen BK160.out 3
              have hfz62_4 := blk_frozen BK160.out 4
              have hfz62_5 := blk_frozen BK160.out 5
              have hfz62_6 := blk_frozen BK160.out 6
              try go_wp2
              have n0_ := Aside0.mk (blk_drew BK160.out)
              have n1_ := Aside0.mk (below_drew1 HB.out)
              clear BK160
              clear HB
              have BK160 := n0_
              have HB := n1_
              clear n0_ n1_
              have p162 : 0 ≤ (x3_2 : Int) := od_
              have q162 : x3_2 < (l0_2.length : Int) := od_
              obtain ⟨ad162, e162, hx162_0⟩ := Kd.at_int HR0_2.out x3_2 p162 q162
              have hw162_0 := hx162_0
              cases e162
              replace hx162_0 := (HB.out.cell (World.block_lt_of_cell? w _ hx162_0)).trans hx162_0
              replace p162 := eq_true p162
              replace q162 := eq_true q162
              have p163 : 0 ≤ (x3_2 : Int) := od_
              have q163 : x3_2 < (l0_2.length : Int) := od_
              obtain ⟨ad163, e163, hx163_0⟩ := Kd.at_int HR0_2.out x3_2 p163 q163
              have hw163_0 := hx163_0
              obtain rfl : ad162 = ad163 := (by injection e163)
              replace hx163_0 := (HB.out.cell (World.block_lt_of_cell? w _ hx163_0)).trans hx163_0
              replace p163 := eq_true p163
              replace q163 := eq_true q163
              have p165 : 0 ≤ (x3_2 : Int) := od_
              have q165 : x3_2 < (l0_2.length : Int) := od_
              obtain ⟨ad165, e165, hx165_0⟩ := Kd.at_int HR0_2.out x3_2 p165 q165
              have hw165_0 := hx165_0
              obtain rfl : ad162 = ad165 := (by injection e165)
              replace hx165_0 := (HB.out.cell (World.block_lt_of_cell? w _ hx165_0)).trans hx165_0
              replace p165 := eq_true p165
              replace q165 := eq_true q165
              have p166 : 0 ≤ ((ji55) : Int) := od_
              have q166 : (ji55) < (l0_2.length : Int) := od_
              obtain ⟨ad166, e166, hx166_0⟩ := Kd.at_int HR0_2.out (ji55) p166 q166
              have hw166_0 := hx166_0
              obtain rfl : ad162 = ad166 := (by injection e166)
              replace hx166_0 := (HB.out.cell (World.block_lt_of_cell? w _ hx166_0)).trans hx166_0
              replace p166 := eq_true p166
              replace q166 := eq_true q166
              refine start_ (n := 35) (S := fun w' => w'.cell? ⟨gb160, 0, none⟩ = some (.int .u32 a0_0) ∧ w'.cell? ⟨gb160, 1, none⟩ = some (.int .i64 a0_1) ∧ w'.cell? ⟨gb160, 2, none⟩ = some (.slice (some ad162) l0_2.length c0_2) ∧ w'.cell? ⟨gb160, 3, none⟩ = some (.int .i64 a0_3) ∧ w'.cell? ⟨gb160, 4, none⟩ = some (.int .i64 a0_4) ∧ w'.cell? ⟨gb160, 5, none⟩ = some (.int .i64 a0_5) ∧ w'.cell? ⟨gb160, 6, none⟩ = some (.int .i64 a0_6) ∧ w'.cell? (ad162.add (x3_2).toNat) = some (.int .i64 (rd l0_2 x3_2)) ∧ w'.cell? (ad162.add (x3_2).toNat) = some (.int .i64 (rd l0_2 x3_2)) ∧ w'.cell? (ad162.add (x3_2).toNat) = some (.int .i64 (rd l0_2 x3_2)) ∧ w'.cell? (ad162.add ((ji55)).toNat) = some (.int .i64 (rd l0_2 (ji55)))) (ds := []) #[false, false, false, false, false, false, false, false, false, false, false, false, false, false, false, false, false, false, false, false, false, false, false, false, false, false, false, false, false, false, false, false, false, false, false] (by kernel_rfl) rfl rfl ⟨(blk_cell BK160.out 0).trans rfl, (blk_cell BK160.out 1).trans rfl, (blk_cell BK160.out 2).trans rfl, (blk_cell BK160.out 3).trans rfl, (blk_cell BK160.out 4).trans rfl, (blk_cell BK160.out 5).trans rfl, (blk_cell BK160.out 6).trans rfl, ((HB.out.cell (World.block_lt_of_cell? w _ hw162_0)).trans hw162_0), ((HB.out.cell (World.block_lt_of_cell? w _ hw163_0)).trans hw163_0), ((HB.out.cell (World.block_lt_of_cell? w _ hw165_0)).trans hw165_0), ((HB.out.cell (World.block_lt_of_cell? w _ hw166_0)).trans hw166_0)⟩ (fun hHeld => ?_); refine with_tabW lodgerref05_May.tab6 lodgerref05_May.bits6 (fun HT_ HW_ => ?_)
              generalize wr.drew = w63 at BK160 HB hx162_0 hx163_0 hx165_0 hx166_0 hHeld ⊢
              refine pu_ (i := 0) (N := some 61) (tf 35 1) HT_ ?_
              refine pu_ (i := 2) (N := some 63) (tf 35 5) HT_ ?_
              refine tk_ (i := 1) (N := some 62) (tf 35 7) rfl rfl HT_ HW_ hHeld (by rintro w' ⟨s0, s1, s2, s3, s4, s5, s6, s7, s8, s9, s10⟩; go_simp; with_reducible rfl) ?_
              refine pu_ (i := 3) (N := some 64) (tf 35 15) HT_ ?_
              refine tk_ (i := 4) (N := some 65) (tf 35 31) rfl rfl HT_ HW_ hHeld (by rintro w' ⟨s0, s1, s2, s3, s4, s5, s6, s7, s8, s9, s10⟩; go_simp; with_reducible rfl) ?_
              refine pu_ (i := 5) (N := some 66) (tf 35 63) HT_ ?_
              refine pu_ (i := 6) (N := some 67) (tf 35 127) HT_ ?_
              refine pu_ (i := 7) (N := some 68) (tf 35 255) HT_ ?_
              refine pu_ (i := 9) (N := some 70) (tf 35 767) HT_ ?_
              refine pu_ (i := 12) (N := some 73) (tf 35 4863) HT_ ?_
              refine tk_ (i := 8) (N := some 69) (tf 35 5119) rfl rfl HT_ HW_ hHeld (by rintro w' ⟨s0, s1, s2, s3, s4, s5, s6, s7, s8, s9, s10⟩; go_simp; with_reducible rfl) ?_
              refine pu_ (i := 10) (N := some 71) (tf 35 6143) HT_ ?_
              refine tk_ (i := 11) (N := some 72) (tf 35 8191) rfl rfl HT_ HW_ hHeld (by rintro w' ⟨s0, s1, s2, s3, s4, s5, s6, s7, s8, s9, s10⟩; go_simp; with_reducible rfl) ?_
              refine tk_ (i := 13) (N := some 74) (tf 35 16383) rfl rfl HT_ HW_ hHeld (by rintro w' ⟨s0, s1, s2, s3, s4, s5, s6, s7, s8, s9, s10⟩; go_simp; with_reducible rfl) ?_
              refine one_ (i := 14) (N := some 75) #[true, true, true, true, true, true, true, true, true, true, true, true, true, true, true, false, false, false, false, false, false, false, false, false, false, false, false, false, false, false, false, false, false, false, false] rfl rfl (one_of HT_.out (by kernel_rfl)) (by decide) (fun K hK => ?_)
              refine goes_ Tryd.func20 (by kernel_rfl) rfl #[.agg #[.int .u32 a0_0, .int .i64 a0_1]] (by rfl) rfl rfl (by (try simp only [List.map_toArray, List.map_cons, List.map_nil]); first | done | rfl | (simp only [List.length_drop, List.length_take]; rfl)) ?_
              with_reducible refine (lodgerref05_Many.calls k2 a0_0 a0_1 t164 _ A49.out).mono ?_
              rintro e w64 ⟨rfl, hb⟩
              refine ⟨_, rfl, ?_⟩
              have n0_ := Aside0.mk (blk_below (g := gb160) (o := .cells #[.int .u32 a0_0, .int .i64 a0_1, .slice (some ad162) l0_2.length c0_2, .int .i64 a0_3, .int .i64 a0_4, .int .i64 a0_5, .int .i64 a0_6] 27 (0, 0)) (by (with_reducible repeat (first | refine blk_drewN ?_ _ | refine blk_drew ?_ | refine blk_alloc ?_ _)); exact BK160.out) hb)
              have n1_ := Aside0.mk (below_step (by repeat (first | (with_reducible first | exact HB.out | apply below_alloc | apply pw_below_drewN | apply below_drew1 | refine below_set ?_ GE160.out) | exact HB.out)) hb)
              clear BK160
              clear HB
              have BK160 := n0_
              have HB := n1_
              clear n0_ n1_
              (try clear hb)
              (try clear hb2)
              (try clear hk)
              (try clear hi)
              refine hK.out _ _ ⟨(blk_cell BK160.out 0).trans rfl, (blk_cell BK160.out 1).trans rfl, (blk_cell BK160.out 2).trans rfl, (blk_cell BK160.out 3).trans rfl, (blk_cell BK160.out 4).trans rfl, (blk_cell BK160.out 5).trans rfl, (blk_cell BK160.out 6).trans rfl, ((HB.out.cell (World.block_lt_of_cell? w _ hw162_0)).trans hw162_0), ((HB.out.cell (World.block_lt_of_cell? w _ hw163_0)).trans hw163_0), ((HB.out.cell (World.block_lt_of_cell? w _ hw165_0)).trans hw165_0), ((HB.out.cell (World.block_lt_of_cell? w _ hw166_0)).trans hw166_0)⟩ (fun hHeld => ?_)
              clear hK K
              refine norm_ (a' := ?_) ?_ ?_
              rotate_left
              ·show Act.put _ (some 75) _ = _
               simp only [Act.put, List.setIfInBounds_toArray, List.set_cons_zero, List.set_cons_succ, i64_w, i32_w]
               rfl
              refine pu_ (i := 15) (N := some 76) (tf 35 65535) HT_ ?_
              refine pu_ (i := 16) (N := some 77) (tf 35 131071) HT_ ?_
              refine pu_ (i := 17) (N := some 78) (tf 35 262143) HT_ ?_
              refine pu_ (i := 18) (N := some 79) (tf 35 524287) HT_ ?_
              refine pu_ (i := 19) (N := some 80) (tf 35 1048575) HT_ ?_
              refine pu_ (i := 20) (N := some 81) (tf 35 2097151) HT_ ?_
              refine pu_ (i := 21) (N := some 82) (tf 35 4194303) HT_ ?_
              refine pu_ (i := 23) (N := some 84) (tf 35 12582911) HT_ ?_
              refine pu_ (i := 26) (N := some 87) (tf 35 79691775) HT_ ?_
              refine pu_ (i := 28) (N := some 89) (tf 35 348127231) HT_ ?_
              refine pu_ (i := 29) (N := some 90) (tf 35 884998143) HT_ ?_
              refine tk_ (i := 22) (N := some 83) (tf 35 889192447) rfl rfl HT_ HW_ hHeld (by rintro w' ⟨s0, s1, s2, s3, s4, s5, s6, s7, s8, s9, s10⟩; go_simp; with_reducible rfl) ?_
              refine pu_ (i := 24) (N := some 85) (tf 35 905969663) HT_ ?_
              refine tk_ (i := 25) (N := some 86) (tf 35 939524095) rfl rfl HT_ HW_ hHeld (by rintro w' ⟨s0, s1, s2, s3, s4, s5, s6, s7, s8, s9, s10⟩; go_simp; with_reducible rfl) ?_
              refine tk_ (i := 27) (N := some 88) (tf 35 1073741823) rfl rfl HT_ HW_ hHeld (by rintro w' ⟨s0, s1, s2, s3, s4, s5, s6, s7, s8, s9, s10⟩; go_simp; with_reducible rfl) ?_
              refine pu_ (i := 30) (N := some 91) (tf 35 2147483647) HT_ ?_
              refine tk_ (i := 31) (N := some 92) (tf 35 4294967295) rfl rfl HT_ HW_ hHeld (by rintro w' ⟨s0, s1, s2, s3, s4, s5, s6, s7, s8, s9, s10⟩; go_simp; with_reducible rfl) ?_
              refine pu_ (i := 32) (N := some 93) (tf 35 8589934591) HT_ ?_
              refine pu_ (i := 33) (N := some 94) (tf 35 17179869183) HT_ ?_
              refine pu_ (i := 34) (N := some 95) (tf 35 34359738367) HT_ ?_
              refine done_ (done_of HT_.out (by kernel_rfl)) ?_
              try go_wp2
              go_roundg k2
              case measure => have := HJ1.out; have := HK2.out; omega
              case rel => exact ⟨(wrap64 (x3_2 + 1)), (by first | rfl | (simp; done) | (simp [*]; done)), H', ⟨by have := HJ1.out; have := HK2.out; omega⟩, ⟨by (with_reducible repeat (first | refine blk_drewN ?_ _ | refine blk_drew ?_ | refine blk_alloc ?_ _)); exact BK160.out⟩, ⟨by repeat (first | (with_reducible first | exact HB.out | apply below_alloc | apply pw_below_drewN | apply below_drew1 | refine below_set ?_ GE160.out) | exact HB.out)⟩⟩
            ·rw [if_neg c57] at H
             exact absurd H (by simp)
           ·rw [if_neg c56] at H
            exact absurd H (by simp)
          ·rw [if_neg c54] at H
           have c54b0 : decide (0 < x3_2) = false := decide_eq_false c54
           clear c54
           have H' := Aside0.mk H
           clear H
           have hcz65_0 : wr.cell? ⟨gb160, 0, none⟩ = some (.int .u32 a0_0) := (blk_cell BK160.out 0).trans rfl
           have hcz65_1 : wr.cell? ⟨gb160, 1, none⟩ = some (.int .i64 a0_1) := (blk_cell BK160.out 1).trans rfl
           have hcz65_2 : wr.cell? ⟨gb160, 2, none⟩ = some (.slice A0_2 l0_2.length c0_2) := (blk_cell BK160.out 2).trans rfl
           have hcz65_3 : wr.cell? ⟨gb160, 3, none⟩ = some (.int .i64 a0_3) := (blk_cell BK160.out 3).trans rfl
           have hcz65_4 : wr.cell? ⟨gb160, 4, none⟩ = some (.int .i64 a0_4) := (blk_cell BK160.out 4).trans rfl
           have hcz65_5 : wr.cell? ⟨gb160, 5, none⟩ = some (.int .i64 a0_5) := (blk_cell BK160.out 5).trans rfl
           have hcz65_6 : wr.cell? ⟨gb160, 6, none⟩ = some (.int .i64 a0_6) := (blk_cell BK160.out 6).trans rfl
           have hfz65_0 := blk_frozen BK160.out 0
           have hfz65_1 := blk_frozen BK160.out 1
           have hfz65_2 := blk_frozen BK160.out 2
           have hfz65_3 := blk_frozen BK160.out 3
           have hfz65_4 := blk_frozen BK160.out 4
           have hfz65_5 := blk_frozen BK160.out 5
           have hfz65_6 := blk_frozen BK160.out 6
           try go_wp2
           have n0_ := Aside0.mk (blk_drew BK160.out)
           have n1_ := Aside0.mk (below_drew1 HB.out)
           clear BK160
           clear HB
           have BK160 := n0_
           have HB := n1_
           clear n0_ n1_
           have p162 : 0 ≤ (x3_2 : Int) := od_
           have q162 : x3_2 < (l0_2.length : Int) := od_
           obtain ⟨ad162, e162, hx162_0⟩ := Kd.at_int HR0_2.out x3_2 p162 q162
           have hw162_0 := hx162_0
           cases e162
           replace hx162_0 := (HB.out.cell (World.block_lt_of_cell? w _ hx162_0)).trans hx162_0
           replace p162 := eq_true p162
           replace q162 := eq_true q162
           have p163 : 0 ≤ (x3_2 : Int) := od_
           have q163 : x3_2 < (l0_2.length : Int) := od_
           obtain ⟨ad163, e163, hx163_0⟩ := Kd.at_int HR0_2.out x3_2 p163 q163
           have hw163_0 := hx163_0
           obtain rfl : ad162 = ad163 := (by injection e163)
           replace hx163_0 := (HB.out.cell (World.block_lt_of_cell? w _ hx163_0)).trans hx163_0
           replace p163 := eq_true p163
           replace q163 := eq_true q163
           refine start_ (n := 35) (S := fun w' => w'.cell? ⟨gb160, 0, none⟩ = some (.int .u32 a0_0) ∧ w'.cell? ⟨gb160, 1, none⟩ = some (.int .i64 a0_1) ∧ w'.cell? ⟨gb160, 2, none⟩ = some (.slice (some ad162) l0_2.length c0_2) ∧ w'.cell? ⟨gb160, 3, none⟩ = some (.int .i64 a0_3) ∧ w'.cell? ⟨gb160, 4, none⟩ = some (.int .i64 a0_4) ∧ w'.cell? ⟨gb160, 5, none⟩ = some (.int .i64 a0_5) ∧ w'.cell? ⟨gb160, 6, none⟩ = some (.int .i64 a0_6) ∧ w'.cell? (ad162.add (x3_2).toNat) = some (.int .i64 (rd l0_2 x3_2)) ∧ w'.cell? (ad162.add (x3_2).toNat) = some (.int .i64 (rd l0_2 x3_2))) (ds := []) #[false, false, false, false, false, false, false, false, false, false, false, false, false, false, false, false, false, false, false, false, false, false, false, false, false, false, false, false, false, false, false, false, false, false, false] (by kernel_rfl) rfl rfl ⟨(blk_cell BK160.out 0).trans rfl, (blk_cell BK160.out 1).trans rfl, (blk_cell BK160.out 2).trans rfl, (blk_cell BK160.out 3).trans rfl, (blk_cell BK160.out 4).trans rfl, (blk_cell BK160.out 5).trans rfl, (blk_cell BK160.out 6).trans rfl, ((HB.out.cell (World.block_lt_of_cell? w _ hw162_0)).trans hw162_0), ((HB.out.cell (World.block_lt_of_cell? w _ hw163_0)).trans hw163_0)⟩ (fun hHeld => ?_); refine with_tabW lodgerref05_May.tab6 lodgerref05_May.bits6 (fun HT_ HW_ => ?_)
           generalize wr.drew = w66 at BK160 HB hx162_0 hx163_0 hHeld ⊢
           refine pu_ (i := 0) (N := some 61) (tf 35 1) HT_ ?_
           refine pu_ (i := 2) (N := some 63) (tf 35 5) HT_ ?_
           refine tk_ (i := 1) (N := some 62) (tf 35 7) rfl rfl HT_ HW_ hHeld (by rintro w' ⟨s0, s1, s2, s3, s4, s5, s6, s7, s8⟩; go_simp; with_reducible rfl) ?_
           refine pu_ (i := 3) (N := some 64) (tf 35 15) HT_ ?_
           refine tk_ (i := 4) (N := some 65) (tf 35 31) rfl rfl HT_ HW_ hHeld (by rintro w' ⟨s0, s1, s2, s3, s4, s5, s6, s7, s8⟩; go_simp; with_reducible rfl) ?_
           refine pu_ (i := 5) (N := some 66) (tf 35 63) HT_ ?_
           refine pu_ (i := 6) (N := some 67) (tf 35 127) HT_ ?_
           refine pu_ (i := 7) (N := some 68) (tf 35 255) HT_ ?_
           refine pu_ (i := 9) (N := some 70) (tf 35 767) HT_ ?_
           refine pu_ (i := 12) (N := some 73) (tf 35 4863) HT_ ?_
           refine tk_ (i := 8) (N := some 69) (tf 35 5119) rfl rfl HT_ HW_ hHeld (by rintro w' ⟨s0, s1, s2, s3, s4, s5, s6, s7, s8⟩; go_simp; with_reducible rfl) ?_
           refine pu_ (i := 10) (N := some 71) (tf 35 6143) HT_ ?_
           refine tk_ (i := 11) (N := some 72) (tf 35 8191) rfl rfl HT_ HW_ hHeld (by rintro w' ⟨s0, s1, s2, s3, s4, s5, s6, s7, s8⟩; go_simp; with_reducible rfl) ?_
           refine tk_ (i := 13) (N := some 74) (tf 35 16383) rfl rfl HT_ HW_ hHeld (by rintro w' ⟨s0, s1, s2, s3, s4, s5, s6, s7, s8⟩; go_simp; with_reducible rfl) ?_
           refine one_ (i := 14) (N := some 75) #[true, true, true, true, true, true, true, true, true, true, true, true, true, true, true, false, false, false, false, false, false, false, false, false, false, false, false, false, false, false, false, false, false, false, false] rfl rfl (one_of HT_.out (by kernel_rfl)) (by decide) (fun K hK => ?_)
           refine goes_ Tryd.func20 (by kernel_rfl) rfl #[.agg #[.int .u32 a0_0, .int .i64 a0_1]] (by rfl) rfl rfl (by (try simp only [List.map_toArray, List.map_cons, List.map_nil]); first | done | rfl | (simp only [List.length_drop, List.length_take]; rfl)) ?_
           with_reducible refine (lodgerref05_Many.calls k2 a0_0 a0_1 t164 _ A49.out).mono ?_
           rintro e w67 ⟨rfl, hb⟩
           refine ⟨_, rfl, ?_⟩
           have n0_ := Aside0.mk (blk_below (g := gb160) (o := .cells #[.int .u32 a0_0, .int .i64 a0_1, .slice (some ad162) l0_2.length c0_2, .int .i64 a0_3, .int .i64 a0_4, .int .i64 a0_5, .int .i64 a0_6] 27 (0, 0)) (by (with_reducible repeat (first | refine blk_drewN ?_ _ | refine blk_drew ?_ | refine blk_alloc ?_ _)); exact BK160.out) hb)
           have n1_ := Aside0.mk (below_step (by repeat (first | (with_reducible first | exact HB.out | apply below_alloc | apply pw_below_drewN | apply below_drew1 | refine below_set ?_ GE160.out) | exact HB.out)) hb)
           clear BK160
           clear HB
           have BK160 := n0_
           have HB := n1_
           clear n0_ n1_
           (try clear hb)
           (try clear hb2)
           (try clear hk)
           (try clear hi)
           refine hK.out _ _ ⟨(blk_cell BK160.out 0).trans rfl, (blk_cell BK160.out 1).trans rfl, (blk_cell BK160.out 2).trans rfl, (blk_cell BK160.out 3).trans rfl, (blk_cell BK160.out 4).trans rfl, (blk_cell BK160.out 5).trans rfl, (blk_cell BK160.out 6).trans rfl, ((HB.out.cell (World.block_lt_of_cell? w _ hw162_0)).trans hw162_0), ((HB.out.cell (World.block_lt_of_cell? w _ hw163_0)).trans hw163_0)⟩ (fun hHeld => ?_)
           clear hK K
           refine norm_ (a' := ?_) ?_ ?_
           rotate_left
           ·show Act.put _ (some 75) _ = _
            simp only [Act.put, List.setIfInBounds_toArray, List.set_cons_zero, List.set_cons_succ, i64_w, i32_w]
            rfl
           refine pu_ (i := 15) (N := some 76) (tf 35 65535) HT_ ?_
           refine pu_ (i := 16) (N := some 77) (tf 35 131071) HT_ ?_
           refine pu_ (i := 17) (N := some 78) (tf 35 262143) HT_ ?_
           refine pu_ (i := 18) (N := some 79) (tf 35 524287) HT_ ?_
           refine pu_ (i := 19) (N := some 80) (tf 35 1048575) HT_ ?_
           refine pu_ (i := 20) (N := some 81) (tf 35 2097151) HT_ ?_
           refine pure_ (i := 21) (N := some 82) (v := undef) (a' := ?_) #[true, true, true, true, true, true, true, true, true, true, true, true, true, true, true, true, true, true, true, true, true, true, false, false, false, false, false, false, false, false, false, false, false, false, false] rfl rfl (any_of HT_.out (by kernel_rfl)) (fun _ _ _ h => h) (Or.inr ⟨by rfl, rfl⟩) ?_ ?_
           rotate_left
           ·simp only [Act.put, List.setIfInBounds_toArray, List.set_cons_zero, List.set_cons_succ, i64_w, i32_w]
            rfl
           refine pure_ (i := 22) (N := some 83) (v := undef) (a' := ?_) #[true, true, true, true, true, true, true, true, true, true, true, true, true, true, true, true, true, true, true, true, true, true, true, false, false, false, false, false, false, false, false, false, false, false, false] rfl rfl (any_of HT_.out (by kernel_rfl)) (fun _ _ _ h => h) (Or.inr ⟨by rfl, rfl⟩) ?_ ?_
           rotate_left
           ·simp only [Act.put, List.setIfInBounds_toArray, List.set_cons_zero, List.set_cons_succ, i64_w, i32_w]
            rfl
           refine pure_ (i := 23) (N := some 84) (v := undef) (a' := ?_) #[true, true, true, true, true, true, true, true, true, true, true, true, true, true, true, true, true, true, true, true, true, true, true, true, false, false, false, false, false, false, false, false, false, false, false] rfl rfl (any_of HT_.out (by kernel_rfl)) (fun _ _ _ h => h) (Or.inr ⟨by rfl, rfl⟩) ?_ ?_
           rotate_left
           ·simp only [Act.put, List.setIfInBounds_toArray, List.set_cons_zero, List.set_cons_succ, i64_w, i32_w]
            rfl
           refine pure_ (i := 24) (N := some 85) (v := undef) (a' := ?_) #[true, true, true, true, true, true, true, true, true, true, true, true, true, true, true, true, true, true, true, true, true, true, true, true, true, false, false, false, false, false, false, false, false, false, false] rfl rfl (any_of HT_.out (by kernel_rfl)) (fun _ _ _ h => h) (Or.inr ⟨by rfl, rfl⟩) ?_ ?_
           rotate_left
           ·simp only [Act.put, List.setIfInBounds_toArray, List.set_cons_zero, List.set_cons_succ, i64_w, i32_w]
            rfl
           refine pure_ (i := 25) (N := some 86) (v := undef) (a' := ?_) #[true, true, true, true, true, true, true, true, true, true, true, true, true, true, true, true, true, true, true, true, true, true, true, true, true, true, false, false, false, false, false, false, false, false, false] rfl rfl (any_of HT_.out (by kernel_rfl)) (fun _ _ _ h => h) (Or.inr ⟨by rfl, rfl⟩) ?_ ?_
           rotate_left
           ·simp only [Act.put, List.setIfInBounds_toArray, List.set_cons_zero, List.set_cons_succ, i64_w, i32_w]
            rfl
           refine pure_ (i := 26) (N := some 87) (v := undef) (a' := ?_) #[true, true, true, true, true, true, true, true, true, true, true, true, true, true, true, true, true, true, true, true, true, true, true, true, true, true, true, false, false, false, false, false, false, false, false] rfl rfl (any_of HT_.out (by kernel_rfl)) (fun _ _ _ h => h) (Or.inr ⟨by rfl, rfl⟩) ?_ ?_
           rotate_left
           ·simp only [Act.put, List.setIfInBounds_toArray, List.set_cons_zero, List.set_cons_succ, i64_w, i32_w]
            rfl
           refine pure_ (i := 27) (N := some 88) (v := undef) (a' := ?_) #[true, true, true, true, true, true, true, true, true, true, true, true, true, true, true, true, true, true, true, true, true, true, true, true, true, true, true, true, false, false, false, false, false, false, false] rfl rfl (any_of HT_.out (by kernel_rfl)) (fun _ _ _ h => h) (Or.inr ⟨by rfl, rfl⟩) ?_ ?_
           rotate_left
           ·simp only [Act.put, List.setIfInBounds_toArray, List.set_cons_zero, List.set_cons_succ, i64_w, i32_w]
            rfl
           refine pure_ (i := 28) (N := some 89) (v := undef) (a' := ?_) #[true, true, true, true, true, true, true, true, true, true, true, true, true, true, true, true, true, true, true, true, true, true, true, true, true, true, true, true, true, false, false, false, false, false, false] rfl rfl (any_of HT_.out (by kernel_rfl)) (fun _ _ _ h => h) (Or.inr ⟨by rfl, rfl⟩) ?_ ?_
           rotate_left
           ·simp only [Act.put, List.setIfInBounds_toArray, List.set_cons_zero, List.set_cons_succ, i64_w, i32_w]
            rfl
           refine pure_ (i := 29) (N := some 90) (v := undef) (a' := ?_) #[true, true, true, true, true, true, true, true, true, true, true, true, true, true, true, true, true, true, true, true, true, true, true, true, true, true, true, true, true, true, false, false, false, false, false] rfl rfl (any_of HT_.out (by kernel_rfl)) (fun _ _ _ h => h) (Or.inr ⟨by rfl, rfl⟩) ?_ ?_
           rotate_left
           ·simp only [Act.put, List.setIfInBounds_toArray, List.set_cons_zero, List.set_cons_succ, i64_w, i32_w]
            rfl
           refine pure_ (i := 30) (N := some 91) (v := undef) (a' := ?_) #[true, true, true, true, true, true, true, true, true, true, true, true, true, true, true, true, true, true, true, true, true, true, true, true, true, true, true, true, true, true, true, false, false, false, false] rfl rfl (any_of HT_.out (by kernel_rfl)) (fun _ _ _ h => h) (Or.inr ⟨by rfl, rfl⟩) ?_ ?_
           rotate_left
           ·simp only [Act.put, List.setIfInBounds_toArray, List.set_cons_zero, List.set_cons_succ, i64_w, i32_w]
            rfl
           refine pure_ (i := 31) (N := some 92) (v := undef) (a' := ?_) #[true, true, true, true, true, true, true, true, true, true, true, true, true, true, true, true, true, true, true, true, true, true, true, true, true, true, true, true, true, true, true, true, false, false, false] rfl rfl (any_of HT_.out (by kernel_rfl)) (fun _ _ _ h => h) (Or.inr ⟨by rfl, rfl⟩) ?_ ?_
           rotate_left
           ·simp only [Act.put, List.setIfInBounds_toArray, List.set_cons_zero, List.set_cons_succ, i64_w, i32_w]
            rfl
           refine pure_ (i := 32) (N := some 93) (v := undef) (a' := ?_) #[true, true, true, true, true, true, true, true, true, true, true, true, true, true, true, true, true, true, true, true, true, true, true, true, true, true, true, true, true, true, true, true, true, false, false] rfl rfl (any_of HT_.out (by kernel_rfl)) (fun _ _ _ h => h) (Or.inr ⟨by rfl, rfl⟩) ?_ ?_
           rotate_left
           ·simp only [Act.put, List.setIfInBounds_toArray, List.set_cons_zero, List.set_cons_succ, i64_w, i32_w]
            rfl
           refine pu_ (i := 33) (N := some 94) (tf 35 17179869183) HT_ ?_
           refine pu_ (i := 34) (N := some 95) (tf 35 34359738367) HT_ ?_
           refine done_ (done_of HT_.out (by kernel_rfl)) ?_
           try go_wp2
           go_roundg k2
           case measure => have := HJ1.out; have := HK2.out; omega
           case rel => exact ⟨(wrap64 (x3_2 + 1)), (by first | rfl | (simp; done) | (simp [*]; done)), H', ⟨by have := HJ1.out; have := HK2.out; omega⟩, ⟨by (with_reducible repeat (first | refine blk_drewN ?_ _ | refine blk_drew ?_ | refine blk_alloc ?_ _)); exact BK160.out⟩, ⟨by repeat (first | (with_reducible first | exact HB.out | apply below_alloc | apply pw_below_drewN | apply below_drew1 | refine below_set ?_ GE160.out) | exact HB.out)⟩⟩
       ·rw [if_neg c45] at H
        exact absurd H (by simp)
      ·rw [if_neg c44] at H
       have c44b0 : decide (x3_2 < (l0_2.length : Int)) = false := decide_eq_false c44
       clear c44
       obtain rfl := Option.some.inj H
       have hcz68_0 : wr.cell? ⟨gb160, 0, none⟩ = some (.int .u32 a0_0) := (blk_cell BK160.out 0).trans rfl
       have hcz68_1 : wr.cell? ⟨gb160, 1, none⟩ = some (.int .i64 a0_1) := (blk_cell BK160.out 1).trans rfl
       have hcz68_2 : wr.cell? ⟨gb160, 2, none⟩ = some (.slice A0_2 l0_2.length c0_2) := (blk_cell BK160.out 2).trans rfl
       have hcz68_3 : wr.cell? ⟨gb160, 3, none⟩ = some (.int .i64 a0_3) := (blk_cell BK160.out 3).trans rfl
       have hcz68_4 : wr.cell? ⟨gb160, 4, none⟩ = some (.int .i64 a0_4) := (blk_cell BK160.out 4).trans rfl
       have hcz68_5 : wr.cell? ⟨gb160, 5, none⟩ = some (.int .i64 a0_5) := (blk_cell BK160.out 5).trans rfl
       have hcz68_6 : wr.cell? ⟨gb160, 6, none⟩ = some (.int .i64 a0_6) := (blk_cell BK160.out 6).trans rfl
       have hfz68_0 := blk_frozen BK160.out 0
       have hfz68_1 := blk_frozen BK160.out 1
       have hfz68_2 := blk_frozen BK160.out 2
       have hfz68_3 := blk_frozen BK160.out 3
       have hfz68_4 := blk_frozen BK160.out 4
       have hfz68_5 := blk_frozen BK160.out 5
       have hfz68_6 := blk_frozen BK160.out 6
       go_wp2
       go_ret
       exact ⟨by first | rfl | (simp [errW_none, errW_some] <;> rfl) | (simp [*, errW_none, errW_some] <;> rfl), by repeat (first | (with_reducible first | exact HB.out | apply below_alloc | apply pw_below_drewN | apply below_drew1 | refine below_set ?_ GE160.out) | exact HB.out)⟩

end Go.Proofs.YthfcgjmffjmplaaDoor.PAskOthers
