/- The walk of AskChecks, part of it: what the Go functions answer; no condition. -/
import Derived.Test.YthfcgjmffjmplaaDoorQAskChecksx0
import Derived.Test.YthfcgjmffjmplaaDoorQAskChecksx5
namespace Go.Proofs.YthfcgjmffjmplaaDoor.PAskChecks
open Go.RowKit Go.Proofs.YthfcgjmffjmplaaDoorW.PrintWords Go.Proofs.YthfcgjmffjmplaaDoorW.PrintLast Go.Proofs.YthfcgjmffjmplaaDoorW.PrintMore
attribute [local go_sem] max2_int min2_int max_two min_two max_three min_three max_four min_four   -- for this text's walks alone
set_option linter.unusedVariables false
set_option linter.unusedSimpArgs false

/-! ### lodgerref10_Check: function 12 -/
mutual
def lodgerref10_Check.j0 : Nat → Bool → Int → Int → List Int → Int → Int → Int → Int → Int → Int → List Int → Option (Int)
 | 0, _, _, _, _, _, _, _, _, _, _, _ => none
 | k + 1, x17, x187000, x187001, x187002, x187003, x187004, x187005, x187006, x188000, x188001, x188002 => if x17 = true then (some 1) else (if x188000 = 4 then (lodgerref10_Check.j1 k ((x188002.length : Int) == 0) x187000 x187001 x187002 x187003 x187004 x187005 x187006 x188000 x188001 x188002) else (lodgerref10_Check.j1 k false x187000 x187001 x187002 x187003 x187004 x187005 x187006 x188000 x188001 x188002))
def lodgerref10_Check.j1 : Nat → Bool → Int → Int → List Int → Int → Int → Int → Int → Int → Int → List Int → Option (Int)
 | 0, _, _, _, _, _, _, _, _, _, _, _ => none
 | k + 1, x26, x187000, x187001, x187002, x187003, x187004, x187005, x187006, x188000, x188001, x188002 => if x26 = true then (some 7) else (if x188000 = 4 then (lodgerref10_Check.j2 k (decide ((x188002.length : Int) > 64)) x187000 x187001 x187002 x187003 x187004 x187005 x187006 x188000 x188001 x188002) else (lodgerref10_Check.j2 k false x187000 x187001 x187002 x187003 x187004 x187005 x187006 x188000 x188001 x188002))
def lodgerref10_Check.j2 : Nat → Bool → Int → Int → List Int → Int → Int → Int → Int → Int → Int → List Int → Option (Int)
 | 0, _, _, _, _, _, _, _, _, _, _, _ => none
 | k + 1, x35, x187000, x187001, x187002, x187003, x187004, x187005, x187006, x188000, x188001, x188002 => if x35 = true then (some 1) else ((lodgerref10_Names.f k x188000 x188001 x188002).bind fun t188 => (lodgerref10_Check.l0 k t188 0 x187000 x187001 x187002 x187003 x187004 x187005 x187006))
def lodgerref10_Check.l0 : Nat → List Int → Int → Int → Int → List Int → Int → Int → Int → Int → Option (Int)
 | 0, _, _, _, _, _, _, _, _, _ => none
 | k + 1, x5, x6, x187000, x187001, x187002, x187003, x187004, x187005, x187006 => if x6 < (x5.length : Int) then (if 0 ≤ x6 then ((lodgerref05_Find.f k x187000 x187001 x187002 x187003 x187004 x187005 x187006 (rd x5 x6)).bind fun bt192 => (if bt192.2 = 0 then (lodgerref10_Check.l1 k x5 x6 0 x187000 x187001 x187002 x187003 x187004 x187005 x187006) else (some bt192.2))) else (none)) else (some 0)
def lodgerref10_Check.l1 : Nat → List Int → Int → Int → Int → Int → List Int → Int → Int → Int → Int → Option (Int)
 | 0, _, _, _, _, _, _, _, _, _, _ => none
 | k + 1, x5, x6, x9, x187000, x187001, x187002, x187003, x187004, x187005, x187006 => if x9 < x6 then (if 0 ≤ x9 then (if x9 < (x5.length : Int) then (if 0 ≤ x6 then (if x6 < (x5.length : Int) then (if (rd x5 x9) = (rd x5 x6) then (some 8) else (lodgerref10_Check.l1 k x5 x6 (wrap64 (x9 + 1)) x187000 x187001 x187002 x187003 x187004 x187005 x187006)) else (none)) else (none)) else (none)) else (none)) else (lodgerref10_Check.l0 k x5 (wrap64 (x6 + 1)) x187000 x187001 x187002 x187003 x187004 x187005 x187006)
end
def lodgerref10_Check.f (k : Nat) (a0_0 : Int) (a0_1 : Int) (l0_2 : List Int) (a0_3 : Int) (a0_4 : Int) (a0_5 : Int) (a0_6 : Int) (a1_0 : Int) (a1_1 : Int) (l1_2 : List Int) : Option (Int) := if a1_0 < 1 then (lodgerref10_Check.j0 k true a0_0 a0_1 l0_2 a0_3 a0_4 a0_5 a0_6 a1_0 a1_1 l1_2) else (lodgerref10_Check.j0 k (decide (a1_0 > 7)) a0_0 a0_1 l0_2 a0_3 a0_4 a0_5 a0_6 a1_0 a1_1 l1_2)
theorem lodgerref10_Check.mono_l : ∀ k, (∀ y0 y1 y2 y3 y4 y5 y6 y7 y8 y9 y10, LeO (lodgerref10_Check.j0 k y0 y1 y2 y3 y4 y5 y6 y7 y8 y9 y10) (lodgerref10_Check.j0 (k + 1) y0 y1 y2 y3 y4 y5 y6 y7 y8 y9 y10)) ∧ (∀ y0 y1 y2 y3 y4 y5 y6 y7 y8 y9 y10, LeO (lodgerref10_Check.j1 k y0 y1 y2 y3 y4 y5 y6 y7 y8 y9 y10) (lodgerref10_Check.j1 (k + 1) y0 y1 y2 y3 y4 y5 y6 y7 y8 y9 y10)) ∧ (∀ y0 y1 y2 y3 y4 y5 y6 y7 y8 y9 y10, LeO (lodgerref10_Check.j2 k y0 y1 y2 y3 y4 y5 y6 y7 y8 y9 y10) (lodgerref10_Check.j2 (k + 1) y0 y1 y2 y3 y4 y5 y6 y7 y8 y9 y10)) ∧ (∀ y0 y1 y2 y3 y4 y5 y6 y7 y8, LeO (lodgerref10_Check.l0 k y0 y1 y2 y3 y4 y5 y6 y7 y8) (lodgerref10_Check.l0 (k + 1) y0 y1 y2 y3 y4 y5 y6 y7 y8)) ∧ (∀ y0 y1 y2 y3 y4 y5 y6 y7 y8 y9, LeO (lodgerref10_Check.l1 k y0 y1 y2 y3 y4 y5 y6 y7 y8 y9) (lodgerref10_Check.l1 (k + 1) y0 y1 y2 y3 y4 y5 y6 y7 y8 y9))
 | 0 => ⟨fun _ _ _ _ _ _ _ _ _ _ _ r h => by simp [lodgerref10_Check.j0] at h, fun _ _ _ _ _ _ _ _ _ _ _ r h => by simp [lodgerref10_Check.j1] at h, fun _ _ _ _ _ _ _ _ _ _ _ r h => by simp [lodgerref10_Check.j2] at h, fun _ _ _ _ _ _ _ _ _ r h => by simp [lodgerref10_Check.l0] at h, fun _ _ _ _ _ _ _ _ _ _ r h => by simp [lodgerref10_Check.l1] at h⟩
 | k + 1 => by
  obtain ⟨ih0, ih1, ih2, ih3, ih4⟩ := lodgerref10_Check.mono_l k
  refine ⟨?_, ?_, ?_, ?_, ?_⟩
  ·intro y0 y1 y2 y3 y4 y5 y6 y7 y8 y9 y10
   unfold lodgerref10_Check.j0
   repeat' first
   | (with_reducible exact ih0 _ _ _ _ _ _ _ _ _ _ _)
   | (with_reducible exact ih1 _ _ _ _ _ _ _ _ _ _ _)
   | (with_reducible exact ih2 _ _ _ _ _ _ _ _ _ _ _)
   | (with_reducible exact ih3 _ _ _ _ _ _ _ _ _)
   | (with_reducible exact ih4 _ _ _ _ _ _ _ _ _ _)
   | (with_reducible exact lodgerref05_Find.mono _ _ _ _ _ _ _ _ _)
   | (with_reducible exact lodgerref10_Names.mono _ _ _ _)
   | (with_reducible exact LeO.refl _)
   | (with_reducible exact LeO.none _)
   | (with_reducible refine LeO.ite ?_ ?_)
   | (with_reducible refine LeO.bind ?_ (fun _ => ?_))
   | exact ih0 _ _ _ _ _ _ _ _ _ _ _
   | exact ih1 _ _ _ _ _ _ _ _ _ _ _
   | exact ih2 _ _ _ _ _ _ _ _ _ _ _
   | exact ih3 _ _ _ _ _ _ _ _ _
   | exact ih4 _ _ _ _ _ _ _ _ _ _
   | exact lodgerref05_Find.mono _ _ _ _ _ _ _ _ _
   | exact lodgerref10_Names.mono _ _ _ _
   | exact LeO.none _
   | refine LeO.ite ?_ ?_
   | refine LeO.bind ?_ (fun _ => ?_)
  ·intro y0 y1 y2 y3 y4 y5 y6 y7 y8 y9 y10
   unfold lodgerref10_Check.j1
   repeat' first
   | (with_reducible exact ih0 _ _ _ _ _ _ _ _ _ _ _)
   | (with_reducible exact ih1 _ _ _ _ _ _ _ _ _ _ _)
   | (with_reducible exact ih2 _ _ _ _ _ _ _ _ _ _ _)
   | (with_reducible exact ih3 _ _ _ _ _ _ _ _ _)
   | (with_reducible exact ih4 _ _ _ _ _ _ _ _ _ _)
   | (with_reducible exact lodgerref05_Find.mono _ _ _ _ _ _ _ _ _)
   | (with_reducible exact lodgerref10_Names.mono _ _ _ _)
   | (with_reducible exact LeO.refl _)
   | (with_reducible exact LeO.none _)
   | (with_reducible refine LeO.ite ?_ ?_)
   | (with_reducible refine LeO.bind ?_ (fun _ => ?_))
   | exact ih0 _ _ _ _ _ _ _ _ _ _ _
   | exact ih1 _ _ _ _ _ _ _ _ _ _ _
   | exact ih2 _ _ _ _ _ _ _ _ _ _ _
   | exact ih3 _ _ _ _ _ _ _ _ _
   | exact ih4 _ _ _ _ _ _ _ _ _ _
   | exact lodgerref05_Find.mono _ _ _ _ _ _ _ _ _
   | exact lodgerref10_Names.mono _ _ _ _
   | exact LeO.none _
   | refine LeO.ite ?_ ?_
   | refine LeO.bind ?_ (fun _ => ?_)
  ·intro y0 y1 y2 y3 y4 y5 y6 y7 y8 y9 y10
   unfold lodgerref10_Check.j2
   repeat' first
   | (with_reducible exact ih0 _ _ _ _ _ _ _ _ _ _ _)
   | (with_reducible exact ih1 _ _ _ _ _ _ _ _ _ _ _)
   | (with_reducible exact ih2 _ _ _ _ _ _ _ _ _ _ _)
   | (with_reducible exact ih3 _ _ _ _ _ _ _ _ _)
   | (with_reducible exact ih4 _ _ _ _ _ _ _ _ _ _)
   | (with_reducible exact lodgerref05_Find.mono _ _ _ _ _ _ _ _ _)
   | (with_reducible exact lodgerref10_Names.mono _ _ _ _)
   | (with_reducible exact LeO.refl _)
   | (with_reducible exact LeO.none _)
   | (with_reducible refine LeO.ite ?_ ?_)
   | (with_reducible refine LeO.bind ?_ (fun _ => ?_))
   | exact ih0 _ _ _ _ _ _ _ _ _ _ _
   | exact ih1 _ _ _ _ _ _ _ _ _ _ _
   | exact ih2 _ _ _ _ _ _ _ _ _ _ _
   | exact ih3 _ _ _ _ _ _ _ _ _
   | exact ih4 _ _ _ _ _ _ _ _ _ _
   | exact lodgerref05_Find.mono _ _ _ _ _ _ _ _ _
   | exact lodgerref10_Names.mono _ _ _ _
   | exact LeO.none _
   | refine LeO.ite ?_ ?_
   | refine LeO.bind ?_ (fun _ => ?_)
  ·intro y0 y1 y2 y3 y4 y5 y6 y7 y8
   unfold lodgerref10_Check.l0
   repeat' first
   | (with_reducible exact ih0 _ _ _ _ _ _ _ _ _ _ _)
   | (with_reducible exact ih1 _ _ _ _ _ _ _ _ _ _ _)
   | (with_reducible exact ih2 _ _ _ _ _ _ _ _ _ _ _)
   | (with_reducible exact ih3 _ _ _ _ _ _ _ _ _)
   | (with_reducible exact ih4 _ _ _ _ _ _ _ _ _ _)
   | (with_reducible exact lodgerref05_Find.mono _ _ _ _ _ _ _ _ _)
   | (with_reducible exact lodgerref10_Names.mono _ _ _ _)
   | (with_reducible exact LeO.refl _)
   | (with_reducible exact LeO.none _)
   | (with_reducible refine LeO.ite ?_ ?_)
   | (with_reducible refine LeO.bind ?_ (fun _ => ?_))
   | exact ih0 _ _ _ _ _ _ _ _ _ _ _
   | exact ih1 _ _ _ _ _ _ _ _ _ _ _
   | exact ih2 _ _ _ _ _ _ _ _ _ _ _
   | exact ih3 _ _ _ _ _ _ _ _ _
   | exact ih4 _ _ _ _ _ _ _ _ _ _
   | exact lodgerref05_Find.mono _ _ _ _ _ _ _ _ _
   | exact lodgerref10_Names.mono _ _ _ _
   | exact LeO.none _
   | refine LeO.ite ?_ ?_
   | refine LeO.bind ?_ (fun _ => ?_)
  ·intro y0 y1 y2 y3 y4 y5 y6 y7 y8 y9
   unfold lodgerref10_Check.l1
   repeat' first
   | (with_reducible exact ih0 _ _ _ _ _ _ _ _ _ _ _)
   | (with_reducible exact ih1 _ _ _ _ _ _ _ _ _ _ _)
   | (with_reducible exact ih2 _ _ _ _ _ _ _ _ _ _ _)
   | (with_reducible exact ih3 _ _ _ _ _ _ _ _ _)
   | (with_reducible exact ih4 _ _ _ _ _ _ _ _ _ _)
   | (with_reducible exact lodgerref05_Find.mono _ _ _ _ _ _ _ _ _)
   | (with_reducible exact lodgerref10_Names.mono _ _ _ _)
   | (with_reducible exact LeO.refl _)
   | (with_reducible exact LeO.none _)
   | (with_reducible refine LeO.ite ?_ ?_)
   | (with_reducible refine LeO.bind ?_ (fun _ => ?_))
   | exact ih0 _ _ _ _ _ _ _ _ _ _ _
   | exact ih1 _ _ _ _ _ _ _ _ _ _ _
   | exact ih2 _ _ _ _ _ _ _ _ _ _ _
   | exact ih3 _ _ _ _ _ _ _ _ _
   | exact ih4 _ _ _ _ _ _ _ _ _ _
   | exact lodgerref05_Find.mono _ _ _ _ _ _ _ _ _
   | exact lodgerref10_Names.mono _ _ _ _
   | exact LeO.none _
   | refine LeO.ite ?_ ?_
   | refine LeO.bind ?_ (fun _ => ?_)
theorem lodgerref10_Check.mono : ∀ a0 a1 a2 a3 a4 a5 a6 a7 a8 a9 k, LeO (lodgerref10_Check.f k a0 a1 a2 a3 a4 a5 a6 a7 a8 a9) (lodgerref10_Check.f (k + 1) a0 a1 a2 a3 a4 a5 a6 a7 a8 a9) := by
 intro a0 a1 a2 a3 a4 a5 a6 a7 a8 a9 k
 obtain ⟨ih0, ih1, ih2, ih3, ih4⟩ := lodgerref10_Check.mono_l k
 unfold lodgerref10_Check.f
 repeat' first
   | (with_reducible exact ih0 _ _ _ _ _ _ _ _ _ _ _)
   | (with_reducible exact ih1 _ _ _ _ _ _ _ _ _ _ _)
   | (with_reducible exact ih2 _ _ _ _ _ _ _ _ _ _ _)
   | (with_reducible exact ih3 _ _ _ _ _ _ _ _ _)
   | (with_reducible exact ih4 _ _ _ _ _ _ _ _ _ _)
   | (with_reducible exact lodgerref05_Find.mono _ _ _ _ _ _ _ _ _)
   | (with_reducible exact lodgerref10_Names.mono _ _ _ _)
   | (with_reducible exact LeO.refl _)
   | (with_reducible exact LeO.none _)
   | (with_reducible refine LeO.ite ?_ ?_)
   | (with_reducible refine LeO.bind ?_ (fun _ => ?_))
   | exact ih0 _ _ _ _ _ _ _ _ _ _ _
   | exact ih1 _ _ _ _ _ _ _ _ _ _ _
   | exact ih2 _ _ _ _ _ _ _ _ _ _ _
   | exact ih3 _ _ _ _ _ _ _ _ _
   | exact ih4 _ _ _ _ _ _ _ _ _ _
   | exact lodgerref05_Find.mono _ _ _ _ _ _ _ _ _
   | exact lodgerref10_Names.mono _ _ _ _
   | exact LeO.none _
   | refine LeO.ite ?_ ?_
   | refine LeO.bind ?_ (fun _ => ?_)
def lodgerref10_Check.T11 : Bool × List (List Nat × List Nat) := (true, [([], []), ([], []), ([], []), ([1, 2], [1, 2]), ([3], [3]), ([0, 4], [0, 4]), ([5], [5]), ([6], [6]), ([6], [6]), ([7, 5, 0, 1, 2, 3, 4, 5, 6, 7], [7]), ([8, 9, 0, 1, 2, 3, 4, 5, 6, 7, 8, 9], [8])])
def lodgerref10_Check.B11 : List Nat := [0, 0, 0, 6, 14, 31, 63, 127, 127, 255, 1023]
theorem lodgerref10_Check.tab11 : rtab .any (opsOf Tryd.f12 11) = lodgerref10_Check.T11 := by kernel_rfl
theorem lodgerref10_Check.bits11 : waitsOk lodgerref10_Check.T11.2 lodgerref10_Check.B11 = true := by kernel_rfl
def lodgerref10_Check.T17 : Bool × List (List Nat × List Nat) := (true, [([], []), ([], []), ([0, 1], [0, 1]), ([2], [2]), ([], []), ([], []), ([4, 5], [4, 5]), ([6], [6]), ([3, 7], [3, 7])])
def lodgerref10_Check.B17 : List Nat := [0, 0, 3, 7, 0, 0, 48, 112, 255]
theorem lodgerref10_Check.tab17 : rtab .any (opsOf Tryd.f12 17) = lodgerref10_Check.T17 := by kernel_rfl
theorem lodgerref10_Check.bits17 : waitsOk lodgerref10_Check.T17.2 lodgerref10_Check.B17 = true := by kernel_rfl
set_option maxHeartbeats 8000000 in
set_option maxRecDepth 100000 in
theorem lodgerref10_Check.calls (k : Nat) (a0_0 : Int) (a0_1 : Int) (A0_2 : Option Addr) (c0_2 : Nat) (l0_2 : List Int) (a0_3 : Int) (a0_4 : Int) (a0_5 : Int) (a0_6 : Int) (a1_0 : Int) (a1_1 : Int) (A1_2 : Option Addr) (c1_2 : Nat) (l1_2 : List Int) (r : Int) (w : World) (hr0_2 : Kd.C (Kd.int .i64) w A0_2 l0_2.length l0_2) (hc0_2 : l0_2.length ≤ c0_2) (hr1_2 : Kd.C (Kd.int .u32) w A1_2 l1_2.length l1_2) (hc1_2 : l1_2.length ≤ c1_2) (h : lodgerref10_Check.f k a0_0 a0_1 l0_2 a0_3 a0_4 a0_5 a0_6 a1_0 a1_1 l1_2 = some r) :
  Calls Tryd.prog 12 #[.agg #[.int .u32 a0_0, .int .i64 a0_1, .slice A0_2 l0_2.length c0_2, .int .i64 a0_3, .int .i64 a0_4, .int .i64 a0_5, .int .i64 a0_6], .agg #[.int .i64 a1_0, .int .u32 a1_1, .slice A1_2 l1_2.length c1_2]] w fun e w' => e = .returned (.int .i64 r) ∧ Below w.heap.size w w' := by
 have hu27 := Tryd.underlying27
 have hu30 := Tryd.underlying30
 have HR0_2 := Aside0.mk hr0_2
 have HC0_2 := Aside0.mk hc0_2
 clear hr0_2 hc0_2
 have HR1_2 := Aside0.mk hr1_2
 have HC1_2 := Aside0.mk hc1_2
 clear hr1_2 hc1_2
 have HB := Aside0.mk (Below.refl w.heap.size w)
 have H : (if a1_0 < 1 then (lodgerref10_Check.j0 k true a0_0 a0_1 l0_2 a0_3 a0_4 a0_5 a0_6 a1_0 a1_1 l1_2) else (lodgerref10_Check.j0 k (decide (a1_0 > 7)) a0_0 a0_1 l0_2 a0_3 a0_4 a0_5 a0_6 a1_0 a1_1 l1_2)) = some r := h
 clear h
 have HC3 := Aside0.mk H
 clear H
 go_enter Tryd.func12, Tryd.ntmps12
 go_upto_region 1 with (first | ((with_reducible refine gate_dst (N := 2) rfl ?_); (try (refine gate_guard (by rfl) ?_; dsimp only)); refine box_event ?hg (N := 2) ?hd (cs := #[.int .u32 a0_0, .int .i64 a0_1, .slice A0_2 l0_2.length c0_2, .int .i64 a0_3, .int .i64 a0_4, .int .i64 a0_5, .int .i64 a0_6]) (t := 27) ?hr ?_; (case hd => rfl); (case hg => rfl); (case hr => first | (go_simp; done) | (go_simp; rfl)); intro gb186 hg w4 hbox hb; have n0_ := Aside0.mk (below_step (by repeat (first | (with_reducible first | exact HB.out | apply below_alloc | apply pw_below_drewN | apply below_drew1) | exact HB.out)) hb); have n1_ := Aside0.mk (hbox); have n2_ := Aside0.mk ((by rw [hg]; exact (below_size (by repeat (first | (with_reducible first | exact HB.out | apply below_alloc | apply pw_below_drewN | apply below_drew1) | exact HB.out))) : w.heap.size ≤ gb186)); have n3_ := Aside0.mk ((by rw [hg]; exact (below_size (by repeat (first | (with_reducible first | exact HB.out | apply below_alloc | apply pw_below_drewN | apply below_drew1) | exact HB.out))) : w.heap.size ≤ gb186)); clear HB; have HB := n0_; have BK186 := n1_; have GW186 := n2_; have GE186 := n3_; clear n0_ n1_ n2_ n3_; clear hb hbox hg) | ((with_reducible refine gate_dst (N := 3) rfl ?_); (try (refine gate_guard (by rfl) ?_; dsimp only)); refine box_event ?hg (N := 3) ?hd (cs := #[.int .i64 a1_0, .int .u32 a1_1, .slice A1_2 l1_2.length c1_2]) (t := 30) ?hr ?_; (case hd => rfl); (case hg => rfl); (case hr => first | (go_simp; done) | (go_simp; rfl)); intro gb187 hg w5 hbox hb; have n0_ := Aside0.mk (blk_below (g := gb186) (o := .cells #[.int .u32 a0_0, .int .i64 a0_1, .slice A0_2 l0_2.length c0_2, .int .i64 a0_3, .int .i64 a0_4, .int .i64 a0_5, .int .i64 a0_6] 27 (0, 0)) (by (with_reducible repeat (first | refine blk_drewN ?_ _ | refine blk_drew ?_ | refine blk_alloc ?_ _)); exact BK186.out) hb); have n1_ := Aside0.mk (below_step (by repeat (first | (with_reducible first | exact HB.out | apply below_alloc | apply pw_below_drewN | apply below_drew1 | refine below_set ?_ GE186.out) | exact HB.out)) hb); have n2_ := Aside0.mk (hbox); have n3_ := Aside0.mk ((by rw [hg]; exact (below_size (by repeat (first | (with_reducible first | exact HB.out | apply below_alloc | apply pw_below_drewN | apply below_drew1 | refine below_set ?_ GE186.out) | exact HB.out))) : w.heap.size ≤ gb187)); have n4_ := Aside0.mk ((by rw [hg]; exact (below_size (by repeat (first | (with_reducible first | exact HB.out | apply below_alloc | apply pw_below_drewN | apply below_drew1 | refine below_set ?_ GE186.out) | exact HB.out))) : w.heap.size ≤ gb187)); have n5_ := Aside0.mk ((by rw [hg]; exact Nat.ne_of_lt (blk_lt (g := gb186) (o := .cells #[.int .u32 a0_0, .int .i64 a0_1, .slice A0_2 l0_2.length c0_2, .int .i64 a0_3, .int .i64 a0_4, .int .i64 a0_5, .int .i64 a0_6] 27 (0, 0)) (by (with_reducible repeat (first | refine blk_drewN ?_ _ | refine blk_drew ?_ | refine blk_alloc ?_ _)); exact BK186.out)) : gb186 ≠ gb187)); have n6_ := Aside0.mk ((by rw [hg]; exact Nat.ne_of_gt (blk_lt (g := gb186) (o := .cells #[.int .u32 a0_0, .int .i64 a0_1, .slice A0_2 l0_2.length c0_2, .int .i64 a0_3, .int .i64 a0_4, .int .i64 a0_5, .int .i64 a0_6] 27 (0, 0)) (by (with_reducible repeat (first | refine blk_drewN ?_ _ | refine blk_drew ?_ | refine blk_alloc ?_ _)); exact BK186.out)) : gb187 ≠ gb186)); clear BK186; clear HB; have BK186 := n0_; have HB := n1_; have BK187 := n2_; have GW187 := n3_; have GE187 := n4_; have NB186_187 := n5_; have NB187_186 := n6_; clear n0_ n1_ n2_ n3_ n4_ n5_ n6_; clear hb hbox hg))
 (try simp only [Act.put, List.setIfInBounds_toArray, List.set_cons_zero, List.set_cons_succ])
 go_cut [17] (fun v17 wc => ∃ (kq : Nat) (x17_2 : Bool), v17 = .bool x17_2 ∧ Aside0 (lodgerref10_Check.j0 kq x17_2 a0_0 a0_1 l0_2 a0_3 a0_4 a0_5 a0_6 a1_0 a1_1 l1_2 = some r) ∧ Aside0 (kq ≤ k) ∧ Aside0 (wc.heap[gb186]? = some (.cells #[.int .u32 a0_0, .int .i64 a0_1, (.slice A0_2 l0_2.length c0_2), .int .i64 a0_3, .int .i64 a0_4, .int .i64 a0_5, .int .i64 a0_6] 27 (0, 0))) ∧ Aside0 (wc.heap[gb187]? = some (.cells #[.int .i64 a1_0, .int .u32 a1_1, (.slice A1_2 l1_2.length c1_2)] 30 (0, 0))) ∧ Aside0 (Below w.heap.size w wc))
 case first =>
  have H := HC3.out
  clear HC3
  by_cases c6 : a1_0 < 1
  ·rw [if_pos c6] at H
   have c6b0 : decide (a1_0 < 1) = true := decide_eq_true c6
   clear c6
   (first | rw [c6b0] | (simp only [i64_w, i32_w]; rw [c6b0]) | skip)
   have H' := Aside0.mk H
   clear H
   have hnb7 := NB187_186.out
   have hnc7 := NB186_187.out
   have hcz8_0 : w5.cell? ⟨gb187, 0, none⟩ = some (.int .i64 a1_0) := (blk_cell BK187.out 0).trans rfl
   have hcz8_1 : w5.cell? ⟨gb187, 1, none⟩ = some (.int .u32 a1_1) := (blk_cell BK187.out 1).trans rfl
   have hcz8_2 : w5.cell? ⟨gb187, 2, none⟩ = some (.slice A1_2 l1_2.length c1_2) := (blk_cell BK187.out 2).trans rfl
   have hfz8_0 := blk_frozen BK187.out 0
   have hfz8_1 := blk_frozen BK187.out 1
   have hfz8_2 := blk_frozen BK187.out 2
   go_wp2
   go_meet
   case rel => exact ⟨_, (true), (by first | rfl | (simp; done) | (simp [*]; done)), H', ⟨by first | omega | exact Nat.le_refl _⟩, ⟨by (with_reducible repeat (first | refine blk_drewN ?_ _ | refine blk_drew ?_ | refine blk_alloc ?_ _)); exact BK186.out⟩, ⟨by (with_reducible repeat (first | refine blk_drewN ?_ _ | refine blk_drew ?_ | refine blk_alloc ?_ _)); exact BK187.out⟩, ⟨by repeat (first | (with_reducible first | exact HB.out | apply below_alloc | apply pw_below_drewN | apply below_drew1 | refine below_set ?_ GE186.out | refine below_set ?_ GE187.out) | exact HB.out)⟩⟩
  ·rw [if_neg c6] at H
   have c6b0 : decide (a1_0 < 1) = false := decide_eq_false c6
   clear c6
   (first | rw [c6b0] | (simp only [i64_w, i32_w]; rw [c6b0]) | skip)
   have H' := Aside0.mk H
   clear H
   have hnb9 := NB187_186.out
   have hnc9 := NB186_187.out
   have hcz10_0 : w5.cell? ⟨gb187, 0, none⟩ = some (.int .i64 a1_0) := (blk_cell BK187.out 0).trans rfl
   have hcz10_1 : w5.cell? ⟨gb187, 1, none⟩ = some (.int .u32 a1_1) := (blk_cell BK187.out 1).trans rfl
   have hcz10_2 : w5.cell? ⟨gb187, 2, none⟩ = some (.slice A1_2 l1_2.length c1_2) := (blk_cell BK187.out 2).trans rfl
   have hfz10_0 := blk_frozen BK187.out 0
   have hfz10_1 := blk_frozen BK187.out 1
   have hfz10_2 := blk_frozen BK187.out 2
   go_wp2
   go_meet
   case rel => exact ⟨_, (decide (a1_0 > 7)), (by first | rfl | (simp; done) | (simp [*]; done)), H', ⟨by first | omega | exact Nat.le_refl _⟩, ⟨by (with_reducible repeat (first | refine blk_drewN ?_ _ | refine blk_drew ?_ | refine blk_alloc ?_ _)); exact BK186.out⟩, ⟨by (with_reducible repeat (first | refine blk_drewN ?_ _ | refine blk_drew ?_ | refine blk_alloc ?_ _)); exact BK187.out⟩, ⟨by repeat (first | (with_reducible first | exact HB.out | apply below_alloc | apply pw_below_drewN | apply below_drew1 | refine below_set ?_ GE186.out | refine below_set ?_ GE187.out) | exact HB.out)⟩⟩
 case rest =>
  clear HC3
  try clear c1
  try clear p2
  try clear c6
  try clear c6b0
  try clear c7
  try clear c9
  try clear hcz10_0
  try clear hcz10_1
  try clear hcz10_2
  try clear hcz8_0
  try clear hcz8_1
  try clear hcz8_2
  try clear hfz10_0
  try clear hfz10_1
  try clear hfz10_2
  try clear hfz8_0
  try clear hfz8_1
  try clear hfz8_2
  obtain ⟨kq, x17_2, rfl, HA, HJ2, BK186, BK187, HB⟩ := hcut
  cases kq with
  | zero => exact absurd HA.out (by simp [lodgerref10_Check.j0])
  | succ kj2 =>
   have H := HA.out
   clear HA
   simp only [lodgerref10_Check.j0] at H
   by_cases c11 : x17_2 = true
   ·subst c11
    have H1 : (some 1) = some r := by rw [if_pos rfl] at H; exact H
    clear H
    have H := H1
    clear H1
    obtain rfl := Option.some.inj H
    go_wp2
    go_ret
    exact ⟨by first | rfl | (simp [errW_none, errW_some] <;> rfl) | (simp [*, errW_none, errW_some] <;> rfl), by repeat (first | (with_reducible first | exact HB.out | apply below_alloc | apply pw_below_drewN | apply below_drew1 | refine below_set ?_ GE186.out | refine below_set ?_ GE187.out) | exact HB.out)⟩
   ·replace c11 := Bool.eq_false_iff.mpr c11
    subst c11
    have H1 : (if a1_0 = 4 then (lodgerref10_Check.j1 kj2 ((l1_2.length : Int) == 0) a0_0 a0_1 l0_2 a0_3 a0_4 a0_5 a0_6 a1_0 a1_1 l1_2) else (lodgerref10_Check.j1 kj2 false a0_0 a0_1 l0_2 a0_3 a0_4 a0_5 a0_6 a1_0 a1_1 l1_2)) = some r := by rw [if_neg (show ¬ (false = true) by decide)] at H; exact H
    clear H
    have H := H1
    clear H1
    have HC12 := Aside0.mk H
    clear H
    go_upto_region 3 with (fail)
    go_cut [26] (fun v26 wc => ∃ (kq : Nat) (x26_11 : Bool), v26 = .bool x26_11 ∧ Aside0 (lodgerref10_Check.j1 kq x26_11 a0_0 a0_1 l0_2 a0_3 a0_4 a0_5 a0_6 a1_0 a1_1 l1_2 = some r) ∧ Aside0 (kq ≤ kj2) ∧ Aside0 (wc.heap[gb186]? = some (.cells #[.int .u32 a0_0, .int .i64 a0_1, (.slice A0_2 l0_2.length c0_2), .int .i64 a0_3, .int .i64 a0_4, .int .i64 a0_5, .int .i64 a0_6] 27 (0, 0))) ∧ Aside0 (wc.heap[gb187]? = some (.cells #[.int .i64 a1_0, .int .u32 a1_1, (.slice A1_2 l1_2.length c1_2)] 30 (0, 0))) ∧ Aside0 (Below w.heap.size w wc))
    case first =>
     have H := HC12.out
     clear HC12
     by_cases c13 : a1_0 = 4
     ·rw [if_pos c13] at H
      have c13b0 : (a1_0 == 4) = true := beq_iff_eq.mpr c13
      have c13b1 : (a1_0 != 4) = false := bne_eq_false_iff_eq.mpr c13
      clear c13
      (first | rw [c13b0] | (simp only [i64_w, i32_w]; rw [c13b0]) | skip)
      have H' := Aside0.mk H
      clear H
      have hnb14 := NB187_186.out
      have hnc14 := NB186_187.out
      have hcz15_0 : wc.cell? ⟨gb187, 0, none⟩ = some (.int .i64 a1_0) := (blk_cell BK187.out 0).trans rfl
      have hcz15_1 : wc.cell? ⟨gb187, 1, none⟩ = some (.int .u32 a1_1) := (blk_cell BK187.out 1).trans rfl
      have hcz15_2 : wc.cell? ⟨gb187, 2, none⟩ = some (.slice A1_2 l1_2.length c1_2) := (blk_cell BK187.out 2).trans rfl
      have hfz15_0 := blk_frozen BK187.out 0
      have hfz15_1 := blk_frozen BK187.out 1
      have hfz15_2 := blk_frozen BK187.out 2
      go_wp2
      go_meet
      case rel => exact ⟨_, (((l1_2.length : Int) == 0)), (by first | rfl | (simp; done) | (simp [*]; done)), H', ⟨by have := HJ2.out; first | omega | exact Nat.le_refl _⟩, ⟨by (with_reducible repeat (first | refine blk_drewN ?_ _ | refine blk_drew ?_ | refine blk_alloc ?_ _)); exact BK186.out⟩, ⟨by (with_reducible repeat (first | refine blk_drewN ?_ _ | refine blk_drew ?_ | refine blk_alloc ?_ _)); exact BK187.out⟩, ⟨by repeat (first | (with_reducible first | exact HB.out | apply below_alloc | apply pw_below_drewN | apply below_drew1 | refine below_set ?_ GE186.out | refine below_set ?_ GE187.out) | exact HB.out)⟩⟩
     ·rw [if_neg c13] at H
      have c13b0 : (a1_0 == 4) = false := beq_eq_false_iff_ne.mpr c13
      have c13b1 : (a1_0 != 4) = true := bne_iff_ne.mpr c13
      (first | rw [c13b0] | (simp only [i64_w, i32_w]; rw [c13b0]) | skip)
      have H' := Aside0.mk H
      clear H
      have hnb16 := NB187_186.out
      have hnc16 := NB186_187.out
      have hcz17_0 : wc.cell? ⟨gb187, 0, none⟩ = some (.int .i64 a1_0) := (blk_cell BK187.out 0).trans rfl
      have hcz17_1 : wc.cell? ⟨gb187, 1, none⟩ = some (.int .u32 a1_1) := (blk_cell BK187.out 1).trans rfl
      have hcz17_2 : wc.cell? ⟨gb187, 2, none⟩ = some (.slice A1_2 l1_2.length c1_2) := (blk_cell BK187.out 2).trans rfl
      have hfz17_0 := blk_frozen BK187.out 0
      have hfz17_1 := blk_frozen BK187.out 1
      have hfz17_2 := blk_frozen BK187.out 2
      go_wp2
      go_meet
      case rel => exact ⟨_, (false), (by first | rfl | (simp; done) | (simp [*]; done)), H', ⟨by have := HJ2.out; first | omega | exact Nat.le_refl _⟩, ⟨by (with_reducible repeat (first | refine blk_drewN ?_ _ | refine blk_drew ?_ | refine blk_alloc ?_ _)); exact BK186.out⟩, ⟨by (with_reducible repeat (first | refine blk_drewN ?_ _ | refine blk_drew ?_ | refine blk_alloc ?_ _)); exact BK187.out⟩, ⟨by repeat (first | (with_reducible first | exact HB.out | apply below_alloc | apply pw_below_drewN | apply below_drew1 | refine below_set ?_ GE186.out | refine below_set ?_ GE187.out) | exact HB.out)⟩⟩
    case rest =>
     clear HC12
     try clear c1
     try clear p2
     try clear c6
     try clear c6b0
     try clear c7
     try clear c9
     try clear c11
     try clear c12
     try clear c13
     try clear c13b0
     try clear c13b1
     try clear c14
     try clear c16
     try clear hcz10_0
     try clear hcz10_1
     try clear hcz10_2
     try clear hcz15_0
     try clear hcz15_1
     try clear hcz15_2
     try clear hcz17_0
     try clear hcz17_1
     try clear hcz17_2
     try clear hcz8_0
     try clear hcz8_1
     try clear hcz8_2
     try clear hfz10_0
     try clear hfz10_1
     try clear hfz10_2
     try clear hfz15_0
     try clear hfz15_1
     try clear hfz15_2
     try clear hfz17_0
     try clear hfz17_1
     try clear hfz17_2
     try clear hfz8_0
     try clear hfz8_1
     try clear hfz8_2
     try clear p2
     obtain ⟨kq, x26_11, rfl, HA, HJ11, BK186, BK187, HB⟩ := hcut
     cases kq with
     | zero => exact absurd HA.out (by simp [lodgerref10_Check.j1])
     | succ kj11 =>
      have H := HA.out
      clear HA
      simp only [lodgerref10_Check.j1] at H
      by_cases c18 : x26_11 = true
      ·subst c18
       have H1 : (some 7) = some r := by rw [if_pos rfl] at H; exact H
       clear H
       have H := H1
       clear H1
       obtain rfl := Option.some.inj H
       go_wp2
       go_ret
       exact ⟨by first | rfl | (simp [errW_none, errW_some] <;> rfl) | (simp [*, errW_none, errW_some] <;> rfl), by repeat (first | (with_reducible first | exact HB.out | apply below_alloc | apply pw_below_drewN | apply below_drew1 | refine below_set ?_ GE186.out | refine below_set ?_ GE187.out) | exact HB.out)⟩
      ·replace c18 := Bool.eq_false_iff.mpr c18
       subst c18
       have H1 : (if a1_0 = 4 then (lodgerref10_Check.j2 kj11 (decide ((l1_2.length : Int) > 64)) a0_0 a0_1 l0_2 a0_3 a0_4 a0_5 a0_6 a1_0 a1_1 l1_2) else (lodgerref10_Check.j2 kj11 false a0_0 a0_1 l0_2 a0_3 a0_4 a0_5 a0_6 a1_0 a1_1 l1_2)) = some r := by rw [if_neg (show ¬ (false = true) by decide)] at H; exact H
       clear H
       have H := H1
       clear H1
       have HC19 := Aside0.mk H
       clear H
       go_upto_region 5 with (fail)
       go_cut [35] (fun v35 wc => ∃ (kq : Nat) (x35_18 : Bool), v35 = .bool x35_18 ∧ Aside0 (lodgerref10_Check.j2 kq x35_18 a0_0 a0_1 l0_2 a0_3 a0_4 a0_5 a0_6 a1_0 a1_1 l1_2 = some r) ∧ Aside0 (kq ≤ kj11) ∧ Aside0 (wc.heap[gb186]? = some (.cells #[.int .u32 a0_0, .int .i64 a0_1, (.slice A0_2 l0_2.length c0_2), .int .i64 a0_3, .int .i64 a0_4, .int .i64 a0_5, .int .i64 a0_6] 27 (0, 0))) ∧ Aside0 (wc.heap[gb187]? = some (.cells #[.int .i64 a1_0, .int .u32 a1_1, (.slice A1_2 l1_2.length c1_2)] 30 (0, 0))) ∧ Aside0 (Below w.heap.size w wc))
       case first =>
        have H := HC19.out
        clear HC19
        by_cases c20 : a1_0 = 4
        ·rw [if_pos c20] at H
         have c20b0 : (a1_0 == 4) = true := beq_iff_eq.mpr c20
         have c20b1 : (a1_0 != 4) = false := bne_eq_false_iff_eq.mpr c20
         clear c20
         (first | rw [c20b0] | (simp only [i64_w, i32_w]; rw [c20b0]) | skip)
         have H' := Aside0.mk H
         clear H
         have hnb21 := NB187_186.out
         have hnc21 := NB186_187.out
         have hcz22_0 : wc.cell? ⟨gb187, 0, none⟩ = some (.int .i64 a1_0) := (blk_cell BK187.out 0).trans rfl
         have hcz22_1 : wc.cell? ⟨gb187, 1, none⟩ = some (.int .u32 a1_1) := (blk_cell BK187.out 1).trans rfl
         have hcz22_2 : wc.cell? ⟨gb187, 2, none⟩ = some (.slice A1_2 l1_2.length c1_2) := (blk_cell BK187.out 2).trans rfl
         have hfz22_0 := blk_frozen BK187.out 0
         have hfz22_1 := blk_frozen BK187.out 1
         have hfz22_2 := blk_frozen BK187.out 2
         go_wp2
         go_meet
         case rel => exact ⟨_, (decide ((l1_2.length : Int) > 64)), (by first | rfl | (simp; done) | (simp [*]; done)), H', ⟨by have := HJ2.out; have := HJ11.out; first | omega | exact Nat.le_refl _⟩, ⟨by (with_reducible repeat (first | refine blk_drewN ?_ _ | refine blk_drew ?_ | refine blk_alloc ?_ _)); exact BK186.out⟩, ⟨by (with_reducible repeat (first | refine blk_drewN ?_ _ | refine blk_drew ?_ | refine blk_alloc ?_ _)); exact BK187.out⟩, ⟨by repeat (first | (with_reducible first | exact HB.out | apply below_alloc | apply pw_below_drewN | apply below_drew1 | refine below_set ?_ GE186.out | refine below_set ?_ GE187.out) | exact HB.out)⟩⟩
        ·rw [if_neg c20] at H
         have c20b0 : (a1_0 == 4) = false := beq_eq_false_iff_ne.mpr c20
         have c20b1 : (a1_0 != 4) = true := bne_iff_ne.mpr c20
         (first | rw [c20b0] | (simp only [i64_w, i32_w]; rw [c20b0]) | skip)
         have H' := Aside0.mk H
         clear H
         have hnb23 := NB187_186.out
         have hnc23 := NB186_187.out
         have hcz24_0 : wc.cell? ⟨gb187, 0, none⟩ = some (.int .i64 a1_0) := (blk_cell BK187.out 0).trans rfl
         have hcz24_1 : wc.cell? ⟨gb187, 1, none⟩ = some (.int .u32 a1_1) := (blk_cell BK187.out 1).trans rfl
         have hcz24_2 : wc.cell? ⟨gb187, 2, none⟩ = some (.slice A1_2 l1_2.length c1_2) := (blk_cell BK187.out 2).trans rfl
         have hfz24_0 := blk_frozen BK187.out 0
         have hfz24_1 := blk_frozen BK187.out 1
         have hfz24_2 := blk_frozen BK187.out 2
         go_wp2
         go_meet
         case rel => exact ⟨_, (false), (by first | rfl | (simp; done) | (simp [*]; done)), H', ⟨by have := HJ2.out; have := HJ11.out; first | omega | exact Nat.le_refl _⟩, ⟨by (with_reducible repeat (first | refine blk_drewN ?_ _ | refine blk_drew ?_ | refine blk_alloc ?_ _)); exact BK186.out⟩, ⟨by (with_reducible repeat (first | refine blk_drewN ?_ _ | refine blk_drew ?_ | refine blk_alloc ?_ _)); exact BK187.out⟩, ⟨by repeat (first | (with_reducible first | exact HB.out | apply below_alloc | apply pw_below_drewN | apply below_drew1 | refine below_set ?_ GE186.out | refine below_set ?_ GE187.out) | exact HB.out)⟩⟩
       case rest =>
        clear HC19
        try clear c1
        try clear c2
        try clear p2
        try clear c6
        try clear c6b0
        try clear c7
        try clear c9
        try clear c11
        try clear c12
        try clear c13
        try clear c13b0
        try clear c13b1
        try clear c14
        try clear c16
        try clear c18
        try clear c20
        try clear c20b0
        try clear c20b1
        try clear c21
        try clear c23
        try clear hcz10_0
        try clear hcz10_1
        try clear hcz10_2
        try clear hcz15_0
        try clear hcz15_1
        try clear hcz15_2
        try clear hcz17_0
        try clear hcz17_1
        try clear hcz17_2
        try clear hcz22_0
        try clear hcz22_1
        try clear hcz22_2
        try clear hcz24_0
        try clear hcz24_1
        try clear hcz24_2
        try clear hcz8_0
        try clear hcz8_1
        try clear hcz8_2
        try clear hfz10_0
        try clear hfz10_1
        try clear hfz10_2
        try clear hfz15_0
        try clear hfz15_1
        try clear hfz15_2
        try clear hfz17_0
        try clear hfz17_1
        try clear hfz17_2
        try clear hfz22_0
        try clear hfz22_1
        try clear hfz22_2
        try clear hfz24_0
        try clear hfz24_1
        try clear hfz24_2
        try clear hfz8_0
        try clear hfz8_1
        try clear hfz8_2
        try clear p2
        obtain ⟨kq, x35_18, rfl, HA, HJ18, BK186, BK187, HB⟩ := hcut
        cases kq with
        | zero => exact absurd HA.out (by simp [lodgerref10_Check.j2])
        | succ kj18 =>
         have H := HA.out
         clear HA
         simp only [lodgerref10_Check.j2] at H
         by_cases c25 : x35_18 = true
         ·subst c25
          have H1 : (some 1) = some r := by rw [if_pos rfl] at H; exact H
          clear H
          have H := H1
          clear H1
          obtain rfl := Option.some.inj H
          go_wp2
          go_ret
          exact ⟨by first | rfl | (simp [errW_none, errW_some] <;> rfl) | (simp [*, errW_none, errW_some] <;> rfl), by repeat (first | (with_reducible first | exact HB.out | apply below_alloc | apply pw_below_drewN | apply below_drew1 | refine below_set ?_ GE186.out | refine below_set ?_ GE187.out) | exact HB.out)⟩
         ·replace c25 := Bool.eq_false_iff.mpr c25
          subst c25
          have H1 : ((lodgerref10_Names.f kj18 a1_0 a1_1 l1_2).bind fun t188 => (lodgerref10_Check.l0 kj18 t188 0 a0_0 a0_1 l0_2 a0_3 a0_4 a0_5 a0_6)) = some r := by rw [if_neg (show ¬ (false = true) by decide)] at H; exact H
          clear H
          have H := H1
          clear H1
          replace H := Option.bind_eq_some_iff.mp H
          obtain ⟨t188, A260, H⟩ := H
          replace H : (lodgerref10_Check.l0 kj18 t188 0 a0_0 a0_1 l0_2 a0_3 a0_4 a0_5 a0_6) = some r := H
          have A26 := Aside0.mk A260
          clear A260
          have H' := Aside0.mk H
          clear H
          have hnb27 := NB187_186.out
          have hnc27 := NB186_187.out
          have hcz28_0 : wc.cell? ⟨gb187, 0, none⟩ = some (.int .i64 a1_0) := (blk_cell BK187.out 0).trans rfl
          have hcz28_1 : wc.cell? ⟨gb187, 1, none⟩ = some (.int .u32 a1_1) := (blk_cell BK187.out 1).trans rfl
          have hcz28_2 : wc.cell? ⟨gb187, 2, none⟩ = some (.slice A1_2 l1_2.length c1_2) := (blk_cell BK187.out 2).trans rfl
          have hfz28_0 := blk_frozen BK187.out 0
          have hfz28_1 := blk_frozen BK187.out 1
          have hfz28_2 := blk_frozen BK187.out 2
          go_wp2_with (first | ((with_reducible refine gate_callee (f := 15) rfl ?_); refine goesL_ (some 37) rfl rfl Tryd.func15 (by kernel_rfl) rfl #[.agg #[.int .i64 a1_0, .int .u32 a1_1, .slice A1_2 l1_2.length c1_2]] rfl (by (try simp only [List.map_toArray, List.map_cons, List.map_nil]); first | done | rfl | (simp only [List.length_drop, List.length_take]; rfl)) ?_; (with_reducible refine (lodgerref10_Names.calls kj18 a1_0 a1_1 _ _ l1_2 t188 _ ?side1 ?side2 A26.out).mono ?_); (case side1 => repeat (first | exact (Kd.C_below HR1_2.out HB.out) | (with_reducible refine Kd.C_alloc ?_ _) | (with_reducible refine Kd.C_drewN ?_ _) | (with_reducible refine Kd.C_drew ?_))); (case side2 => exact HC1_2.out); rintro e w29 ⟨v189, rfl, ho0, hb⟩; refine ⟨_, rfl, ?_⟩; have n0_ := Aside0.mk (Kd.R_lower ho0 (below_size (by repeat (first | (with_reducible first | exact HB.out | apply below_alloc | apply pw_below_drewN | apply below_drew1 | refine below_set ?_ GE186.out | refine below_set ?_ GE187.out) | exact HB.out)))); have n1_ := Aside0.mk (blk_below (g := gb186) (o := .cells #[.int .u32 a0_0, .int .i64 a0_1, .slice A0_2 l0_2.length c0_2, .int .i64 a0_3, .int .i64 a0_4, .int .i64 a0_5, .int .i64 a0_6] 27 (0, 0)) (by (with_reducible repeat (first | refine blk_drewN ?_ _ | refine blk_drew ?_ | refine blk_alloc ?_ _)); exact BK186.out) hb); have n2_ := Aside0.mk (blk_below (g := gb187) (o := .cells #[.int .i64 a1_0, .int .u32 a1_1, .slice A1_2 l1_2.length c1_2] 30 (0, 0)) (by (with_reducible repeat (first | refine blk_drewN ?_ _ | refine blk_drew ?_ | refine blk_alloc ?_ _)); exact BK187.out) hb); have n3_ := Aside0.mk (below_step (by repeat (first | (with_reducible first | exact HB.out | apply below_alloc | apply pw_below_drewN | apply below_drew1 | refine below_set ?_ GE186.out | refine below_set ?_ GE187.out) | exact HB.out)) hb); clear BK186; clear BK187; clear HB; have HO190 := n0_; have BK186 := n1_; have BK187 := n2_; have HB := n3_; clear n0_ n1_ n2_ n3_; (try clear hb); (try clear hb2); (try clear hk); (try clear hi); (try clear ho0)))
          go_loopg [6] kj18 (fun kq v6 w' => ∃ (x6_4 : Int), v6 = .int .i64 x6_4 ∧ Aside0 (lodgerref10_Check.l0 kq t188 x6_4 a0_0 a0_1 l0_2 a0_3 a0_4 a0_5 a0_6 = some r) ∧ Aside0 (kq ≤ kj18) ∧ Aside0 (Kd.R (Kd.int .u32) 22 w' w.heap.size (fun _ => True) v189 t188) ∧ Aside0 (w'.heap[gb186]? = some (.cells #[.int .u32 a0_0, .int .i64 a0_1, (.slice A0_2 l0_2.length c0_2), .int .i64 a0_3, .int .i64 a0_4, .int .i64 a0_5, .int .i64 a0_6] 27 (0, 0))) ∧ Aside0 (w'.heap[gb187]? = some (.cells #[.int .i64 a1_0, .int .u32 a1_1, (.slice A1_2 l1_2.length c1_2)] 30 (0, 0))) ∧ Aside0 (Below w.heap.size w w'))
          case atStart => exact ⟨(0), (by first | rfl | (simp; done) | (simp [*]; done)), H', ⟨Nat.le_refl _⟩, ⟨by (with_reducible repeat (first | apply Kd.R_alloc | apply Kd.R_drewN | apply Kd.R_drew)); exact HO190.out⟩, ⟨by (with_reducible repeat (first | refine blk_drewN ?_ _ | refine blk_drew ?_ | refine blk_alloc ?_ _)); exact BK186.out⟩, ⟨by (with_reducible repeat (first | refine blk_drewN ?_ _ | refine blk_drew ?_ | refine blk_alloc ?_ _)); exact BK187.out⟩, ⟨by repeat (first | (with_reducible first | exact HB.out | apply below_alloc | apply pw_below_drewN | apply below_drew1 | refine below_set ?_ GE186.out | refine below_set ?_ GE187.out) | exact HB.out)⟩⟩
          case round =>
           clear H'
           try clear c1
           try clear c2
           try clear p2
           try clear c6
           try clear c6b0
           try clear c7
           try clear c9
           try clear c11
           try clear c12
           try clear c13
           try clear c13b0
           try clear c13b1
           try clear c14
           try clear c15
           try clear c16
           try clear c18
           try clear c20
           try clear c20b0
           try clear c20b1
           try clear c21
           try clear c23
           try clear c25
           try clear c27
           try clear hcz10_0
           try clear hcz10_1
           try clear hcz10_2
           try clear hcz15_0
           try clear hcz15_1
           try clear hcz15_2
           try clear hcz17_0
           try clear hcz17_1
           try clear hcz17_2
           try clear hcz22_0
           try clear hcz22_1
           try clear hcz22_2
           try clear hcz24_0
           try clear hcz24_1
           try clear hcz24_2
           try clear hcz28_0
           try clear hcz28_1
           try clear hcz28_2
           try clear hcz8_0
           try clear hcz8_1
           try clear hcz8_2
           try clear hfz10_0
           try clear hfz10_1
           try clear hfz10_2
           try clear hfz15_0
           try clear hfz15_1
           try clear hfz15_2
           try clear hfz17_0
           try clear hfz17_1
           try clear hfz17_2
           try clear hfz22_0
           try clear hfz22_1
           try clear hfz22_2
           try clear hfz24_0
           try clear hfz24_1
           try clear hfz24_2
           try clear hfz28_0
           try clear hfz28_1
           try clear hfz28_2
           try clear hfz8_0
           try clear hfz8_1
           try clear hfz8_2
           try clear p2
           obtain ⟨x6_4, rfl, HA, HK4, HO_5, BK186, BK187, HB⟩ := hrel
           cases gk with
           | zero => exact absurd HA.out (by simp [lodgerref10_Check.l0])
           | succ k4 =>
            have H := HA.out
            clear HA
            simp only [lodgerref10_Check.l0] at H
            by_cases c30 : x6_4 < (t188.length : Int)
            ·rw [if_pos c30] at H
             have c30b0 : decide (x6_4 < (t188.length : Int)) = true := decide_eq_true c30
             clear c30
             by_cases c31 : 0 ≤ x6_4
             ·rw [if_pos c31] at H
              have c31b0 : decide (0 ≤ x6_4) = true := decide_eq_true c31
              clear c31
              replace H := Option.bind_eq_some_iff.mp H
              obtain ⟨⟨t192, t193⟩, A320, H⟩ := H
              replace H : (if t193 = 0 then (lodgerref10_Check.l1 k4 t188 x6_4 0 a0_0 a0_1 l0_2 a0_3 a0_4 a0_5 a0_6) else (some t193)) = some r := H
              have A32 := Aside0.mk A320
              clear A320
              by_cases c33 : t193 = 0
              ·rw [if_pos c33] at H
               have c33b0 : (t193 == 0) = true := beq_iff_eq.mpr c33
               have c33b1 : (t193 != 0) = false := bne_eq_false_iff_eq.mpr c33
               clear c33
               have H' := Aside0.mk H
               clear H
               obtain ⟨Ao34, co34, eo34⟩ := Kd.R_slice HO_5.out
               subst eo34
               try go_wp2
               have n0_ := Aside0.mk (Kd.R_drew HO_5.out)
               have n1_ := Aside0.mk (blk_drew BK186.out)
               have n2_ := Aside0.mk (blk_drew BK187.out)
               have n3_ := Aside0.mk (below_drew1 HB.out)
               clear HO_5
               clear BK186
               clear BK187
               clear HB
               have HO_5 := n0_
               have BK186 := n1_
               have BK187 := n2_
               have HB := n3_
               clear n0_ n1_ n2_ n3_
               have p191 : 0 ≤ (x6_4 : Int) := od_
               have q191 : x6_4 < (t188.length : Int) := od_
               obtain ⟨ad191, e191, hx191_0⟩ := Kd.at_int (Kd.R_reads' HO_5.out).2.2 x6_4 p191 q191
               cases e191
               replace p191 := eq_true p191
               replace q191 := eq_true q191
               refine start_ (n := 11) (S := fun w' => w'.cell? ⟨gb186, 0, none⟩ = some (.int .u32 a0_0) ∧ w'.cell? ⟨gb186, 1, none⟩ = some (.int .i64 a0_1) ∧ w'.cell? ⟨gb186, 2, none⟩ = some (.slice A0_2 l0_2.length c0_2) ∧ w'.cell? ⟨gb186, 3, none⟩ = some (.int .i64 a0_3) ∧ w'.cell? ⟨gb186, 4, none⟩ = some (.int .i64 a0_4) ∧ w'.cell? ⟨gb186, 5, none⟩ = some (.int .i64 a0_5) ∧ w'.cell? ⟨gb186, 6, none⟩ = some (.int .i64 a0_6) ∧ w'.cell? (ad191.add (x6_4).toNat) = some (.int .u32 (rd t188 x6_4))) (ds := []) #[false, false, false, false, false, false, false, false, false, false, false] (by kernel_rfl) rfl rfl ⟨(blk_cell BK186.out 0).trans rfl, (blk_cell BK186.out 1).trans rfl, (blk_cell BK186.out 2).trans rfl, (blk_cell BK186.out 3).trans rfl, (blk_cell BK186.out 4).trans rfl, (blk_cell BK186.out 5).trans rfl, (blk_cell BK186.out 6).trans rfl, hx191_0⟩ (fun hHeld => ?_); refine with_tabW lodgerref10_Check.tab11 lodgerref10_Check.bits11 (fun HT_ HW_ => ?_)
               generalize wr.drew = w35 at HO_5 BK186 BK187 HB hx191_0 hHeld ⊢
               refine pu_ (i := 1) (N := some 46) (tf 11 2) HT_ ?_
               refine pu_ (i := 2) (N := some 47) (tf 11 6) HT_ ?_
               refine pu_ (i := 3) (N := some 48) (tf 11 14) HT_ ?_
               refine tk_ (i := 0) (N := some 45) (tf 11 15) rfl rfl HT_ HW_ hHeld (by rintro w' ⟨s0, s1, s2, s3, s4, s5, s6, s7⟩; go_simp; with_reducible rfl) ?_
               refine tk_ (i := 4) (N := some 49) (tf 11 31) rfl rfl HT_ HW_ hHeld (by rintro w' ⟨s0, s1, s2, s3, s4, s5, s6, s7⟩; go_simp; with_reducible rfl) ?_
               refine one_ (i := 5) (N := some 50) #[true, true, true, true, true, true, false, false, false, false, false] rfl rfl (one_of HT_.out (by kernel_rfl)) (by decide) (fun K hK => ?_)
               refine goes_ Tryd.func18 (by kernel_rfl) rfl #[.agg #[.int .u32 a0_0, .int .i64 a0_1, .slice A0_2 l0_2.length c0_2, .int .i64 a0_3, .int .i64 a0_4, .int .i64 a0_5, .int .i64 a0_6], .int .u32 (rd t188 x6_4)] (by rfl) rfl rfl (by (try simp only [List.map_toArray, List.map_cons, List.map_nil]); first | done | rfl | (simp only [List.length_drop, List.length_take]; rfl)) ?_
               with_reducible refine (lodgerref05_Find.calls k4 a0_0 a0_1 _ _ l0_2 a0_3 a0_4 a0_5 a0_6 (rd t188 x6_4) t192 t193 _ ?side1 ?side2 A32.out).mono ?_
               (case side1 => repeat (first | exact (Kd.C_below HR0_2.out HB.out) | (with_reducible refine Kd.C_alloc ?_ _) | (with_reducible refine Kd.C_drewN ?_ _) | (with_reducible refine Kd.C_drew ?_)))
               (case side2 => exact HC0_2.out)
               rintro e w36 ⟨rfl, hb⟩
               have HS7_ := (hb.cell (World.block_lt_of_cell? _ _ (hHeld.2.2.2.2.2.2.2))).trans (hHeld.2.2.2.2.2.2.2)
               refine ⟨_, rfl, ?_⟩
               have n0_ := Aside0.mk (Kd.R_below (by (with_reducible repeat (first | apply Kd.R_alloc | apply Kd.R_drewN | apply Kd.R_drew)); exact HO_5.out) hb)
               have n1_ := Aside0.mk (blk_below (g := gb186) (o := .cells #[.int .u32 a0_0, .int .i64 a0_1, .slice A0_2 l0_2.length c0_2, .int .i64 a0_3, .int .i64 a0_4, .int .i64 a0_5, .int .i64 a0_6] 27 (0, 0)) (by (with_reducible repeat (first | refine blk_drewN ?_ _ | refine blk_drew ?_ | refine blk_alloc ?_ _)); exact BK186.out) hb)
               have n2_ := Aside0.mk (blk_below (g := gb187) (o := .cells #[.int .i64 a1_0, .int .u32 a1_1, .slice A1_2 l1_2.length c1_2] 30 (0, 0)) (by (with_reducible repeat (first | refine blk_drewN ?_ _ | refine blk_drew ?_ | refine blk_alloc ?_ _)); exact BK187.out) hb)
               have n3_ := Aside0.mk (below_step (by repeat (first | (with_reducible first | exact HB.out | apply below_alloc | apply pw_below_drewN | apply below_drew1 | refine below_set ?_ GE186.out | refine below_set ?_ GE187.out) | exact HB.out)) hb)
               clear HO_5
               clear BK186
               clear BK187
               clear HB
               have HO_5 := n0_
               have BK186 := n1_
               have BK187 := n2_
               have HB := n3_
               clear n0_ n1_ n2_ n3_
               (try clear hb)
               (try clear hb2)
               (try clear hk)
               (try clear hi)
               refine hK.out _ _ ⟨(blk_cell BK186.out 0).trans rfl, (blk_cell BK186.out 1).trans rfl, (blk_cell BK186.out 2).trans rfl, (blk_cell BK186.out 3).trans rfl, (blk_cell BK186.out 4).trans rfl, (blk_cell BK186.out 5).trans rfl, (blk_cell BK186.out 6).trans rfl, HS7_⟩ (fun hHeld => ?_)
               clear hK K
               refine norm_ (a' := ?_) ?_ ?_
               rotate_left
               ·show Act.put _ (some 50) _ = _
                simp only [Act.put, List.setIfInBounds_toArray, List.set_cons_zero, List.set_cons_succ, i64_w, i32_w]
                rfl
               refine pu_ (i := 6) (N := some 44) (tf 11 127) HT_ ?_
               refine pu_ (i := 7) (N := some 51) (tf 11 255) HT_ ?_
               refine pu_ (i := 8) (N := some 52) (tf 11 511) HT_ ?_
               refine pu_ (i := 9) (N := some 7) (tf 11 1023) HT_ ?_
               refine pu_ (i := 10) (N := some 8) (tf 11 2047) HT_ ?_
               refine done_ (done_of HT_.out (by kernel_rfl)) ?_
               try go_wp2
               go_loopg [9] k4 (fun kq v9 w' => ∃ (x9_5 : Int), v9 = .int .i64 x9_5 ∧ Aside0 (lodgerref10_Check.l1 kq t188 x6_4 x9_5 a0_0 a0_1 l0_2 a0_3 a0_4 a0_5 a0_6 = some r) ∧ Aside0 (kq ≤ k4) ∧ Aside0 (Kd.R (Kd.int .u32) 22 w' w.heap.size (fun _ => True) (.slice (some ad191) t188.length co34) t188) ∧ Aside0 (w'.heap[gb186]? = some (.cells #[.int .u32 a0_0, .int .i64 a0_1, (.slice A0_2 l0_2.length c0_2), .int .i64 a0_3, .int .i64 a0_4, .int .i64 a0_5, .int .i64 a0_6] 27 (0, 0))) ∧ Aside0 (w'.heap[gb187]? = some (.cells #[.int .i64 a1_0, .int .u32 a1_1, (.slice A1_2 l1_2.length c1_2)] 30 (0, 0))) ∧ Aside0 (Below w.heap.size w w'))
               case atStart => exact ⟨(0), (by first | rfl | (simp; done) | (simp [*]; done)), H', ⟨Nat.le_refl _⟩, ⟨by (with_reducible repeat (first | apply Kd.R_alloc | apply Kd.R_drewN | apply Kd.R_drew)); exact HO_5.out⟩, ⟨by (with_reducible repeat (first | refine blk_drewN ?_ _ | refine blk_drew ?_ | refine blk_alloc ?_ _)); exact BK186.out⟩, ⟨by (with_reducible repeat (first | refine blk_drewN ?_ _ | refine blk_drew ?_ | refine blk_alloc ?_ _)); exact BK187.out⟩, ⟨by repeat (first | (with_reducible first | exact HB.out | apply below_alloc | apply pw_below_drewN | apply below_drew1 | refine below_set ?_ GE186.out | refine below_set ?_ GE187.out) | exact HB.out)⟩⟩
               case round =>
                clear H'
                try clear c1
                try clear p1
                try clear q1
                try clear hx1
                try clear c2
                try clear p2
                try clear c3
                try clear c6
                try clear c6b0
                try clear c7
                try clear c9
                try clear c11
                try clear c12
                try clear c13
                try clear c13b0
                try clear c13b1
                try clear c14
                try clear c15
                try clear c16
                try clear c18
                try clear p19
                try clear q19
                try clear hx19
                try clear c20
                try clear c20b0
                try clear c20b1
                try clear c21
                try clear c23
                try clear c25
                try clear c27
                try clear c30
                try clear c30b0
                try clear c31
                try clear c31b0
                try clear c33
                try clear c33b0
                try clear c33b1
                try clear hcz10_0
                try clear hcz10_1
                try clear hcz10_2
                try clear hcz15_0
                try clear hcz15_1
                try clear hcz15_2
                try clear hcz17_0
                try clear hcz17_1
                try clear hcz17_2
                try clear hcz22_0
                try clear hcz22_1
                try clear hcz22_2
                try clear hcz24_0
                try clear hcz24_1
                try clear hcz24_2
                try clear hcz28_0
                try clear hcz28_1
                try clear hcz28_2
                try clear hcz8_0
                try clear hcz8_1
                try clear hcz8_2
                try clear hfz10_0
                try clear hfz10_1
                try clear hfz10_2
                try clear hfz15_0
                try clear hfz15_1
                try clear hfz15_2
                try clear hfz17_0
                try clear hfz17_1
                try clear hfz17_2
                try clear hfz22_0
                try clear hfz22_1
                try clear hfz22_2
                try clear hfz24_0
                try clear hfz24_1
                try clear hfz24_2
                try clear hfz28_0
                try clear hfz28_1
                try clear hfz28_2
                try clear hfz8_0
                try clear hfz8_1
                try clear hfz8_2
                try clear hx191_0
                try clear p191
                try clear p2
                try clear q191
                obtain ⟨x9_5, rfl, HA, HK5, HO_5, BK186, BK187, HB⟩ := hrel
                cases gk with
                | zero => exact absurd HA.out (by simp [lodgerref10_Check.l1])
                | succ k5 =>
                 have H := HA.out
                 clear HA
                 simp only [lodgerref10_Check.l1] at H
                 by_cases c37 : x9_5 < x6_4
                 ·rw [if_pos c37] at H
                  have c37b0 : decide (x9_5 < x6_4) = true := decide_eq_true c37
                  clear c37
                  by_cases c38 : 0 ≤ x9_5
                  ·rw [if_pos c38] at H
                   have c38b0 : decide (0 ≤ x9_5) = true := decide_eq_true c38
                   clear c38
                   by_cases c39 : x9_5 < (t188.length : Int)
                   ·rw [if_pos c39] at H
                    have c39b0 : decide (x9_5 < (t188.length : Int)) = true := decide_eq_true c39
                    clear c39
                    by_cases c40 : 0 ≤ x6_4
                    ·rw [if_pos c40] at H
                     have c40b0 : decide (0 ≤ x6_4) = true := decide_eq_true c40
                     clear c40
                     by_cases c41 : x6_4 < (t188.length : Int)
                     ·rw [if_pos c41] at H
                      have c41b0 : decide (x6_4 < (t188.length : Int)) = true := decide_eq_true c41
                      clear c41
                      by_cases c42 : (rd t188 x9_5) = (rd t188 x6_4)
                      ·rw [if_pos c42] at H
                       have c42b0 : ((rd t188 x9_5) == (rd t188 x6_4)) = true := beq_iff_eq.mpr c42
                       have c42b1 : ((rd t188 x9_5) != (rd t188 x6_4)) = false := bne_eq_false_iff_eq.mpr c42
                       clear c42
                       obtain rfl := Option.some.inj H
                       try go_wp2
                       have n0_ := Aside0.mk (Kd.R_drew HO_5.out)
                       have n1_ := Aside0.mk (blk_drew BK186.out)
                       have n2_ := Aside0.mk (blk_drew BK187.out)
                       have n3_ := Aside0.mk (below_drew1 HB.out)
                       clear HO_5
                       clear BK186
                       clear BK187
                       clear HB
                       have HO_5 := n0_
                       have BK186 := n1_
                       have BK187 := n2_
                       have HB := n3_
                       clear n0_ n1_ n2_ n3_
                       have p194 : 0 ≤ (x9_5 : Int) := od_
                       have q194 : x9_5 < (t188.length : Int) := od_
                       obtain ⟨ad194, e194, hx194_0⟩ := Kd.at_int (Kd.R_reads' HO_5.out).2.2 x9_5 p194 q194
                       obtain rfl : ad191 = ad194 := (by injection e194)
                       replace p194 := eq_true p194
                       replace q194 := eq_true q194
                       have p195 : 0 ≤ (x6_4 : Int) := od_
                       have q195 : x6_4 < (t188.length : Int) := od_
                       obtain ⟨ad195, e195, hx195_0⟩ := Kd.at_int (Kd.R_reads' HO_5.out).2.2 x6_4 p195 q195
                       obtain rfl : ad191 = ad195 := (by injection e195)
                       replace p195 := eq_true p195
                       replace q195 := eq_true q195
                       refine start_ (n := 9) (S := fun w' => w'.cell? (ad191.add (x9_5).toNat) = some (.int .u32 (rd t188 x9_5)) ∧ w'.cell? (ad191.add (x6_4).toNat) = some (.int .u32 (rd t188 x6_4))) (ds := []) #[false, false, false, false, false, false, false, false, false] (by kernel_rfl) rfl rfl ⟨hx194_0, hx195_0⟩ (fun hHeld => ?_); refine with_tabW lodgerref10_Check.tab17 lodgerref10_Check.bits17 (fun HT_ HW_ => ?_)
                       generalize wr.drew = w43 at HO_5 BK186 BK187 HB hx194_0 hx195_0 hHeld ⊢
                       refine pu_ (i := 0) (N := some 61) (tf 9 1) HT_ ?_
                       refine pu_ (i := 1) (N := some 62) (tf 9 3) HT_ ?_
                       refine pu_ (i := 2) (N := some 63) (tf 9 7) HT_ ?_
                       refine pu_ (i := 4) (N := some 65) (tf 9 23) HT_ ?_
                       refine pu_ (i := 5) (N := some 66) (tf 9 55) HT_ ?_
                       refine pu_ (i := 6) (N := some 67) (tf 9 119) HT_ ?_
                       refine tk_ (i := 3) (N := some 64) (tf 9 127) rfl rfl HT_ HW_ hHeld (by rintro w' ⟨s0, s1⟩; go_simp; with_reducible rfl) ?_
                       refine tk_ (i := 7) (N := some 68) (tf 9 255) rfl rfl HT_ HW_ hHeld (by rintro w' ⟨s0, s1⟩; go_simp; with_reducible rfl) ?_
                       refine pu_ (i := 8) (N := some 69) (tf 9 511) HT_ ?_
                       refine done_ (done_of HT_.out (by kernel_rfl)) ?_
                       try go_wp2
                       go_ret
                       exact ⟨by first | rfl | (simp [errW_none, errW_some] <;> rfl) | (simp [*, errW_none, errW_some] <;> rfl), by repeat (first | (with_reducible first | exact HB.out | apply below_alloc | apply pw_below_drewN | apply below_drew1 | refine below_set ?_ GE186.out | refine below_set ?_ GE187.out) | exact HB.out)⟩
                      ·rw [if_neg c42] at H
                       have c42b0 : ((rd t188 x9_5) == (rd t188 x6_4)) = false := beq_eq_false_iff_ne.mpr c42
                       have c42b1 : ((rd t188 x9_5) != (rd t188 x6_4)) = true := bne_iff_ne.mpr c42
                       have H' := Aside0.mk H
                       clear H
                       try go_wp2
                       have n0_ := Aside0.mk (Kd.R_drew HO_5.out)
                       have n1_ := Aside0.mk (blk_drew BK186.out)
                       have n2_ := Aside0.mk (blk_drew BK187.out)
                       have n3_ := Aside0.mk (below_drew1 HB.out)
                       clear HO_5
                       clear BK186
                       clear BK187
                       clear HB
                       have HO_5 := n0_
                       have BK186 := n1_
                       have BK187 := n2_
                       have HB := n3_
                       clear n0_ n1_ n2_ n3_
                       have p194 : 0 ≤ (x9_5 : Int) := od_
                       have q194 : x9_5 < (t188.length : Int) := od_
                       obtain ⟨ad194, e194, hx194_0⟩ := Kd.at_int (Kd.R_reads' HO_5.out).2.2 x9_5 p194 q194
                       obtain rfl : ad191 = ad194 := (by injection e194)
                       replace p194 := eq_true p194
                       replace q194 := eq_true q194
                       have p195 : 0 ≤ (x6_4 : Int) := od_
                       have q195 : x6_4 < (t188.length : Int) := od_
                       obtain ⟨ad195, e195, hx195_0⟩ := Kd.at_int (Kd.R_reads' HO_5.out).2.2 x6_4 p195 q195
                       obtain rfl : ad191 = ad195 := (by injection e195)
                       replace p195 := eq_true p195
                       replace q195 := eq_true q195
                       refine start_ (n := 9) (S := fun w' => w'.cell? (ad191.add (x9_5).toNat) = some (.int .u32 (rd t188 x9_5)) ∧ w'.cell? (ad191.add (x6_4).toNat) = some (.int .u32 (rd t188 x6_4))) (ds := []) #[false, false, false, false, false, false, false, false, false] (by kernel_rfl) rfl rfl ⟨hx194_0, hx195_0⟩ (fun hHeld => ?_); refine with_tabW lodgerref10_Check.tab17 lodgerref10_Check.bits17 (fun HT_ HW_ => ?_)
                       generalize wr.drew = w44 at HO_5 BK186 BK187 HB hx194_0 hx195_0 hHeld ⊢
                       refine pu_ (i := 0) (N := some 61) (tf 9 1) HT_ ?_
                       refine pu_ (i := 1) (N := some 62) (tf 9 3) HT_ ?_
                       refine pu_ (i := 2) (N := some 63) (tf 9 7) HT_ ?_
                       refine pu_ (i := 4) (N := some 65) (tf 9 23) HT_ ?_
                       refine pu_ (i := 5) (N := some 66) (tf 9 55) HT_ ?_
                       refine pu_ (i := 6) (N := some 67) (tf 9 119) HT_ ?_
                       refine tk_ (i := 3) (N := some 64) (tf 9 127) rfl rfl HT_ HW_ hHeld (by rintro w' ⟨s0, s1⟩; go_simp; with_reducible rfl) ?_
                       refine tk_ (i := 7) (N := some 68) (tf 9 255) rfl rfl HT_ HW_ hHeld (by rintro w' ⟨s0, s1⟩; go_simp; with_reducible rfl) ?_
                       refine pu_ (i := 8) (N := some 69) (tf 9 511) HT_ ?_
                       refine done_ (done_of HT_.out (by kernel_rfl)) ?_
                       try go_wp2
                       go_roundg k5
                       case measure => have := HJ2.out; have := HJ11.out; have := HJ18.out; have := HK4.out; have := HK5.out; omega
                       case rel => exact ⟨(wrap64 (x9_5 + 1)), (by first | rfl | (simp; done) | (simp [*]; done)), H', ⟨by have := HJ2.out; have := HJ11.out; have := HJ18.out; have := HK4.out; have := HK5.out; omega⟩, ⟨by (with_reducible repeat (first | apply Kd.R_alloc | apply Kd.R_drewN | apply Kd.R_drew)); exact HO_5.out⟩, ⟨by (with_reducible repeat (first | refine blk_drewN ?_ _ | refine blk_drew ?_ | refine blk_alloc ?_ _)); exact BK186.out⟩, ⟨by (with_reducible repeat (first | refine blk_drewN ?_ _ | refine blk_drew ?_ | refine blk_alloc ?_ _)); exact BK187.out⟩, ⟨by repeat (first | (with_reducible first | exact HB.out | apply below_alloc | apply pw_below_drewN | apply below_drew1 | refine below_set ?_ GE186.out | refine below_set ?_ GE187.out) | exact HB.out)⟩⟩
                     ·rw [if_neg c41] at H
                      exact absurd H (by simp)
                    ·rw [if_neg c40] at H
                     exact absurd H (by simp)
                   ·rw [if_neg c39] at H
                    exact absurd H (by simp)
                  ·rw [if_neg c38] at H
                   exact absurd H (by simp)
                 ·rw [if_neg c37] at H
                  have c37b0 : decide (x9_5 < x6_4) = false := decide_eq_false c37
                  clear c37
                  have H' := Aside0.mk H
                  clear H
                  go_wp2
                  go_roundg k5
                  case measure => have := HJ2.out; have := HJ11.out; have := HJ18.out; have := HK4.out; have := HK5.out; omega
                  case rel => exact ⟨(wrap64 (x6_4 + 1)), (by first | rfl | (simp; done) | (simp [*]; done)), H', ⟨by have := HJ2.out; have := HJ11.out; have := HJ18.out; have := HK4.out; have := HK5.out; omega⟩, ⟨by (with_reducible repeat (first | apply Kd.R_alloc | apply Kd.R_drewN | apply Kd.R_drew)); exact HO_5.out⟩, ⟨by (with_reducible repeat (first | refine blk_drewN ?_ _ | refine blk_drew ?_ | refine blk_alloc ?_ _)); exact BK186.out⟩, ⟨by (with_reducible repeat (first | refine blk_drewN ?_ _ | refine blk_drew ?_ | refine blk_alloc ?_ _)); exact BK187.out⟩, ⟨by repeat (first | (with_reducible first | exact HB.out | apply below_alloc | apply pw_below_drewN | apply below_drew1 | refine below_set ?_ GE186.out | refine below_set ?_ GE187.out) | exact HB.out)⟩⟩
              ·rw [if_neg c33] at H
               have c33b0 : (t193 == 0) = false := beq_eq_false_iff_ne.mpr c33
               have c33b1 : (t193 != 0) = true := bne_iff_ne.mpr c33
               obtain rfl := Option.some.inj H
               obtain ⟨Ao45, co45, eo45⟩ := Kd.R_slice HO_5.out
               subst eo45
               try go_wp2
               have n0_ := Aside0.mk (Kd.R_drew HO_5.out)
               have n1_ := Aside0.mk (blk_drew BK186.out)
               have n2_ := Aside0.mk (blk_drew BK187.out)
               have n3_ := Aside0.mk (below_drew1 HB.out)
               clear HO_5
               clear BK186
               clear BK187
               clear HB
               have HO_5 := n0_
               have BK186 := n1_
               have BK187 := n2_
               have HB := n3_
               clear n0_ n1_ n2_ n3_
               have p191 : 0 ≤ (x6_4 : Int) := od_
               have q191 : x6_4 < (t188.length : Int) := od_
               obtain ⟨ad191, e191, hx191_0⟩ := Kd.at_int (Kd.R_reads' HO_5.out).2.2 x6_4 p191 q191
               cases e191
               replace p191 := eq_true p191
               replace q191 := eq_true q191
               refine start_ (n := 11) (S := fun w' => w'.cell? ⟨gb186, 0, none⟩ = some (.int .u32 a0_0) ∧ w'.cell? ⟨gb186, 1, none⟩ = some (.int .i64 a0_1) ∧ w'.cell? ⟨gb186, 2, none⟩ = some (.slice A0_2 l0_2.length c0_2) ∧ w'.cell? ⟨gb186, 3, none⟩ = some (.int .i64 a0_3) ∧ w'.cell? ⟨gb186, 4, none⟩ = some (.int .i64 a0_4) ∧ w'.cell? ⟨gb186, 5, none⟩ = some (.int .i64 a0_5) ∧ w'.cell? ⟨gb186, 6, none⟩ = some (.int .i64 a0_6) ∧ w'.cell? (ad191.add (x6_4).toNat) = some (.int .u32 (rd t188 x6_4))) (ds := []) #[false, false, false, false, false, false, false, false, false, false, false] (by kernel_rfl) rfl rfl ⟨(blk_cell BK186.out 0).trans rfl, (blk_cell BK186.out 1).trans rfl, (blk_cell BK186.out 2).trans rfl, (blk_cell BK186.out 3).trans rfl, (blk_cell BK186.out 4).trans rfl, (blk_cell BK186.out 5).trans rfl, (blk_cell BK186.out 6).trans rfl, hx191_0⟩ (fun hHeld => ?_); refine with_tabW lodgerref10_Check.tab11 lodgerref10_Check.bits11 (fun HT_ HW_ => ?_)
               generalize wr.drew = w46 at HO_5 BK186 BK187 HB hx191_0 hHeld ⊢
               refine pu_ (i := 1) (N := some 46) (tf 11 2) HT_ ?_
               refine pu_ (i := 2) (N := some 47) (tf 11 6) HT_ ?_
               refine pu_ (i := 3) (N := some 48) (tf 11 14) HT_ ?_
               refine tk_ (i := 0) (N := some 45) (tf 11 15) rfl rfl HT_ HW_ hHeld (by rintro w' ⟨s0, s1, s2, s3, s4, s5, s6, s7⟩; go_simp; with_reducible rfl) ?_
               refine tk_ (i := 4) (N := some 49) (tf 11 31) rfl rfl HT_ HW_ hHeld (by rintro w' ⟨s0, s1, s2, s3, s4, s5, s6, s7⟩; go_simp; with_reducible rfl) ?_
               refine one_ (i := 5) (N := some 50) #[true, true, true, true, true, true, false, false, false, false, false] rfl rfl (one_of HT_.out (by kernel_rfl)) (by decide) (fun K hK => ?_)
               refine goes_ Tryd.func18 (by kernel_rfl) rfl #[.agg #[.int .u32 a0_0, .int .i64 a0_1, .slice A0_2 l0_2.length c0_2, .int .i64 a0_3, .int .i64 a0_4, .int .i64 a0_5, .int .i64 a0_6], .int .u32 (rd t188 x6_4)] (by rfl) rfl rfl (by (try simp only [List.map_toArray, List.map_cons, List.map_nil]); first | done | rfl | (simp only [List.length_drop, List.length_take]; rfl)) ?_
               with_reducible refine (lodgerref05_Find.calls k4 a0_0 a0_1 _ _ l0_2 a0_3 a0_4 a0_5 a0_6 (rd t188 x6_4) t192 t193 _ ?side1 ?side2 A32.out).mono ?_
               (case side1 => repeat (first | exact (Kd.C_below HR0_2.out HB.out) | (with_reducible refine Kd.C_alloc ?_ _) | (with_reducible refine Kd.C_drewN ?_ _) | (with_reducible refine Kd.C_drew ?_)))
               (case side2 => exact HC0_2.out)
               rintro e w47 ⟨rfl, hb⟩
               have HS7_ := (hb.cell (World.block_lt_of_cell? _ _ (hHeld.2.2.2.2.2.2.2))).trans (hHeld.2.2.2.2.2.2.2)
               refine ⟨_, rfl, ?_⟩
               have n0_ := Aside0.mk (Kd.R_below (by (with_reducible repeat (first | apply Kd.R_alloc | apply Kd.R_drewN | apply Kd.R_drew)); exact HO_5.out) hb)
               have n1_ := Aside0.mk (blk_below (g := gb186) (o := .cells #[.int .u32 a0_0, .int .i64 a0_1, .slice A0_2 l0_2.length c0_2, .int .i64 a0_3, .int .i64 a0_4, .int .i64 a0_5, .int .i64 a0_6] 27 (0, 0)) (by (with_reducible repeat (first | refine blk_drewN ?_ _ | refine blk_drew ?_ | refine blk_alloc ?_ _)); exact BK186.out) hb)
               have n2_ := Aside0.mk (blk_below (g := gb187) (o := .cells #[.int .i64 a1_0, .int .u32 a1_1, .slice A1_2 l1_2.length c1_2] 30 (0, 0)) (by (with_reducible repeat (first | refine blk_drewN ?_ _ | refine blk_drew ?_ | refine blk_alloc ?_ _)); exact BK187.out) hb)
               have n3_ := Aside0.mk (below_step (by repeat (first | (with_reducible first | exact HB.out | apply below_alloc | apply pw_below_drewN | apply below_drew1 | refine below_set ?_ GE186.out | refine below_set ?_ GE187.out) | exact HB.out)) hb)
               clear HO_5
               clear BK186
               clear BK187
               clear HB
               have HO_5 := n0_
               have BK186 := n1_
               have BK187 := n2_
               have HB := n3_
               clear n0_ n1_ n2_ n3_
               (try clear hb)
               (try clear hb2)
               (try clear hk)
               (try clear hi)
               refine hK.out _ _ ⟨(blk_cell BK186.out 0).trans rfl, (blk_cell BK186.out 1).trans rfl, (blk_cell BK186.out 2).trans rfl, (blk_cell BK186.out 3).trans rfl, (blk_cell BK186.out 4).trans rfl, (blk_cell BK186.out 5).trans rfl, (blk_cell BK186.out 6).trans rfl, HS7_⟩ (fun hHeld => ?_)
               clear hK K
               refine norm_ (a' := ?_) ?_ ?_
               rotate_left
               ·show Act.put _ (some 50) _ = _
                simp only [Act.put, List.setIfInBounds_toArray, List.set_cons_zero, List.set_cons_succ, i64_w, i32_w]
                rfl
               refine pu_ (i := 6) (N := some 44) (tf 11 127) HT_ ?_
               refine pu_ (i := 7) (N := some 51) (tf 11 255) HT_ ?_
               refine pu_ (i := 8) (N := some 52) (tf 11 511) HT_ ?_
               refine pu_ (i := 9) (N := some 7) (tf 11 1023) HT_ ?_
               refine pu_ (i := 10) (N := some 8) (tf 11 2047) HT_ ?_
               refine done_ (done_of HT_.out (by kernel_rfl)) ?_
               try go_wp2
               go_ret
               exact ⟨by first | rfl | (simp [errW_none, errW_some] <;> rfl) | (simp [*, errW_none, errW_some] <;> rfl), by repeat (first | (with_reducible first | exact HB.out | apply below_alloc | apply pw_below_drewN | apply below_drew1 | refine below_set ?_ GE186.out | refine below_set ?_ GE187.out) | exact HB.out)⟩
             ·rw [if_neg c31] at H
              exact absurd H (by simp)
            ·rw [if_neg c30] at H
             have c30b0 : decide (x6_4 < (t188.length : Int)) = false := decide_eq_false c30
             clear c30
             obtain rfl := Option.some.inj H
             obtain ⟨Ao48, co48, eo48⟩ := Kd.R_slice HO_5.out
             subst eo48
             go_wp2
             go_ret
             exact ⟨by first | rfl | (simp [errW_none, errW_some] <;> rfl) | (simp [*, errW_none, errW_some] <;> rfl), by repeat (first | (with_reducible first | exact HB.out | apply below_alloc | apply pw_below_drewN | apply below_drew1 | refine below_set ?_ GE186.out | refine below_set ?_ GE187.out) | exact HB.out)⟩

end Go.Proofs.YthfcgjmffjmplaaDoor.PAskChecks
