/- The walk of AskChecks, part of it: what the Go functions answer; no condition. -/
import Derived.Test.YthfcgjmffjmplaaDoorQAskChecksx0
import Derived.Test.YthfcgjmffjmplaaDoorQAskChecksx1
import Derived.Test.YthfcgjmffjmplaaDoorQAskChecksx2
import Derived.Test.YthfcgjmffjmplaaDoorQAskChecksx3
import Derived.Test.YthfcgjmffjmplaaDoorQAskChecksx4
import Derived.Test.YthfcgjmffjmplaaDoorQAskChecksx5
import Derived.Test.YthfcgjmffjmplaaDoorQAskChecksx6
import Derived.Test.YthfcgjmffjmplaaDoorQAskChecksx7
namespace Go.Proofs.YthfcgjmffjmplaaDoor.PAskChecks
open Go.RowKit Go.Proofs.YthfcgjmffjmplaaDoorW.PrintWords Go.Proofs.YthfcgjmffjmplaaDoorW.PrintLast Go.Proofs.YthfcgjmffjmplaaDoorW.PrintMore
attribute [local go_sem] max2_int min2_int max_two min_two max_three min_three max_four min_four   -- for this text's walks alone
set_option linter.unusedVariables false
set_option linter.unusedSimpArgs false

/-! ### lodgerlaw10_AskChecks: function 3 -/
def lodgerlaw10_AskChecks.j0 : Nat → Bool → Int → Int → List Int → Int → Int → Int → Int → Int → Int → List Int → Int → Int → List Int → Option (Bool)
 | 0, _, _, _, _, _, _, _, _, _, _, _, _, _, _ => none
 | k + 1, x23, x200000, x200001, x200002, x200003, x200004, x200005, x200006, x201000, x201001, x201002, x202000, x202001, x202002 => if x23 = true then ((lodgerlaw10_awake.f k).bind fun t206 => (some t206)) else ((ask_Check.f k x200000 x200001 x200002 x200003 x200004 x200005 x200006 x201000 x201001 x201002).bind fun t207 => ((lodgerref10_Check.f k x200000 x200001 x200002 x200003 x200004 x200005 x200006 x201000 x201001 x201002).bind fun t208 => (if t207 = t208 then ((ask_Names.f x201000 x201001 x201002).bind fun t209 => ((lodgerref10_Names.f k x201000 x201001 x201002).bind fun t212 => ((lodgerref08_Addrs.f k t209 t212).bind fun t215 => (if t215 = true then ((ask_Same.f k x201000 x201001 x201002 x202000 x202001 x202002).bind fun t216 => ((lodgerref08_Asks.f k x201000 x201001 x201002 x202000 x202001 x202002).bind fun t217 => (some (t216 == t217)))) else (some false))))) else (some false))))
def lodgerlaw10_AskChecks.f (k : Nat) (a0_0 : Int) (a0_1 : Int) (l0_2 : List Int) (a0_3 : Int) (a0_4 : Int) (a0_5 : Int) (a0_6 : Int) (a1_0 : Int) (a1_1 : Int) (l1_2 : List Int) (a2_0 : Int) (a2_1 : Int) (l2_2 : List Int) : Option (Bool) := (lodgerlaw10_awake.f k).bind fun t202 => (if t202 = true then ((lodgerref05_May.f k a0_0 a0_1 l0_2 a0_3 a0_4 a0_5 a0_6).bind fun t203 => (if t203 = true then ((lodgerref10_Few.f a1_0 a1_1 l1_2).bind fun t204 => (if t204 = true then ((lodgerref10_Few.f a2_0 a2_1 l2_2).bind fun t205 => (lodgerlaw10_AskChecks.j0 k (!t205) a0_0 a0_1 l0_2 a0_3 a0_4 a0_5 a0_6 a1_0 a1_1 l1_2 a2_0 a2_1 l2_2)) else (lodgerlaw10_AskChecks.j0 k true a0_0 a0_1 l0_2 a0_3 a0_4 a0_5 a0_6 a1_0 a1_1 l1_2 a2_0 a2_1 l2_2))) else (lodgerlaw10_AskChecks.j0 k true a0_0 a0_1 l0_2 a0_3 a0_4 a0_5 a0_6 a1_0 a1_1 l1_2 a2_0 a2_1 l2_2))) else (lodgerlaw10_AskChecks.j0 k true a0_0 a0_1 l0_2 a0_3 a0_4 a0_5 a0_6 a1_0 a1_1 l1_2 a2_0 a2_1 l2_2))
theorem lodgerlaw10_AskChecks.mono_l : ∀ k, (∀ y0 y1 y2 y3 y4 y5 y6 y7 y8 y9 y10 y11 y12 y13, LeO (lodgerlaw10_AskChecks.j0 k y0 y1 y2 y3 y4 y5 y6 y7 y8 y9 y10 y11 y12 y13) (lodgerlaw10_AskChecks.j0 (k + 1) y0 y1 y2 y3 y4 y5 y6 y7 y8 y9 y10 y11 y12 y13))
 | 0 => fun _ _ _ _ _ _ _ _ _ _ _ _ _ _ r h => by simp [lodgerlaw10_AskChecks.j0] at h
 | k + 1 => by
  have ih0 := lodgerlaw10_AskChecks.mono_l k
  ·intro y0 y1 y2 y3 y4 y5 y6 y7 y8 y9 y10 y11 y12 y13
   unfold lodgerlaw10_AskChecks.j0
   repeat' first
   | (with_reducible exact ih0 _ _ _ _ _ _ _ _ _ _ _ _ _ _)
   | (with_reducible exact ask_Check.mono _ _ _ _ _ _ _ _ _ _ _)
   | (with_reducible exact ask_Same.mono _ _ _ _ _ _ _)
   | (with_reducible exact lodgerlaw10_awake.mono _)
   | (with_reducible exact lodgerref05_May.mono _ _ _ _ _ _ _ _)
   | (with_reducible exact lodgerref08_Addrs.mono _ _ _)
   | (with_reducible exact lodgerref08_Asks.mono _ _ _ _ _ _ _)
   | (with_reducible exact lodgerref10_Check.mono _ _ _ _ _ _ _ _ _ _ _)
   | (with_reducible exact lodgerref10_Names.mono _ _ _ _)
   | (with_reducible exact LeO.refl _)
   | (with_reducible exact LeO.none _)
   | (with_reducible refine LeO.ite ?_ ?_)
   | (with_reducible refine LeO.bind ?_ (fun _ => ?_))
   | exact ih0 _ _ _ _ _ _ _ _ _ _ _ _ _ _
   | exact ask_Check.mono _ _ _ _ _ _ _ _ _ _ _
   | exact ask_Same.mono _ _ _ _ _ _ _
   | exact lodgerlaw10_awake.mono _
   | exact lodgerref05_May.mono _ _ _ _ _ _ _ _
   | exact lodgerref08_Addrs.mono _ _ _
   | exact lodgerref08_Asks.mono _ _ _ _ _ _ _
   | exact lodgerref10_Check.mono _ _ _ _ _ _ _ _ _ _ _
   | exact lodgerref10_Names.mono _ _ _ _
   | exact LeO.none _
   | refine LeO.ite ?_ ?_
   | refine LeO.bind ?_ (fun _ => ?_)
theorem lodgerlaw10_AskChecks.mono : ∀ a0 a1 a2 a3 a4 a5 a6 a7 a8 a9 a10 a11 a12 k, LeO (lodgerlaw10_AskChecks.f k a0 a1 a2 a3 a4 a5 a6 a7 a8 a9 a10 a11 a12) (lodgerlaw10_AskChecks.f (k + 1) a0 a1 a2 a3 a4 a5 a6 a7 a8 a9 a10 a11 a12) := by
 intro a0 a1 a2 a3 a4 a5 a6 a7 a8 a9 a10 a11 a12 k
 have ih0 := lodgerlaw10_AskChecks.mono_l k
 unfold lodgerlaw10_AskChecks.f
 repeat' first
   | (with_reducible exact ih0 _ _ _ _ _ _ _ _ _ _ _ _ _ _)
   | (with_reducible exact ask_Check.mono _ _ _ _ _ _ _ _ _ _ _)
   | (with_reducible exact ask_Same.mono _ _ _ _ _ _ _)
   | (with_reducible exact lodgerlaw10_awake.mono _)
   | (with_reducible exact lodgerref05_May.mono _ _ _ _ _ _ _ _)
   | (with_reducible exact lodgerref08_Addrs.mono _ _ _)
   | (with_reducible exact lodgerref08_Asks.mono _ _ _ _ _ _ _)
   | (with_reducible exact lodgerref10_Check.mono _ _ _ _ _ _ _ _ _ _ _)
   | (with_reducible exact lodgerref10_Names.mono _ _ _ _)
   | (with_reducible exact LeO.refl _)
   | (with_reducible exact LeO.none _)
   | (with_reducible refine LeO.ite ?_ ?_)
   | (with_reducible refine LeO.bind ?_ (fun _ => ?_))
   | exact ih0 _ _ _ _ _ _ _ _ _ _ _ _ _ _
   | exact ask_Check.mono _ _ _ _ _ _ _ _ _ _ _
   | exact ask_Same.mono _ _ _ _ _ _ _
   | exact lodgerlaw10_awake.mono _
   | exact lodgerref05_May.mono _ _ _ _ _ _ _ _
   | exact lodgerref08_Addrs.mono _ _ _
   | exact lodgerref08_Asks.mono _ _ _ _ _ _ _
   | exact lodgerref10_Check.mono _ _ _ _ _ _ _ _ _ _ _
   | exact lodgerref10_Names.mono _ _ _ _
   | exact LeO.none _
   | refine LeO.ite ?_ ?_
   | refine LeO.bind ?_ (fun _ => ?_)
def lodgerlaw10_AskChecks.T3 : Bool × List (List Nat × List Nat) := (true, [([], []), ([], []), ([0, 1], [0, 1]), ([], []), ([], []), ([3, 4, 2], [3, 4]), ([2, 5], [2, 5]), ([6, 5], [6]), ([7], [7]), ([8, 7, 7], [7, 8]), ([7], [7]), ([10, 9, 7], [7, 10]), ([9, 11, 11, 7], [7, 9, 11]), ([7, 12], [7, 12]), ([13, 12], [13]), ([14], [14]), ([14], [14]), ([15, 16, 14, 14], [14, 15, 16]), ([14], [14]), ([14], [14]), ([18, 19, 17, 14], [14, 18, 19]), ([17, 20, 14], [14, 17, 20]), ([14, 21], [14, 21]), ([22, 20, 0, 1, 2, 3, 4, 5, 6, 7, 8, 9, 10, 11, 12, 13, 14, 15, 16, 17, 18, 19, 20, 21, 22], [22])])
def lodgerlaw10_AskChecks.B3 : List Nat := [0, 0, 3, 0, 0, 31, 63, 127, 255, 511, 255, 2047, 4095, 8191, 16383, 32767, 32767, 131071, 32767, 32767, 1048575, 2097151, 4194303, 8388607]
theorem lodgerlaw10_AskChecks.tab3 : rtab .any (opsOf Tryd.f3 3) = lodgerlaw10_AskChecks.T3 := by kernel_rfl
theorem lodgerlaw10_AskChecks.bits3 : waitsOk lodgerlaw10_AskChecks.T3.2 lodgerlaw10_AskChecks.B3 = true := by kernel_rfl
set_option maxHeartbeats 8000000 in
set_option maxRecDepth 100000 in
theorem lodgerlaw10_AskChecks.calls (k : Nat) (a0_0 : Int) (a0_1 : Int) (A0_2 : Option Addr) (c0_2 : Nat) (l0_2 : List Int) (a0_3 : Int) (a0_4 : Int) (a0_5 : Int) (a0_6 : Int) (a1_0 : Int) (a1_1 : Int) (A1_2 : Option Addr) (c1_2 : Nat) (l1_2 : List Int) (a2_0 : Int) (a2_1 : Int) (A2_2 : Option Addr) (c2_2 : Nat) (l2_2 : List Int) (r : Bool) (w : World) (hr0_2 : Kd.C (Kd.int .i64) w A0_2 l0_2.length l0_2) (hc0_2 : l0_2.length ≤ c0_2) (hr1_2 : Kd.C (Kd.int .u32) w A1_2 l1_2.length l1_2) (hc1_2 : l1_2.length ≤ c1_2) (hr2_2 : Kd.C (Kd.int .u32) w A2_2 l2_2.length l2_2) (hc2_2 : l2_2.length ≤ c2_2) (hG : Lg w) (hr_ : r = true) (h : lodgerlaw10_AskChecks.f k a0_0 a0_1 l0_2 a0_3 a0_4 a0_5 a0_6 a1_0 a1_1 l1_2 a2_0 a2_1 l2_2 = some r) :
  Calls Tryd.prog 3 #[.agg #[.int .u32 a0_0, .int .i64 a0_1, .slice A0_2 l0_2.length c0_2, .int .i64 a0_3, .int .i64 a0_4, .int .i64 a0_5, .int .i64 a0_6], .agg #[.int .i64 a1_0, .int .u32 a1_1, .slice A1_2 l1_2.length c1_2], .agg #[.int .i64 a2_0, .int .u32 a2_1, .slice A2_2 l2_2.length c2_2]] w fun e w' => e = .returned (.bool r) ∧ Below w.heap.size w w' := by
 have hu27 := Tryd.underlying27
 have hu30 := Tryd.underlying30
 have HR0_2 := Aside0.mk hr0_2
 have HC0_2 := Aside0.mk hc0_2
 clear hr0_2 hc0_2
 have HR1_2 := Aside0.mk hr1_2
 have HC1_2 := Aside0.mk hc1_2
 clear hr1_2 hc1_2
 have HR2_2 := Aside0.mk hr2_2
 have HC2_2 := Aside0.mk hc2_2
 clear hr2_2 hc2_2
 have HB := Aside0.mk (Below.refl w.heap.size w)
 have HG := Aside0.mk hG
 clear hG
 replace hr_ := Aside0.mk hr_
 have H : ((lodgerlaw10_awake.f k).bind fun t202 => (if t202 = true then ((lodgerref05_May.f k a0_0 a0_1 l0_2 a0_3 a0_4 a0_5 a0_6).bind fun t203 => (if t203 = true then ((lodgerref10_Few.f a1_0 a1_1 l1_2).bind fun t204 => (if t204 = true then ((lodgerref10_Few.f a2_0 a2_1 l2_2).bind fun t205 => (lodgerlaw10_AskChecks.j0 k (!t205) a0_0 a0_1 l0_2 a0_3 a0_4 a0_5 a0_6 a1_0 a1_1 l1_2 a2_0 a2_1 l2_2)) else (lodgerlaw10_AskChecks.j0 k true a0_0 a0_1 l0_2 a0_3 a0_4 a0_5 a0_6 a1_0 a1_1 l1_2 a2_0 a2_1 l2_2))) else (lodgerlaw10_AskChecks.j0 k true a0_0 a0_1 l0_2 a0_3 a0_4 a0_5 a0_6 a1_0 a1_1 l1_2 a2_0 a2_1 l2_2))) else (lodgerlaw10_AskChecks.j0 k true a0_0 a0_1 l0_2 a0_3 a0_4 a0_5 a0_6 a1_0 a1_1 l1_2 a2_0 a2_1 l2_2))) = some r := h
 clear h
 have HC4 := Aside0.mk H
 clear H
 go_enter Tryd.func3, Tryd.ntmps3
 go_upto_region 1 with (first | ((with_reducible refine gate_dst (N := 3) rfl ?_); refine box_event ?hg (N := 3) ?hd (cs := #[.int .u32 a0_0, .int .i64 a0_1, .slice A0_2 l0_2.length c0_2, .int .i64 a0_3, .int .i64 a0_4, .int .i64 a0_5, .int .i64 a0_6]) (t := 27) ?hr ?_; (case hd => rfl); (case hg => rfl); (case hr => first | (go_simp; done) | (go_simp; rfl)); intro gb199 hg w5 hbox hb; have n0_ := Aside0.mk (below_step (by repeat (first | (with_reducible first | exact HB.out | apply below_alloc | apply pw_below_drewN | apply below_drew1) | exact HB.out)) hb); have n1_ := Aside0.mk (hbox); have n2_ := Aside0.mk ((by rw [hg]; exact (below_size (by repeat (first | (with_reducible first | exact HB.out | apply below_alloc | apply pw_below_drewN | apply below_drew1) | exact HB.out))) : w.heap.size ≤ gb199)); have n3_ := Aside0.mk ((by rw [hg]; exact (below_size (by repeat (first | (with_reducible first | exact HB.out | apply below_alloc | apply pw_below_drewN | apply below_drew1) | exact HB.out))) : w.heap.size ≤ gb199)); clear HB; have HB := n0_; have BK199 := n1_; have GW199 := n2_; have GE199 := n3_; clear n0_ n1_ n2_ n3_; clear hb hbox hg) | ((with_reducible refine gate_dst (N := 4) rfl ?_); refine box_event ?hg (N := 4) ?hd (cs := #[.int .i64 a1_0, .int .u32 a1_1, .slice A1_2 l1_2.length c1_2]) (t := 30) ?hr ?_; (case hd => rfl); (case hg => rfl); (case hr => first | (go_simp; done) | (go_simp; rfl)); intro gb200 hg w6 hbox hb; have n0_ := Aside0.mk (blk_below (g := gb199) (o := .cells #[.int .u32 a0_0, .int .i64 a0_1, .slice A0_2 l0_2.length c0_2, .int .i64 a0_3, .int .i64 a0_4, .int .i64 a0_5, .int .i64 a0_6] 27 (0, 0)) (by (with_reducible repeat (first | refine blk_drewN ?_ _ | refine blk_drew ?_ | refine blk_alloc ?_ _)); exact BK199.out) hb); have n1_ := Aside0.mk (below_step (by repeat (first | (with_reducible first | exact HB.out | apply below_alloc | apply pw_below_drewN | apply below_drew1 | refine below_set ?_ GE199.out) | exact HB.out)) hb); have n2_ := Aside0.mk (hbox); have n3_ := Aside0.mk ((by rw [hg]; exact (below_size (by repeat (first | (with_reducible first | exact HB.out | apply below_alloc | apply pw_below_drewN | apply below_drew1 | refine below_set ?_ GE199.out) | exact HB.out))) : w.heap.size ≤ gb200)); have n4_ := Aside0.mk ((by rw [hg]; exact (below_size (by repeat (first | (with_reducible first | exact HB.out | apply below_alloc | apply pw_below_drewN | apply below_drew1 | refine below_set ?_ GE199.out) | exact HB.out))) : w.heap.size ≤ gb200)); have n5_ := Aside0.mk ((by rw [hg]; exact Nat.ne_of_lt (blk_lt (g := gb199) (o := .cells #[.int .u32 a0_0, .int .i64 a0_1, .slice A0_2 l0_2.length c0_2, .int .i64 a0_3, .int .i64 a0_4, .int .i64 a0_5, .int .i64 a0_6] 27 (0, 0)) (by (with_reducible repeat (first | refine blk_drewN ?_ _ | refine blk_drew ?_ | refine blk_alloc ?_ _)); exact BK199.out)) : gb199 ≠ gb200)); have n6_ := Aside0.mk ((by rw [hg]; exact Nat.ne_of_gt (blk_lt (g := gb199) (o := .cells #[.int .u32 a0_0, .int .i64 a0_1, .slice A0_2 l0_2.length c0_2, .int .i64 a0_3, .int .i64 a0_4, .int .i64 a0_5, .int .i64 a0_6] 27 (0, 0)) (by (with_reducible repeat (first | refine blk_drewN ?_ _ | refine blk_drew ?_ | refine blk_alloc ?_ _)); exact BK199.out)) : gb200 ≠ gb199)); clear BK199; clear HB; have BK199 := n0_; have HB := n1_; have BK200 := n2_; have GW200 := n3_; have GE200 := n4_; have NB199_200 := n5_; have NB200_199 := n6_; clear n0_ n1_ n2_ n3_ n4_ n5_ n6_; clear hb hbox hg) | ((with_reducible refine gate_dst (N := 5) rfl ?_); refine box_event ?hg (N := 5) ?hd (cs := #[.int .i64 a2_0, .int .u32 a2_1, .slice A2_2 l2_2.length c2_2]) (t := 30) ?hr ?_; (case hd => rfl); (case hg => rfl); (case hr => first | (go_simp; done) | (go_simp; rfl)); intro gb201 hg w7 hbox hb; have n0_ := Aside0.mk (blk_below (g := gb199) (o := .cells #[.int .u32 a0_0, .int .i64 a0_1, .slice A0_2 l0_2.length c0_2, .int .i64 a0_3, .int .i64 a0_4, .int .i64 a0_5, .int .i64 a0_6] 27 (0, 0)) (by (with_reducible repeat (first | refine blk_drewN ?_ _ | refine blk_drew ?_ | refine blk_alloc ?_ _)); exact BK199.out) hb); have n1_ := Aside0.mk (blk_below (g := gb200) (o := .cells #[.int .i64 a1_0, .int .u32 a1_1, .slice A1_2 l1_2.length c1_2] 30 (0, 0)) (by (with_reducible repeat (first | refine blk_drewN ?_ _ | refine blk_drew ?_ | refine blk_alloc ?_ _)); exact BK200.out) hb); have n2_ := Aside0.mk (below_step (by repeat (first | (with_reducible first | exact HB.out | apply below_alloc | apply pw_below_drewN | apply below_drew1 | refine below_set ?_ GE199.out | refine below_set ?_ GE200.out) | exact HB.out)) hb); have n3_ := Aside0.mk (hbox); have n4_ := Aside0.mk ((by rw [hg]; exact (below_size (by repeat (first | (with_reducible first | exact HB.out | apply below_alloc | apply pw_below_drewN | apply below_drew1 | refine below_set ?_ GE199.out | refine below_set ?_ GE200.out) | exact HB.out))) : w.heap.size ≤ gb201)); have n5_ := Aside0.mk ((by rw [hg]; exact (below_size (by repeat (first | (with_reducible first | exact HB.out | apply below_alloc | apply pw_below_drewN | apply below_drew1 | refine below_set ?_ GE199.out | refine below_set ?_ GE200.out) | exact HB.out))) : w.heap.size ≤ gb201)); have n6_ := Aside0.mk ((by rw [hg]; exact Nat.ne_of_lt (blk_lt (g := gb199) (o := .cells #[.int .u32 a0_0, .int .i64 a0_1, .slice A0_2 l0_2.length c0_2, .int .i64 a0_3, .int .i64 a0_4, .int .i64 a0_5, .int .i64 a0_6] 27 (0, 0)) (by (with_reducible repeat (first | refine blk_drewN ?_ _ | refine blk_drew ?_ | refine blk_alloc ?_ _)); exact BK199.out)) : gb199 ≠ gb201)); have n7_ := Aside0.mk ((by rw [hg]; exact Nat.ne_of_gt (blk_lt (g := gb199) (o := .cells #[.int .u32 a0_0, .int .i64 a0_1, .slice A0_2 l0_2.length c0_2, .int .i64 a0_3, .int .i64 a0_4, .int .i64 a0_5, .int .i64 a0_6] 27 (0, 0)) (by (with_reducible repeat (first | refine blk_drewN ?_ _ | refine blk_drew ?_ | refine blk_alloc ?_ _)); exact BK199.out)) : gb201 ≠ gb199)); have n8_ := Aside0.mk ((by rw [hg]; exact Nat.ne_of_lt (blk_lt (g := gb200) (o := .cells #[.int .i64 a1_0, .int .u32 a1_1, .slice A1_2 l1_2.length c1_2] 30 (0, 0)) (by (with_reducible repeat (first | refine blk_drewN ?_ _ | refine blk_drew ?_ | refine blk_alloc ?_ _)); exact BK200.out)) : gb200 ≠ gb201)); have n9_ := Aside0.mk ((by rw [hg]; exact Nat.ne_of_gt (blk_lt (g := gb200) (o := .cells #[.int .i64 a1_0, .int .u32 a1_1, .slice A1_2 l1_2.length c1_2] 30 (0, 0)) (by (with_reducible repeat (first | refine blk_drewN ?_ _ | refine blk_drew ?_ | refine blk_alloc ?_ _)); exact BK200.out)) : gb201 ≠ gb200)); clear BK199; clear BK200; clear HB; have BK199 := n0_; have BK200 := n1_; have HB := n2_; have BK201 := n3_; have GW201 := n4_; have GE201 := n5_; have NB199_201 := n6_; have NB201_199 := n7_; have NB200_201 := n8_; have NB201_200 := n9_; clear n0_ n1_ n2_ n3_ n4_ n5_ n6_ n7_ n8_ n9_; clear hb hbox hg))
 (try simp only [Act.put, List.setIfInBounds_toArray, List.set_cons_zero, List.set_cons_succ])
 go_cut [23] (fun v23 wc => ∃ (kq : Nat) (x23_3 : Bool), v23 = .bool x23_3 ∧ Aside0 (lodgerlaw10_AskChecks.j0 kq x23_3 a0_0 a0_1 l0_2 a0_3 a0_4 a0_5 a0_6 a1_0 a1_1 l1_2 a2_0 a2_1 l2_2 = some r) ∧ Aside0 (kq ≤ k) ∧ Aside0 (wc.heap[gb199]? = some (.cells #[.int .u32 a0_0, .int .i64 a0_1, (.slice A0_2 l0_2.length c0_2), .int .i64 a0_3, .int .i64 a0_4, .int .i64 a0_5, .int .i64 a0_6] 27 (0, 0))) ∧ Aside0 (wc.heap[gb200]? = some (.cells #[.int .i64 a1_0, .int .u32 a1_1, (.slice A1_2 l1_2.length c1_2)] 30 (0, 0))) ∧ Aside0 (wc.heap[gb201]? = some (.cells #[.int .i64 a2_0, .int .u32 a2_1, (.slice A2_2 l2_2.length c2_2)] 30 (0, 0))) ∧ Aside0 (Below w.heap.size w wc))
 case first =>
  have H := HC4.out
  clear HC4
  replace H := Option.bind_eq_some_iff.mp H
  obtain ⟨t202, A80, H⟩ := H
  replace H : (if t202 = true then ((lodgerref05_May.f k a0_0 a0_1 l0_2 a0_3 a0_4 a0_5 a0_6).bind fun t203 => (if t203 = true then ((lodgerref10_Few.f a1_0 a1_1 l1_2).bind fun t204 => (if t204 = true then ((lodgerref10_Few.f a2_0 a2_1 l2_2).bind fun t205 => (lodgerlaw10_AskChecks.j0 k (!t205) a0_0 a0_1 l0_2 a0_3 a0_4 a0_5 a0_6 a1_0 a1_1 l1_2 a2_0 a2_1 l2_2)) else (lodgerlaw10_AskChecks.j0 k true a0_0 a0_1 l0_2 a0_3 a0_4 a0_5 a0_6 a1_0 a1_1 l1_2 a2_0 a2_1 l2_2))) else (lodgerlaw10_AskChecks.j0 k true a0_0 a0_1 l0_2 a0_3 a0_4 a0_5 a0_6 a1_0 a1_1 l1_2 a2_0 a2_1 l2_2))) else (lodgerlaw10_AskChecks.j0 k true a0_0 a0_1 l0_2 a0_3 a0_4 a0_5 a0_6 a1_0 a1_1 l1_2 a2_0 a2_1 l2_2)) = some r := H
  have A8 := Aside0.mk A80
  clear A80
  by_cases c9 : t202 = true
  ·subst c9
   have H1 : ((lodgerref05_May.f k a0_0 a0_1 l0_2 a0_3 a0_4 a0_5 a0_6).bind fun t203 => (if t203 = true then ((lodgerref10_Few.f a1_0 a1_1 l1_2).bind fun t204 => (if t204 = true then ((lodgerref10_Few.f a2_0 a2_1 l2_2).bind fun t205 => (lodgerlaw10_AskChecks.j0 k (!t205) a0_0 a0_1 l0_2 a0_3 a0_4 a0_5 a0_6 a1_0 a1_1 l1_2 a2_0 a2_1 l2_2)) else (lodgerlaw10_AskChecks.j0 k true a0_0 a0_1 l0_2 a0_3 a0_4 a0_5 a0_6 a1_0 a1_1 l1_2 a2_0 a2_1 l2_2))) else (lodgerlaw10_AskChecks.j0 k true a0_0 a0_1 l0_2 a0_3 a0_4 a0_5 a0_6 a1_0 a1_1 l1_2 a2_0 a2_1 l2_2))) = some r := by rw [if_pos rfl] at H; exact H
   clear H
   have H := H1
   clear H1
   replace H := Option.bind_eq_some_iff.mp H
   obtain ⟨t203, A100, H⟩ := H
   replace H : (if t203 = true then ((lodgerref10_Few.f a1_0 a1_1 l1_2).bind fun t204 => (if t204 = true then ((lodgerref10_Few.f a2_0 a2_1 l2_2).bind fun t205 => (lodgerlaw10_AskChecks.j0 k (!t205) a0_0 a0_1 l0_2 a0_3 a0_4 a0_5 a0_6 a1_0 a1_1 l1_2 a2_0 a2_1 l2_2)) else (lodgerlaw10_AskChecks.j0 k true a0_0 a0_1 l0_2 a0_3 a0_4 a0_5 a0_6 a1_0 a1_1 l1_2 a2_0 a2_1 l2_2))) else (lodgerlaw10_AskChecks.j0 k true a0_0 a0_1 l0_2 a0_3 a0_4 a0_5 a0_6 a1_0 a1_1 l1_2 a2_0 a2_1 l2_2)) = some r := H
   have A10 := Aside0.mk A100
   clear A100
   by_cases c11 : t203 = true
   ·subst c11
    have H1 : ((lodgerref10_Few.f a1_0 a1_1 l1_2).bind fun t204 => (if t204 = true then ((lodgerref10_Few.f a2_0 a2_1 l2_2).bind fun t205 => (lodgerlaw10_AskChecks.j0 k (!t205) a0_0 a0_1 l0_2 a0_3 a0_4 a0_5 a0_6 a1_0 a1_1 l1_2 a2_0 a2_1 l2_2)) else (lodgerlaw10_AskChecks.j0 k true a0_0 a0_1 l0_2 a0_3 a0_4 a0_5 a0_6 a1_0 a1_1 l1_2 a2_0 a2_1 l2_2))) = some r := by rw [if_pos rfl] at H; exact H
    clear H
    have H := H1
    clear H1
    replace H := Option.bind_eq_some_iff.mp H
    obtain ⟨t204, A120, H⟩ := H
    replace H : (if t204 = true then ((lodgerref10_Few.f a2_0 a2_1 l2_2).bind fun t205 => (lodgerlaw10_AskChecks.j0 k (!t205) a0_0 a0_1 l0_2 a0_3 a0_4 a0_5 a0_6 a1_0 a1_1 l1_2 a2_0 a2_1 l2_2)) else (lodgerlaw10_AskChecks.j0 k true a0_0 a0_1 l0_2 a0_3 a0_4 a0_5 a0_6 a1_0 a1_1 l1_2 a2_0 a2_1 l2_2)) = some r := H
    have A12 := Aside0.mk A120
    clear A120
    by_cases c13 : t204 = true
    ·subst c13
     have H1 : ((lodgerref10_Few.f a2_0 a2_1 l2_2).bind fun t205 => (lodgerlaw10_AskChecks.j0 k (!t205) a0_0 a0_1 l0_2 a0_3 a0_4 a0_5 a0_6 a1_0 a1_1 l1_2 a2_0 a2_1 l2_2)) = some r := by rw [if_pos rfl] at H; exact H
     clear H
     have H := H1
     clear H1
     replace H := Option.bind_eq_some_iff.mp H
     obtain ⟨t205, A140, H⟩ := H
     replace H : (lodgerlaw10_AskChecks.j0 k (!t205) a0_0 a0_1 l0_2 a0_3 a0_4 a0_5 a0_6 a1_0 a1_1 l1_2 a2_0 a2_1 l2_2) = some r := H
     have A14 := Aside0.mk A140
     clear A140
     have H' := Aside0.mk H
     clear H
     go_wp2_with (first | ((with_reducible refine gate_callee (f := 8) rfl ?_); refine goesL_ (some 7) rfl rfl Tryd.func8 (by kernel_rfl) rfl #[] rfl (by (try simp only [List.map_toArray, List.map_cons, List.map_nil]); first | done | rfl | (simp only [List.length_drop, List.length_take]; rfl)) ?_; (with_reducible refine (lodgerlaw10_awake.calls k  true _ ?side1 A8.out).mono ?_); (case side1 => exact Lg_below HG.out (by repeat (first | (with_reducible first | exact HB.out | apply below_alloc | apply pw_below_drewN | apply below_drew1 | refine below_set ?_ GE199.out | refine below_set ?_ GE200.out | refine below_set ?_ GE201.out) | exact HB.out))); rintro e w15 ⟨rfl, hb⟩; refine ⟨_, rfl, ?_⟩; have n0_ := Aside0.mk (blk_below (g := gb199) (o := .cells #[.int .u32 a0_0, .int .i64 a0_1, .slice A0_2 l0_2.length c0_2, .int .i64 a0_3, .int .i64 a0_4, .int .i64 a0_5, .int .i64 a0_6] 27 (0, 0)) (by (with_reducible repeat (first | refine blk_drewN ?_ _ | refine blk_drew ?_ | refine blk_alloc ?_ _)); exact BK199.out) hb); have n1_ := Aside0.mk (blk_below (g := gb200) (o := .cells #[.int .i64 a1_0, .int .u32 a1_1, .slice A1_2 l1_2.length c1_2] 30 (0, 0)) (by (with_reducible repeat (first | refine blk_drewN ?_ _ | refine blk_drew ?_ | refine blk_alloc ?_ _)); exact BK200.out) hb); have n2_ := Aside0.mk (blk_below (g := gb201) (o := .cells #[.int .i64 a2_0, .int .u32 a2_1, .slice A2_2 l2_2.length c2_2] 30 (0, 0)) (by (with_reducible repeat (first | refine blk_drewN ?_ _ | refine blk_drew ?_ | refine blk_alloc ?_ _)); exact BK201.out) hb); have n3_ := Aside0.mk (below_step (by repeat (first | (with_reducible first | exact HB.out | apply below_alloc | apply pw_below_drewN | apply below_drew1 | refine below_set ?_ GE199.out | refine below_set ?_ GE200.out | refine below_set ?_ GE201.out) | exact HB.out)) hb); clear BK199; clear BK200; clear BK201; clear HB; have BK199 := n0_; have BK200 := n1_; have BK201 := n2_; have HB := n3_; clear n0_ n1_ n2_ n3_; (try clear hb); (try clear hb2); (try clear hk); (try clear hi); have hnb16 := NB199_200.out; have hnc16 := NB200_199.out; have hnb17 := NB199_201.out; have hnc17 := NB201_199.out; have hcz18_0 : w15.cell? ⟨gb199, 0, none⟩ = some (.int .u32 a0_0) := (blk_cell BK199.out 0).trans rfl; have hcz18_1 : w15.cell? ⟨gb199, 1, none⟩ = some (.int .i64 a0_1) := (blk_cell BK199.out 1).trans rfl; have hcz18_2 : w15.cell? ⟨gb199, 2, none⟩ = some (.slice A0_2 l0_2.length c0_2) := (blk_cell BK199.out 2).trans rfl; have hcz18_3 : w15.cell? ⟨gb199, 3, none⟩ = some (.int .i64 a0_3) := (blk_cell BK199.out 3).trans rfl; have hcz18_4 : w15.cell? ⟨gb199, 4, none⟩ = some (.int .i64 a0_4) := (blk_cell BK199.out 4).trans rfl; have hcz18_5 : w15.cell? ⟨gb199, 5, none⟩ = some (.int .i64 a0_5) := (blk_cell BK199.out 5).trans rfl; have hcz18_6 : w15.cell? ⟨gb199, 6, none⟩ = some (.int .i64 a0_6) := (blk_cell BK199.out 6).trans rfl; have hfz18_0 := blk_frozen BK199.out 0; have hfz18_1 := blk_frozen BK199.out 1; have hfz18_2 := blk_frozen BK199.out 2; have hfz18_3 := blk_frozen BK199.out 3; have hfz18_4 := blk_frozen BK199.out 4; have hfz18_5 := blk_frozen BK199.out 5; have hfz18_6 := blk_frozen BK199.out 6) | (go_at_call 9; (with_reducible refine (lodgerref05_May.calls k a0_0 a0_1 _ _ l0_2 a0_3 a0_4 a0_5 a0_6 true _ ?side1 ?side2 A10.out).mono ?_); (case side1 => repeat (first | exact (Kd.C_below HR0_2.out HB.out) | (with_reducible refine Kd.C_alloc ?_ _) | (with_reducible refine Kd.C_drewN ?_ _) | (with_reducible refine Kd.C_drew ?_))); (case side2 => exact HC0_2.out); rintro e w19 ⟨rfl, hb⟩; have n0_ := Aside0.mk (blk_below (g := gb199) (o := .cells #[.int .u32 a0_0, .int .i64 a0_1, .slice A0_2 l0_2.length c0_2, .int .i64 a0_3, .int .i64 a0_4, .int .i64 a0_5, .int .i64 a0_6] 27 (0, 0)) (by (with_reducible repeat (first | refine blk_drewN ?_ _ | refine blk_drew ?_ | refine blk_alloc ?_ _)); exact BK199.out) hb); have n1_ := Aside0.mk (blk_below (g := gb200) (o := .cells #[.int .i64 a1_0, .int .u32 a1_1, .slice A1_2 l1_2.length c1_2] 30 (0, 0)) (by (with_reducible repeat (first | refine blk_drewN ?_ _ | refine blk_drew ?_ | refine blk_alloc ?_ _)); exact BK200.out) hb); have n2_ := Aside0.mk (blk_below (g := gb201) (o := .cells #[.int .i64 a2_0, .int .u32 a2_1, .slice A2_2 l2_2.length c2_2] 30 (0, 0)) (by (with_reducible repeat (first | refine blk_drewN ?_ _ | refine blk_drew ?_ | refine blk_alloc ?_ _)); exact BK201.out) hb); have n3_ := Aside0.mk (below_step (by repeat (first | (with_reducible first | exact HB.out | apply below_alloc | apply pw_below_drewN | apply below_drew1 | refine below_set ?_ GE199.out | refine below_set ?_ GE200.out | refine below_set ?_ GE201.out) | exact HB.out)) hb); clear BK199; clear BK200; clear BK201; clear HB; have BK199 := n0_; have BK200 := n1_; have BK201 := n2_; have HB := n3_; clear n0_ n1_ n2_ n3_; (try clear hb); (try clear hb2); (try clear hk); (try clear hi); have hnb20 := NB200_201.out; have hnc20 := NB201_200.out; have hcz21_0 : w19.cell? ⟨gb200, 0, none⟩ = some (.int .i64 a1_0) := (blk_cell BK200.out 0).trans rfl; have hcz21_1 : w19.cell? ⟨gb200, 1, none⟩ = some (.int .u32 a1_1) := (blk_cell BK200.out 1).trans rfl; have hcz21_2 : w19.cell? ⟨gb200, 2, none⟩ = some (.slice A1_2 l1_2.length c1_2) := (blk_cell BK200.out 2).trans rfl; have hfz21_0 := blk_frozen BK200.out 0; have hfz21_1 := blk_frozen BK200.out 1; have hfz21_2 := blk_frozen BK200.out 2) | (go_at_call 10; (with_reducible refine (lodgerref10_Few.calls a1_0 a1_1 _ _ l1_2 true _ ?side1 ?side2 A12.out).mono ?_); (case side1 => repeat (first | exact (Kd.C_below HR1_2.out HB.out) | (with_reducible refine Kd.C_alloc ?_ _) | (with_reducible refine Kd.C_drewN ?_ _) | (with_reducible refine Kd.C_drew ?_))); (case side2 => exact HC1_2.out); rintro e w22 ⟨rfl, hb⟩; have n0_ := Aside0.mk (blk_below (g := gb199) (o := .cells #[.int .u32 a0_0, .int .i64 a0_1, .slice A0_2 l0_2.length c0_2, .int .i64 a0_3, .int .i64 a0_4, .int .i64 a0_5, .int .i64 a0_6] 27 (0, 0)) (by (with_reducible repeat (first | refine blk_drewN ?_ _ | refine blk_drew ?_ | refine blk_alloc ?_ _)); exact BK199.out) hb); have n1_ := Aside0.mk (blk_below (g := gb200) (o := .cells #[.int .i64 a1_0, .int .u32 a1_1, .slice A1_2 l1_2.length c1_2] 30 (0, 0)) (by (with_reducible repeat (first | refine blk_drewN ?_ _ | refine blk_drew ?_ | refine blk_alloc ?_ _)); exact BK200.out) hb); have n2_ := Aside0.mk (blk_below (g := gb201) (o := .cells #[.int .i64 a2_0, .int .u32 a2_1, .slice A2_2 l2_2.length c2_2] 30 (0, 0)) (by (with_reducible repeat (first | refine blk_drewN ?_ _ | refine blk_drew ?_ | refine blk_alloc ?_ _)); exact BK201.out) hb); have n3_ := Aside0.mk (below_step (by repeat (first | (with_reducible first | exact HB.out | apply below_alloc | apply pw_below_drewN | apply below_drew1 | refine below_set ?_ GE199.out | refine below_set ?_ GE200.out | refine below_set ?_ GE201.out) | exact HB.out)) hb); clear BK199; clear BK200; clear BK201; clear HB; have BK199 := n0_; have BK200 := n1_; have BK201 := n2_; have HB := n3_; clear n0_ n1_ n2_ n3_; (try clear hb); (try clear hb2); (try clear hk); (try clear hi); have hcz23_0 : w22.cell? ⟨gb201, 0, none⟩ = some (.int .i64 a2_0) := (blk_cell BK201.out 0).trans rfl; have hcz23_1 : w22.cell? ⟨gb201, 1, none⟩ = some (.int .u32 a2_1) := (blk_cell BK201.out 1).trans rfl; have hcz23_2 : w22.cell? ⟨gb201, 2, none⟩ = some (.slice A2_2 l2_2.length c2_2) := (blk_cell BK201.out 2).trans rfl; have hfz23_0 := blk_frozen BK201.out 0; have hfz23_1 := blk_frozen BK201.out 1; have hfz23_2 := blk_frozen BK201.out 2) | (go_at_call 10; (with_reducible refine (lodgerref10_Few.calls a2_0 a2_1 _ _ l2_2 t205 _ ?side1 ?side2 A14.out).mono ?_); (case side1 => repeat (first | exact (Kd.C_below HR2_2.out HB.out) | (with_reducible refine Kd.C_alloc ?_ _) | (with_reducible refine Kd.C_drewN ?_ _) | (with_reducible refine Kd.C_drew ?_))); (case side2 => exact HC2_2.out); rintro e w24 ⟨rfl, hb⟩; have n0_ := Aside0.mk (blk_below (g := gb199) (o := .cells #[.int .u32 a0_0, .int .i64 a0_1, .slice A0_2 l0_2.length c0_2, .int .i64 a0_3, .int .i64 a0_4, .int .i64 a0_5, .int .i64 a0_6] 27 (0, 0)) (by (with_reducible repeat (first | refine blk_drewN ?_ _ | refine blk_drew ?_ | refine blk_alloc ?_ _)); exact BK199.out) hb); have n1_ := Aside0.mk (blk_below (g := gb200) (o := .cells #[.int .i64 a1_0, .int .u32 a1_1, .slice A1_2 l1_2.length c1_2] 30 (0, 0)) (by (with_reducible repeat (first | refine blk_drewN ?_ _ | refine blk_drew ?_ | refine blk_alloc ?_ _)); exact BK200.out) hb); have n2_ := Aside0.mk (blk_below (g := gb201) (o := .cells #[.int .i64 a2_0, .int .u32 a2_1, .slice A2_2 l2_2.length c2_2] 30 (0, 0)) (by (with_reducible repeat (first | refine blk_drewN ?_ _ | refine blk_drew ?_ | refine blk_alloc ?_ _)); exact BK201.out) hb); have n3_ := Aside0.mk (below_step (by repeat (first | (with_reducible first | exact HB.out | apply below_alloc | apply pw_below_drewN | apply below_drew1 | refine below_set ?_ GE199.out | refine below_set ?_ GE200.out | refine below_set ?_ GE201.out) | exact HB.out)) hb); clear BK199; clear BK200; clear BK201; clear HB; have BK199 := n0_; have BK200 := n1_; have BK201 := n2_; have HB := n3_; clear n0_ n1_ n2_ n3_; (try clear hb); (try clear hb2); (try clear hk); (try clear hi)))
     go_meet
     case rel => exact ⟨_, (!t205), (by first | rfl | (simp; done) | (simp [*]; done)), H', ⟨by first | omega | exact Nat.le_refl _⟩, ⟨by (with_reducible repeat (first | refine blk_drewN ?_ _ | refine blk_drew ?_ | refine blk_alloc ?_ _)); exact BK199.out⟩, ⟨by (with_reducible repeat (first | refine blk_drewN ?_ _ | refine blk_drew ?_ | refine blk_alloc ?_ _)); exact BK200.out⟩, ⟨by (with_reducible repeat (first | refine blk_drewN ?_ _ | refine blk_drew ?_ | refine blk_alloc ?_ _)); exact BK201.out⟩, ⟨by repeat (first | (with_reducible first | exact HB.out | apply below_alloc | apply pw_below_drewN | apply below_drew1 | refine below_set ?_ GE199.out | refine below_set ?_ GE200.out | refine below_set ?_ GE201.out) | exact HB.out)⟩⟩
    ·replace c13 := Bool.eq_false_iff.mpr c13
     subst c13
     have H1 : (lodgerlaw10_AskChecks.j0 k true a0_0 a0_1 l0_2 a0_3 a0_4 a0_5 a0_6 a1_0 a1_1 l1_2 a2_0 a2_1 l2_2) = some r := by rw [if_neg (show ¬ (false = true) by decide)] at H; exact H
     clear H
     have H := H1
     clear H1
     have H' := Aside0.mk H
     clear H
     go_wp2_with (first | ((with_reducible refine gate_callee (f := 8) rfl ?_); refine goesL_ (some 7) rfl rfl Tryd.func8 (by kernel_rfl) rfl #[] rfl (by (try simp only [List.map_toArray, List.map_cons, List.map_nil]); first | done | rfl | (simp only [List.length_drop, List.length_take]; rfl)) ?_; (with_reducible refine (lodgerlaw10_awake.calls k  true _ ?side1 A8.out).mono ?_); (case side1 => exact Lg_below HG.out (by repeat (first | (with_reducible first | exact HB.out | apply below_alloc | apply pw_below_drewN | apply below_drew1 | refine below_set ?_ GE199.out | refine below_set ?_ GE200.out | refine below_set ?_ GE201.out) | exact HB.out))); rintro e w25 ⟨rfl, hb⟩; refine ⟨_, rfl, ?_⟩; have n0_ := Aside0.mk (blk_below (g := gb199) (o := .cells #[.int .u32 a0_0, .int .i64 a0_1, .slice A0_2 l0_2.length c0_2, .int .i64 a0_3, .int .i64 a0_4, .int .i64 a0_5, .int .i64 a0_6] 27 (0, 0)) (by (with_reducible repeat (first | refine blk_drewN ?_ _ | refine blk_drew ?_ | refine blk_alloc ?_ _)); exact BK199.out) hb); have n1_ := Aside0.mk (blk_below (g := gb200) (o := .cells #[.int .i64 a1_0, .int .u32 a1_1, .slice A1_2 l1_2.length c1_2] 30 (0, 0)) (by (with_reducible repeat (first | refine blk_drewN ?_ _ | refine blk_drew ?_ | refine blk_alloc ?_ _)); exact BK200.out) hb); have n2_ := Aside0.mk (blk_below (g := gb201) (o := .cells #[.int .i64 a2_0, .int .u32 a2_1, .slice A2_2 l2_2.length c2_2] 30 (0, 0)) (by (with_reducible repeat (first | refine blk_drewN ?_ _ | refine blk_drew ?_ | refine blk_alloc ?_ _)); exact BK201.out) hb); have n3_ := Aside0.mk (below_step (by repeat (first | (with_reducible first | exact HB.out | apply below_alloc | apply pw_below_drewN | apply below_drew1 | refine below_set ?_ GE199.out | refine below_set ?_ GE200.out | refine below_set ?_ GE201.out) | exact HB.out)) hb); clear BK199; clear BK200; clear BK201; clear HB; have BK199 := n0_; have BK200 := n1_; have BK201 := n2_; have HB := n3_; clear n0_ n1_ n2_ n3_; (try clear hb); (try clear hb2); (try clear hk); (try clear hi); have hnb26 := NB199_200.out; have hnc26 := NB200_199.out; have hnb27 := NB199_201.out; have hnc27 := NB201_199.out; have hcz28_0 : w25.cell? ⟨gb199, 0, none⟩ = some (.int .u32 a0_0) := (blk_cell BK199.out 0).trans rfl; have hcz28_1 : w25.cell? ⟨gb199, 1, none⟩ = some (.int .i64 a0_1) := (blk_cell BK199.out 1).trans rfl; have hcz28_2 : w25.cell? ⟨gb199, 2, none⟩ = some (.slice A0_2 l0_2.length c0_2) := (blk_cell BK199.out 2).trans rfl; have hcz28_3 : w25.cell? ⟨gb199, 3, none⟩ = some (.int .i64 a0_3) := (blk_cell BK199.out 3).trans rfl; have hcz28_4 : w25.cell? ⟨gb199, 4, none⟩ = some (.int .i64 a0_4) := (blk_cell BK199.out 4).trans rfl; have hcz28_5 : w25.cell? ⟨gb199, 5, none⟩ = some (.int .i64 a0_5) := (blk_cell BK199.out 5).trans rfl; have hcz28_6 : w25.cell? ⟨gb199, 6, none⟩ = some (.int .i64 a0_6) := (blk_cell BK199.out 6).trans rfl; have hfz28_0 := blk_frozen BK199.out 0; have hfz28_1 := blk_frozen BK199.out 1; have hfz28_2 := blk_frozen BK199.out 2; have hfz28_3 := blk_frozen BK199.out 3; have hfz28_4 := blk_frozen BK199.out 4; have hfz28_5 := blk_frozen BK199.out 5; have hfz28_6 := blk_frozen BK199.out 6) | (go_at_call 9; (with_reducible refine (lodgerref05_May.calls k a0_0 a0_1 _ _ l0_2 a0_3 a0_4 a0_5 a0_6 true _ ?side1 ?side2 A10.out).mono ?_); (case side1 => repeat (first | exact (Kd.C_below HR0_2.out HB.out) | (with_reducible refine Kd.C_alloc ?_ _) | (with_reducible refine Kd.C_drewN ?_ _) | (with_reducible refine Kd.C_drew ?_))); (case side2 => exact HC0_2.out); rintro e w29 ⟨rfl, hb⟩; have n0_ := Aside0.mk (blk_below (g := gb199) (o := .cells #[.int .u32 a0_0, .int .i64 a0_1, .slice A0_2 l0_2.length c0_2, .int .i64 a0_3, .int .i64 a0_4, .int .i64 a0_5, .int .i64 a0_6] 27 (0, 0)) (by (with_reducible repeat (first | refine blk_drewN ?_ _ | refine blk_drew ?_ | refine blk_alloc ?_ _)); exact BK199.out) hb); have n1_ := Aside0.mk (blk_below (g := gb200) (o := .cells #[.int .i64 a1_0, .int .u32 a1_1, .slice A1_2 l1_2.length c1_2] 30 (0, 0)) (by (with_reducible repeat (first | refine blk_drewN ?_ _ | refine blk_drew ?_ | refine blk_alloc ?_ _)); exact BK200.out) hb); have n2_ := Aside0.mk (blk_below (g := gb201) (o := .cells #[.int .i64 a2_0, .int .u32 a2_1, .slice A2_2 l2_2.length c2_2] 30 (0, 0)) (by (with_reducible repeat (first | refine blk_drewN ?_ _ | refine blk_drew ?_ | refine blk_alloc ?_ _)); exact BK201.out) hb); have n3_ := Aside0.mk (below_step (by repeat (first | (with_reducible first | exact HB.out | apply below_alloc | apply pw_below_drewN | apply below_drew1 | refine below_set ?_ GE199.out | refine below_set ?_ GE200.out | refine below_set ?_ GE201.out) | exact HB.out)) hb); clear BK199; clear BK200; clear BK201; clear HB; have BK199 := n0_; have BK200 := n1_; have BK201 := n2_; have HB := n3_; clear n0_ n1_ n2_ n3_; (try clear hb); (try clear hb2); (try clear hk); (try clear hi); have hnb30 := NB200_201.out; have hnc30 := NB201_200.out; have hcz31_0 : w29.cell? ⟨gb200, 0, none⟩ = some (.int .i64 a1_0) := (blk_cell BK200.out 0).trans rfl; have hcz31_1 : w29.cell? ⟨gb200, 1, none⟩ = some (.int .u32 a1_1) := (blk_cell BK200.out 1).trans rfl; have hcz31_2 : w29.cell? ⟨gb200, 2, none⟩ = some (.slice A1_2 l1_2.length c1_2) := (blk_cell BK200.out 2).trans rfl; have hfz31_0 := blk_frozen BK200.out 0; have hfz31_1 := blk_frozen BK200.out 1; have hfz31_2 := blk_frozen BK200.out 2) | (go_at_call 10; (with_reducible refine (lodgerref10_Few.calls a1_0 a1_1 _ _ l1_2 false _ ?side1 ?side2 A12.out).mono ?_); (case side1 => repeat (first | exact (Kd.C_below HR1_2.out HB.out) | (with_reducible refine Kd.C_alloc ?_ _) | (with_reducible refine Kd.C_drewN ?_ _) | (with_reducible refine Kd.C_drew ?_))); (case side2 => exact HC1_2.out); rintro e w32 ⟨rfl, hb⟩; have n0_ := Aside0.mk (blk_below (g := gb199) (o := .cells #[.int .u32 a0_0, .int .i64 a0_1, .slice A0_2 l0_2.length c0_2, .int .i64 a0_3, .int .i64 a0_4, .int .i64 a0_5, .int .i64 a0_6] 27 (0, 0)) (by (with_reducible repeat (first | refine blk_drewN ?_ _ | refine blk_drew ?_ | refine blk_alloc ?_ _)); exact BK199.out) hb); have n1_ := Aside0.mk (blk_below (g := gb200) (o := .cells #[.int .i64 a1_0, .int .u32 a1_1, .slice A1_2 l1_2.length c1_2] 30 (0, 0)) (by (with_reducible repeat (first | refine blk_drewN ?_ _ | refine blk_drew ?_ | refine blk_alloc ?_ _)); exact BK200.out) hb); have n2_ := Aside0.mk (blk_below (g := gb201) (o := .cells #[.int .i64 a2_0, .int .u32 a2_1, .slice A2_2 l2_2.length c2_2] 30 (0, 0)) (by (with_reducible repeat (first | refine blk_drewN ?_ _ | refine blk_drew ?_ | refine blk_alloc ?_ _)); exact BK201.out) hb); have n3_ := Aside0.mk (below_step (by repeat (first | (with_reducible first | exact HB.out | apply below_alloc | apply pw_below_drewN | apply below_drew1 | refine below_set ?_ GE199.out | refine below_set ?_ GE200.out | refine below_set ?_ GE201.out) | exact HB.out)) hb); clear BK199; clear BK200; clear BK201; clear HB; have BK199 := n0_; have BK200 := n1_; have BK201 := n2_; have HB := n3_; clear n0_ n1_ n2_ n3_; (try clear hb); (try clear hb2); (try clear hk); (try clear hi)))
     go_meet
     case rel => exact ⟨_, (true), (by first | rfl | (simp; done) | (simp [*]; done)), H', ⟨by first | omega | exact Nat.le_refl _⟩, ⟨by (with_reducible repeat (first | refine blk_drewN ?_ _ | refine blk_drew ?_ | refine blk_alloc ?_ _)); exact BK199.out⟩, ⟨by (with_reducible repeat (first | refine blk_drewN ?_ _ | refine blk_drew ?_ | refine blk_alloc ?_ _)); exact BK200.out⟩, ⟨by (with_reducible repeat (first | refine blk_drewN ?_ _ | refine blk_drew ?_ | refine blk_alloc ?_ _)); exact BK201.out⟩, ⟨by repeat (first | (with_reducible first | exact HB.out | apply below_alloc | apply pw_below_drewN | apply below_drew1 | refine below_set ?_ GE199.out | refine below_set ?_ GE200.out | refine below_set ?_ GE201.out) | exact HB.out)⟩⟩
   ·replace c11 := Bool.eq_false_iff.mpr c11
    subst c11
    have H1 : (lodgerlaw10_AskChecks.j0 k true a0_0 a0_1 l0_2 a0_3 a0_4 a0_5 a0_6 a1_0 a1_1 l1_2 a2_0 a2_1 l2_2) = some r := by rw [if_neg (show ¬ (false = true) by decide)] at H; exact H
    clear H
    have H := H1
    clear H1
    have H' := Aside0.mk H
    clear H
    go_wp2_with (first | ((with_reducible refine gate_callee (f := 8) rfl ?_); refine goesL_ (some 7) rfl rfl Tryd.func8 (by kernel_rfl) rfl #[] rfl (by (try simp only [List.map_toArray, List.map_cons, List.map_nil]); first | done | rfl | (simp only [List.length_drop, List.length_take]; rfl)) ?_; (with_reducible refine (lodgerlaw10_awake.calls k  true _ ?side1 A8.out).mono ?_); (case side1 => exact Lg_below HG.out (by repeat (first | (with_reducible first | exact HB.out | apply below_alloc | apply pw_below_drewN | apply below_drew1 | refine below_set ?_ GE199.out | refine below_set ?_ GE200.out | refine below_set ?_ GE201.out) | exact HB.out))); rintro e w33 ⟨rfl, hb⟩; refine ⟨_, rfl, ?_⟩; have n0_ := Aside0.mk (blk_below (g := gb199) (o := .cells #[.int .u32 a0_0, .int .i64 a0_1, .slice A0_2 l0_2.length c0_2, .int .i64 a0_3, .int .i64 a0_4, .int .i64 a0_5, .int .i64 a0_6] 27 (0, 0)) (by (with_reducible repeat (first | refine blk_drewN ?_ _ | refine blk_drew ?_ | refine blk_alloc ?_ _)); exact BK199.out) hb); have n1_ := Aside0.mk (blk_below (g := gb200) (o := .cells #[.int .i64 a1_0, .int .u32 a1_1, .slice A1_2 l1_2.length c1_2] 30 (0, 0)) (by (with_reducible repeat (first | refine blk_drewN ?_ _ | refine blk_drew ?_ | refine blk_alloc ?_ _)); exact BK200.out) hb); have n2_ := Aside0.mk (blk_below (g := gb201) (o := .cells #[.int .i64 a2_0, .int .u32 a2_1, .slice A2_2 l2_2.length c2_2] 30 (0, 0)) (by (with_reducible repeat (first | refine blk_drewN ?_ _ | refine blk_drew ?_ | refine blk_alloc ?_ _)); exact BK201.out) hb); have n3_ := Aside0.mk (below_step (by repeat (first | (with_reducible first | exact HB.out | apply below_alloc | apply pw_below_drewN | apply below_drew1 | refine below_set ?_ GE199.out | refine below_set ?_ GE200.out | refine below_set ?_ GE201.out) | exact HB.out)) hb); clear BK199; clear BK200; clear BK201; clear HB; have BK199 := n0_; have BK200 := n1_; have BK201 := n2_; have HB := n3_; clear n0_ n1_ n2_ n3_; (try clear hb); (try clear hb2); (try clear hk); (try clear hi); have hnb34 := NB199_200.out; have hnc34 := NB200_199.out; have hnb35 := NB199_201.out; have hnc35 := NB201_199.out; have hcz36_0 : w33.cell? ⟨gb199, 0, none⟩ = some (.int .u32 a0_0) := (blk_cell BK199.out 0).trans rfl; have hcz36_1 : w33.cell? ⟨gb199, 1, none⟩ = some (.int .i64 a0_1) := (blk_cell BK199.out 1).trans rfl; have hcz36_2 : w33.cell? ⟨gb199, 2, none⟩ = some (.slice A0_2 l0_2.length c0_2) := (blk_cell BK199.out 2).trans rfl; have hcz36_3 : w33.cell? ⟨gb199, 3, none⟩ = some (.int .i64 a0_3) := (blk_cell BK199.out 3).trans rfl; have hcz36_4 : w33.cell? ⟨gb199, 4, none⟩ = some (.int .i64 a0_4) := (blk_cell BK199.out 4).trans rfl; have hcz36_5 : w33.cell? ⟨gb199, 5, none⟩ = some (.int .i64 a0_5) := (blk_cell BK199.out 5).trans rfl; have hcz36_6 : w33.cell? ⟨gb199, 6, none⟩ = some (.int .i64 a0_6) := (blk_cell BK199.out 6).trans rfl; have hfz36_0 := blk_frozen BK199.out 0; have hfz36_1 := blk_frozen BK199.out 1; have hfz36_2 := blk_frozen BK199.out 2; have hfz36_3 := blk_frozen BK199.out 3; have hfz36_4 := blk_frozen BK199.out 4; have hfz36_5 := blk_frozen BK199.out 5; have hfz36_6 := blk_frozen BK199.out 6) | (go_at_call 9; (with_reducible refine (lodgerref05_May.calls k a0_0 a0_1 _ _ l0_2 a0_3 a0_4 a0_5 a0_6 false _ ?side1 ?side2 A10.out).mono ?_); (case side1 => repeat (first | exact (Kd.C_below HR0_2.out HB.out) | (with_reducible refine Kd.C_alloc ?_ _) | (with_reducible refine Kd.C_drewN ?_ _) | (with_reducible refine Kd.C_drew ?_))); (case side2 => exact HC0_2.out); rintro e w37 ⟨rfl, hb⟩; have n0_ := Aside0.mk (blk_below (g := gb199) (o := .cells #[.int .u32 a0_0, .int .i64 a0_1, .slice A0_2 l0_2.length c0_2, .int .i64 a0_3, .int .i64 a0_4, .int .i64 a0_5, .int .i64 a0_6] 27 (0, 0)) (by (with_reducible repeat (first | refine blk_drewN ?_ _ | refine blk_drew ?_ | refine blk_alloc ?_ _)); exact BK199.out) hb); have n1_ := Aside0.mk (blk_below (g := gb200) (o := .cells #[.int .i64 a1_0, .int .u32 a1_1, .slice A1_2 l1_2.length c1_2] 30 (0, 0)) (by (with_reducible repeat (first | refine blk_drewN ?_ _ | refine blk_drew ?_ | refine blk_alloc ?_ _)); exact BK200.out) hb); have n2_ := Aside0.mk (blk_below (g := gb201) (o := .cells #[.int .i64 a2_0, .int .u32 a2_1, .slice A2_2 l2_2.length c2_2] 30 (0, 0)) (by (with_reducible repeat (first | refine blk_drewN ?_ _ | refine blk_drew ?_ | refine blk_alloc ?_ _)); exact BK201.out) hb); have n3_ := Aside0.mk (below_step (by repeat (first | (with_reducible first | exact HB.out | apply below_alloc | apply pw_below_drewN | apply below_drew1 | refine below_set ?_ GE199.out | refine below_set ?_ GE200.out | refine below_set ?_ GE201.out) | exact HB.out)) hb); clear BK199; clear BK200; clear BK201; clear HB; have BK199 := n0_; have BK200 := n1_; have BK201 := n2_; have HB := n3_; clear n0_ n1_ n2_ n3_; (try clear hb); (try clear hb2); (try clear hk); (try clear hi)))
    go_meet
    case rel => exact ⟨_, (true), (by first | rfl | (simp; done) | (simp [*]; done)), H', ⟨by first | omega | exact Nat.le_refl _⟩, ⟨by (with_reducible repeat (first | refine blk_drewN ?_ _ | refine blk_drew ?_ | refine blk_alloc ?_ _)); exact BK199.out⟩, ⟨by (with_reducible repeat (first | refine blk_drewN ?_ _ | refine blk_drew ?_ | refine blk_alloc ?_ _)); exact BK200.out⟩, ⟨by (with_reducible repeat (first | refine blk_drewN ?_ _ | refine blk_drew ?_ | refine blk_alloc ?_ _)); exact BK201.out⟩, ⟨by repeat (first | (with_reducible first | exact HB.out | apply below_alloc | apply pw_below_drewN | apply below_drew1 | refine below_set ?_ GE199.out | refine below_set ?_ GE200.out | refine below_set ?_ GE201.out) | exact HB.out)⟩⟩
  ·replace c9 := Bool.eq_false_iff.mpr c9
   subst c9
   have H1 : (lodgerlaw10_AskChecks.j0 k true a0_0 a0_1 l0_2 a0_3 a0_4 a0_5 a0_6 a1_0 a1_1 l1_2 a2_0 a2_1 l2_2) = some r := by rw [if_neg (show ¬ (false = true) by decide)] at H; exact H
   clear H
   have H := H1
   clear H1
   have H' := Aside0.mk H
   clear H
   go_wp2_with (first | ((with_reducible refine gate_callee (f := 8) rfl ?_); refine goesL_ (some 7) rfl rfl Tryd.func8 (by kernel_rfl) rfl #[] rfl (by (try simp only [List.map_toArray, List.map_cons, List.map_nil]); first | done | rfl | (simp only [List.length_drop, List.length_take]; rfl)) ?_; (with_reducible refine (lodgerlaw10_awake.calls k  false _ ?side1 A8.out).mono ?_); (case side1 => exact Lg_below HG.out (by repeat (first | (with_reducible first | exact HB.out | apply below_alloc | apply pw_below_drewN | apply below_drew1 | refine below_set ?_ GE199.out | refine below_set ?_ GE200.out | refine below_set ?_ GE201.out) | exact HB.out))); rintro e w38 ⟨rfl, hb⟩; refine ⟨_, rfl, ?_⟩; have n0_ := Aside0.mk (blk_below (g := gb199) (o := .cells #[.int .u32 a0_0, .int .i64 a0_1, .slice A0_2 l0_2.length c0_2, .int .i64 a0_3, .int .i64 a0_4, .int .i64 a0_5, .int .i64 a0_6] 27 (0, 0)) (by (with_reducible repeat (first | refine blk_drewN ?_ _ | refine blk_drew ?_ | refine blk_alloc ?_ _)); exact BK199.out) hb); have n1_ := Aside0.mk (blk_below (g := gb200) (o := .cells #[.int .i64 a1_0, .int .u32 a1_1, .slice A1_2 l1_2.length c1_2] 30 (0, 0)) (by (with_reducible repeat (first | refine blk_drewN ?_ _ | refine blk_drew ?_ | refine blk_alloc ?_ _)); exact BK200.out) hb); have n2_ := Aside0.mk (blk_below (g := gb201) (o := .cells #[.int .i64 a2_0, .int .u32 a2_1, .slice A2_2 l2_2.length c2_2] 30 (0, 0)) (by (with_reducible repeat (first | refine blk_drewN ?_ _ | refine blk_drew ?_ | refine blk_alloc ?_ _)); exact BK201.out) hb); have n3_ := Aside0.mk (below_step (by repeat (first | (with_reducible first | exact HB.out | apply below_alloc | apply pw_below_drewN | apply below_drew1 | refine below_set ?_ GE199.out | refine below_set ?_ GE200.out | refine below_set ?_ GE201.out) | exact HB.out)) hb); clear BK199; clear BK200; clear BK201; clear HB; have BK199 := n0_; have BK200 := n1_; have BK201 := n2_; have HB := n3_; clear n0_ n1_ n2_ n3_; (try clear hb); (try clear hb2); (try clear hk); (try clear hi)))
   go_meet
   case rel => exact ⟨_, (true), (by first | rfl | (simp; done) | (simp [*]; done)), H', ⟨by first | omega | exact Nat.le_refl _⟩, ⟨by (with_reducible repeat (first | refine blk_drewN ?_ _ | refine blk_drew ?_ | refine blk_alloc ?_ _)); exact BK199.out⟩, ⟨by (with_reducible repeat (first | refine blk_drewN ?_ _ | refine blk_drew ?_ | refine blk_alloc ?_ _)); exact BK200.out⟩, ⟨by (with_reducible repeat (first | refine blk_drewN ?_ _ | refine blk_drew ?_ | refine blk_alloc ?_ _)); exact BK201.out⟩, ⟨by repeat (first | (with_reducible first | exact HB.out | apply below_alloc | apply pw_below_drewN | apply below_drew1 | refine below_set ?_ GE199.out | refine below_set ?_ GE200.out | refine below_set ?_ GE201.out) | exact HB.out)⟩⟩
 case rest =>
  clear HC4
  try clear c1
  try clear c2
  try clear p2
  try clear c3
  try clear c8
  try clear c9
  try clear c11
  try clear c13
  try clear c16
  try clear c17
  try clear c20
  try clear c26
  try clear c27
  try clear c30
  try clear c34
  try clear c35
  try clear hcz18_0
  try clear hcz18_1
  try clear hcz18_2
  try clear hcz18_3
  try clear hcz18_4
  try clear hcz18_5
  try clear hcz18_6
  try clear hcz21_0
  try clear hcz21_1
  try clear hcz21_2
  try clear hcz23_0
  try clear hcz23_1
  try clear hcz23_2
  try clear hcz28_0
  try clear hcz28_1
  try clear hcz28_2
  try clear hcz28_3
  try clear hcz28_4
  try clear hcz28_5
  try clear hcz28_6
  try clear hcz31_0
  try clear hcz31_1
  try clear hcz31_2
  try clear hcz36_0
  try clear hcz36_1
  try clear hcz36_2
  try clear hcz36_3
  try clear hcz36_4
  try clear hcz36_5
  try clear hcz36_6
  try clear hfz18_0
  try clear hfz18_1
  try clear hfz18_2
  try clear hfz18_3
  try clear hfz18_4
  try clear hfz18_5
  try clear hfz18_6
  try clear hfz21_0
  try clear hfz21_1
  try clear hfz21_2
  try clear hfz23_0
  try clear hfz23_1
  try clear hfz23_2
  try clear hfz28_0
  try clear hfz28_1
  try clear hfz28_2
  try clear hfz28_3
  try clear hfz28_4
  try clear hfz28_5
  try clear hfz28_6
  try clear hfz31_0
  try clear hfz31_1
  try clear hfz31_2
  try clear hfz36_0
  try clear hfz36_1
  try clear hfz36_2
  try clear hfz36_3
  try clear hfz36_4
  try clear hfz36_5
  try clear hfz36_6
  obtain ⟨kq, x23_3, rfl, HA, HJ3, BK199, BK200, BK201, HB⟩ := hcut
  cases kq with
  | zero => exact absurd HA.out (by simp [lodgerlaw10_AskChecks.j0])
  | succ kj3 =>
   have H := HA.out
   clear HA
   simp only [lodgerlaw10_AskChecks.j0] at H
   by_cases c39 : x23_3 = true
   ·subst c39
    have H1 : ((lodgerlaw10_awake.f kj3).bind fun t206 => (some t206)) = some r := by rw [if_pos rfl] at H; exact H
    clear H
    have H := H1
    clear H1
    replace H := Option.bind_eq_some_iff.mp H
    obtain ⟨t206, A400, H⟩ := H
    replace H : (some t206) = some r := H
    have A40 := Aside0.mk A400
    clear A400
    first | (exfalso; rw [hr_.out] at H; exact absurd (Option.some.inj H) (by decide)) | (try clear hr_)
    all_goals
     obtain rfl := Option.some.inj H
     go_wp2_with (first | ((with_reducible refine gate_callee (f := 8) rfl ?_); refine goesL_ (some 24) rfl rfl Tryd.func8 (by kernel_rfl) rfl #[] rfl (by (try simp only [List.map_toArray, List.map_cons, List.map_nil]); first | done | rfl | (simp only [List.length_drop, List.length_take]; rfl)) ?_; (with_reducible refine (lodgerlaw10_awake.calls kj3  t206 _ ?side1 A40.out).mono ?_); (case side1 => exact Lg_below HG.out (by repeat (first | (with_reducible first | exact HB.out | apply below_alloc | apply pw_below_drewN | apply below_drew1 | refine below_set ?_ GE199.out | refine below_set ?_ GE200.out | refine below_set ?_ GE201.out) | exact HB.out))); rintro e w41 ⟨rfl, hb⟩; refine ⟨_, rfl, ?_⟩; have n0_ := Aside0.mk (blk_below (g := gb199) (o := .cells #[.int .u32 a0_0, .int .i64 a0_1, .slice A0_2 l0_2.length c0_2, .int .i64 a0_3, .int .i64 a0_4, .int .i64 a0_5, .int .i64 a0_6] 27 (0, 0)) (by (with_reducible repeat (first | refine blk_drewN ?_ _ | refine blk_drew ?_ | refine blk_alloc ?_ _)); exact BK199.out) hb); have n1_ := Aside0.mk (blk_below (g := gb200) (o := .cells #[.int .i64 a1_0, .int .u32 a1_1, .slice A1_2 l1_2.length c1_2] 30 (0, 0)) (by (with_reducible repeat (first | refine blk_drewN ?_ _ | refine blk_drew ?_ | refine blk_alloc ?_ _)); exact BK200.out) hb); have n2_ := Aside0.mk (blk_below (g := gb201) (o := .cells #[.int .i64 a2_0, .int .u32 a2_1, .slice A2_2 l2_2.length c2_2] 30 (0, 0)) (by (with_reducible repeat (first | refine blk_drewN ?_ _ | refine blk_drew ?_ | refine blk_alloc ?_ _)); exact BK201.out) hb); have n3_ := Aside0.mk (below_step (by repeat (first | (with_reducible first | exact HB.out | apply below_alloc | apply pw_below_drewN | apply below_drew1 | refine below_set ?_ GE199.out | refine below_set ?_ GE200.out | refine below_set ?_ GE201.out) | exact HB.out)) hb); clear BK199; clear BK200; clear BK201; clear HB; have BK199 := n0_; have BK200 := n1_; have BK201 := n2_; have HB := n3_; clear n0_ n1_ n2_ n3_; (try clear hb); (try clear hb2); (try clear hk); (try clear hi)))
     go_ret
     exact ⟨by first | rfl | (simp [errW_none, errW_some] <;> rfl) | (simp [*, errW_none, errW_some] <;> rfl), by repeat (first | (with_reducible first | exact HB.out | apply below_alloc | apply pw_below_drewN | apply below_drew1 | refine below_set ?_ GE199.out | refine below_set ?_ GE200.out | refine below_set ?_ GE201.out) | exact HB.out)⟩
   ·replace c39 := Bool.eq_false_iff.mpr c39
    subst c39
    have H1 : ((ask_Check.f kj3 a0_0 a0_1 l0_2 a0_3 a0_4 a0_5 a0_6 a1_0 a1_1 l1_2).bind fun t207 => ((lodgerref10_Check.f kj3 a0_0 a0_1 l0_2 a0_3 a0_4 a0_5 a0_6 a1_0 a1_1 l1_2).bind fun t208 => (if t207 = t208 then ((ask_Names.f a1_0 a1_1 l1_2).bind fun t209 => ((lodgerref10_Names.f kj3 a1_0 a1_1 l1_2).bind fun t212 => ((lodgerref08_Addrs.f kj3 t209 t212).bind fun t215 => (if t215 = true then ((ask_Same.f kj3 a1_0 a1_1 l1_2 a2_0 a2_1 l2_2).bind fun t216 => ((lodgerref08_Asks.f kj3 a1_0 a1_1 l1_2 a2_0 a2_1 l2_2).bind fun t217 => (some (t216 == t217)))) else (some false))))) else (some false)))) = some r := by rw [if_neg (show ¬ (false = true) by decide)] at H; exact H
    clear H
    have H := H1
    clear H1
    replace H := Option.bind_eq_some_iff.mp H
    obtain ⟨t207, A420, H⟩ := H
    replace H : ((lodgerref10_Check.f kj3 a0_0 a0_1 l0_2 a0_3 a0_4 a0_5 a0_6 a1_0 a1_1 l1_2).bind fun t208 => (if t207 = t208 then ((ask_Names.f a1_0 a1_1 l1_2).bind fun t209 => ((lodgerref10_Names.f kj3 a1_0 a1_1 l1_2).bind fun t212 => ((lodgerref08_Addrs.f kj3 t209 t212).bind fun t215 => (if t215 = true then ((ask_Same.f kj3 a1_0 a1_1 l1_2 a2_0 a2_1 l2_2).bind fun t216 => ((lodgerref08_Asks.f kj3 a1_0 a1_1 l1_2 a2_0 a2_1 l2_2).bind fun t217 => (some (t216 == t217)))) else (some false))))) else (some false))) = some r := H
    have A42 := Aside0.mk A420
    clear A420
    replace H := Option.bind_eq_some_iff.mp H
    obtain ⟨t208, A430, H⟩ := H
    replace H : (if t207 = t208 then ((ask_Names.f a1_0 a1_1 l1_2).bind fun t209 => ((lodgerref10_Names.f kj3 a1_0 a1_1 l1_2).bind fun t212 => ((lodgerref08_Addrs.f kj3 t209 t212).bind fun t215 => (if t215 = true then ((ask_Same.f kj3 a1_0 a1_1 l1_2 a2_0 a2_1 l2_2).bind fun t216 => ((lodgerref08_Asks.f kj3 a1_0 a1_1 l1_2 a2_0 a2_1 l2_2).bind fun t217 => (some (t216 == t217)))) else (some false))))) else (some false)) = some r := H
    have A43 := Aside0.mk A430
    clear A430
    by_cases c44 : t207 = t208
    ·rw [if_pos c44] at H
     have c44b0 : (t207 == t208) = true := beq_iff_eq.mpr c44
     have c44b1 : (t207 != t208) = false := bne_eq_false_iff_eq.mpr c44
     clear c44
     replace H := Option.bind_eq_some_iff.mp H
     obtain ⟨t209, A450, H⟩ := H
     replace H : ((lodgerref10_Names.f kj3 a1_0 a1_1 l1_2).bind fun t212 => ((lodgerref08_Addrs.f kj3 t209 t212).bind fun t215 => (if t215 = true then ((ask_Same.f kj3 a1_0 a1_1 l1_2 a2_0 a2_1 l2_2).bind fun t216 => ((lodgerref08_Asks.f kj3 a1_0 a1_1 l1_2 a2_0 a2_1 l2_2).bind fun t217 => (some (t216 == t217)))) else (some false)))) = some r := H
     have A45 := Aside0.mk A450
     clear A450
     replace H := Option.bind_eq_some_iff.mp H
     obtain ⟨t212, A460, H⟩ := H
     replace H : ((lodgerref08_Addrs.f kj3 t209 t212).bind fun t215 => (if t215 = true then ((ask_Same.f kj3 a1_0 a1_1 l1_2 a2_0 a2_1 l2_2).bind fun t216 => ((lodgerref08_Asks.f kj3 a1_0 a1_1 l1_2 a2_0 a2_1 l2_2).bind fun t217 => (some (t216 == t217)))) else (some false))) = some r := H
     have A46 := Aside0.mk A460
     clear A460
     replace H := Option.bind_eq_some_iff.mp H
     obtain ⟨t215, A470, H⟩ := H
     replace H : (if t215 = true then ((ask_Same.f kj3 a1_0 a1_1 l1_2 a2_0 a2_1 l2_2).bind fun t216 => ((lodgerref08_Asks.f kj3 a1_0 a1_1 l1_2 a2_0 a2_1 l2_2).bind fun t217 => (some (t216 == t217)))) else (some false)) = some r := H
     have A47 := Aside0.mk A470
     clear A470
     by_cases c48 : t215 = true
     ·subst c48
      have H1 : ((ask_Same.f kj3 a1_0 a1_1 l1_2 a2_0 a2_1 l2_2).bind fun t216 => ((lodgerref08_Asks.f kj3 a1_0 a1_1 l1_2 a2_0 a2_1 l2_2).bind fun t217 => (some (t216 == t217)))) = some r := by rw [if_pos rfl] at H; exact H
      clear H
      have H := H1
      clear H1
      replace H := Option.bind_eq_some_iff.mp H
      obtain ⟨t216, A490, H⟩ := H
      replace H : ((lodgerref08_Asks.f kj3 a1_0 a1_1 l1_2 a2_0 a2_1 l2_2).bind fun t217 => (some (t216 == t217))) = some r := H
      have A49 := Aside0.mk A490
      clear A490
      replace H := Option.bind_eq_some_iff.mp H
      obtain ⟨t217, A500, H⟩ := H
      replace H : (some (t216 == t217)) = some r := H
      have A50 := Aside0.mk A500
      clear A500
      first | (exfalso; rw [hr_.out] at H; exact absurd (Option.some.inj H) (by decide)) | (try clear hr_)
      all_goals
       obtain rfl := Option.some.inj H
       try go_wp2
       have n0_ := Aside0.mk (blk_drew BK199.out)
       have n1_ := Aside0.mk (blk_drew BK200.out)
       have n2_ := Aside0.mk (blk_drew BK201.out)
       have n3_ := Aside0.mk (below_drew1 HB.out)
       clear BK199
       clear BK200
       clear BK201
       clear HB
       have BK199 := n0_
       have BK200 := n1_
       have BK201 := n2_
       have HB := n3_
       clear n0_ n1_ n2_ n3_
       refine start_ (n := 24) (S := fun w' => w'.cell? ⟨gb199, 0, none⟩ = some (.int .u32 a0_0) ∧ w'.cell? ⟨gb199, 1, none⟩ = some (.int .i64 a0_1) ∧ w'.cell? ⟨gb199, 2, none⟩ = some (.slice A0_2 l0_2.length c0_2) ∧ w'.cell? ⟨gb199, 3, none⟩ = some (.int .i64 a0_3) ∧ w'.cell? ⟨gb199, 4, none⟩ = some (.int .i64 a0_4) ∧ w'.cell? ⟨gb199, 5, none⟩ = some (.int .i64 a0_5) ∧ w'.cell? ⟨gb199, 6, none⟩ = some (.int .i64 a0_6) ∧ w'.cell? ⟨gb200, 0, none⟩ = some (.int .i64 a1_0) ∧ w'.cell? ⟨gb200, 1, none⟩ = some (.int .u32 a1_1) ∧ w'.cell? ⟨gb200, 2, none⟩ = some (.slice A1_2 l1_2.length c1_2) ∧ w'.cell? ⟨gb201, 0, none⟩ = some (.int .i64 a2_0) ∧ w'.cell? ⟨gb201, 1, none⟩ = some (.int .u32 a2_1) ∧ w'.cell? ⟨gb201, 2, none⟩ = some (.slice A2_2 l2_2.length c2_2)) (ds := []) #[false, false, false, false, false, false, false, false, false, false, false, false, false, false, false, false, false, false, false, false, false, false, false, false] (by kernel_rfl) rfl rfl ⟨(blk_cell BK199.out 0).trans rfl, (blk_cell BK199.out 1).trans rfl, (blk_cell BK199.out 2).trans rfl, (blk_cell BK199.out 3).trans rfl, (blk_cell BK199.out 4).trans rfl, (blk_cell BK199.out 5).trans rfl, (blk_cell BK199.out 6).trans rfl, (blk_cell BK200.out 0).trans rfl, (blk_cell BK200.out 1).trans rfl, (blk_cell BK200.out 2).trans rfl, (blk_cell BK201.out 0).trans rfl, (blk_cell BK201.out 1).trans rfl, (blk_cell BK201.out 2).trans rfl⟩ (fun hHeld => ?_); refine with_tabW lodgerlaw10_AskChecks.tab3 lodgerlaw10_AskChecks.bits3 (fun HT_ HW_ => ?_)
       generalize wc.drew = w51 at BK199 BK200 BK201 HB hHeld ⊢
       refine tk_ (i := 0) (N := some 25) (tf 24 1) rfl rfl HT_ HW_ hHeld (by rintro w' ⟨s0, s1, s2, s3, s4, s5, s6, s7, s8, s9, s10, s11, s12⟩; go_simp; with_reducible rfl) ?_
       refine tk_ (i := 1) (N := some 26) (tf 24 3) rfl rfl HT_ HW_ hHeld (by rintro w' ⟨s0, s1, s2, s3, s4, s5, s6, s7, s8, s9, s10, s11, s12⟩; go_simp; with_reducible rfl) ?_
       refine tk_ (i := 3) (N := some 28) (tf 24 11) rfl rfl HT_ HW_ hHeld (by rintro w' ⟨s0, s1, s2, s3, s4, s5, s6, s7, s8, s9, s10, s11, s12⟩; go_simp; with_reducible rfl) ?_
       refine tk_ (i := 4) (N := some 29) (tf 24 27) rfl rfl HT_ HW_ hHeld (by rintro w' ⟨s0, s1, s2, s3, s4, s5, s6, s7, s8, s9, s10, s11, s12⟩; go_simp; with_reducible rfl) ?_
       refine one_ (i := 2) (N := some 27) #[true, true, true, true, true, false, false, false, false, false, false, false, false, false, false, false, false, false, false, false, false, false, false, false] rfl rfl (one_of HT_.out (by kernel_rfl)) (by decide) (fun K hK => ?_)
       refine goes_ Tryd.func11 (by kernel_rfl) rfl #[.agg #[.int .u32 a0_0, .int .i64 a0_1, .slice A0_2 l0_2.length c0_2, .int .i64 a0_3, .int .i64 a0_4, .int .i64 a0_5, .int .i64 a0_6], .agg #[.int .i64 a1_0, .int .u32 a1_1, .slice A1_2 l1_2.length c1_2]] (by rfl) rfl rfl (by (try simp only [List.map_toArray, List.map_cons, List.map_nil]); first | done | rfl | (simp only [List.length_drop, List.length_take]; rfl)) ?_
       with_reducible refine (ask_Check.calls kj3 a0_0 a0_1 _ _ l0_2 a0_3 a0_4 a0_5 a0_6 a1_0 a1_1 _ _ l1_2 t207 _ ?side1 ?side2 ?side3 ?side4 ?side5 A42.out).mono ?_
       (case side1 => repeat (first | exact (Kd.C_below HR0_2.out HB.out) | (with_reducible refine Kd.C_alloc ?_ _) | (with_reducible refine Kd.C_drewN ?_ _) | (with_reducible refine Kd.C_drew ?_)))
       (case side2 => exact HC0_2.out)
       (case side3 => repeat (first | exact (Kd.C_below HR1_2.out HB.out) | (with_reducible refine Kd.C_alloc ?_ _) | (with_reducible refine Kd.C_drewN ?_ _) | (with_reducible refine Kd.C_drew ?_)))
       (case side4 => exact HC1_2.out)
       (case side5 => exact Lg_below HG.out (by repeat (first | (with_reducible first | exact HB.out | apply below_alloc | apply pw_below_drewN | apply below_drew1 | refine below_set ?_ GE199.out | refine below_set ?_ GE200.out | refine below_set ?_ GE201.out) | exact HB.out)))
       rintro e w52 ⟨rfl, hb⟩
       refine ⟨_, rfl, ?_⟩
       have n0_ := Aside0.mk (blk_below (g := gb199) (o := .cells #[.int .u32 a0_0, .int .i64 a0_1, .slice A0_2 l0_2.length c0_2, .int .i64 a0_3, .int .i64 a0_4, .int .i64 a0_5, .int .i64 a0_6] 27 (0, 0)) (by (with_reducible repeat (first | refine blk_drewN ?_ _ | refine blk_drew ?_ | refine blk_alloc ?_ _)); exact BK199.out) hb)
       have n1_ := Aside0.mk (blk_below (g := gb200) (o := .cells #[.int .i64 a1_0, .int .u32 a1_1, .slice A1_2 l1_2.length c1_2] 30 (0, 0)) (by (with_reducible repeat (first | refine blk_drewN ?_ _ | refine blk_drew ?_ | refine blk_alloc ?_ _)); exact BK200.out) hb)
       have n2_ := Aside0.mk (blk_below (g := gb201) (o := .cells #[.int .i64 a2_0, .int .u32 a2_1, .slice A2_2 l2_2.length c2_2] 30 (0, 0)) (by (with_reducible repeat (first | refine blk_drewN ?_ _ | refine blk_drew ?_ | refine blk_alloc ?_ _)); exact BK201.out) hb)
       have n3_ := Aside0.mk (below_step (by repeat (first | (with_reducible first | exact HB.out | apply below_alloc | apply pw_below_drewN | apply below_drew1 | refine below_set ?_ GE199.out | refine below_set ?_ GE200.out | refine below_set ?_ GE201.out) | exact HB.out)) hb)
       clear BK199
       clear BK200
       clear BK201
       clear HB
       have BK199 := n0_
       have BK200 := n1_
       have BK201 := n2_
       have HB := n3_
       clear n0_ n1_ n2_ n3_
       (try clear hb)
       (try clear hb2)
       (try clear hk)
       (try clear hi)
       refine hK.out _ _ ⟨(blk_cell BK199.out 0).trans rfl, (blk_cell BK199.out 1).trans rfl, (blk_cell BK199.out 2).trans rfl, (blk_cell BK199.out 3).trans rfl, (blk_cell BK199.out 4).trans rfl, (blk_cell BK199.out 5).trans rfl, (blk_cell BK199.out 6).trans rfl, (blk_cell BK200.out 0).trans rfl, (blk_cell BK200.out 1).trans rfl, (blk_cell BK200.out 2).trans rfl, (blk_cell BK201.out 0).trans rfl, (blk_cell BK201.out 1).trans rfl, (blk_cell BK201.out 2).trans rfl⟩ (fun hHeld => ?_)
       clear hK K
       refine norm_ (a' := ?_) ?_ ?_
       rotate_left
       ·show Act.put _ (some 27) _ = _
        simp only [Act.put, List.setIfInBounds_toArray, List.set_cons_zero, List.set_cons_succ, i64_w, i32_w]
        rfl
       refine one_ (i := 5) (N := some 30) #[true, true, true, true, true, true, false, false, false, false, false, false, false, false, false, false, false, false, false, false, false, false, false, false] rfl rfl (one_of HT_.out (by kernel_rfl)) (by decide) (fun K hK => ?_)
       refine goes_ Tryd.func12 (by kernel_rfl) rfl #[.agg #[.int .u32 a0_0, .int .i64 a0_1, .slice A0_2 l0_2.length c0_2, .int .i64 a0_3, .int .i64 a0_4, .int .i64 a0_5, .int .i64 a0_6], .agg #[.int .i64 a1_0, .int .u32 a1_1, .slice A1_2 l1_2.length c1_2]] (by rfl) rfl rfl (by (try simp only [List.map_toArray, List.map_cons, List.map_nil]); first | done | rfl | (simp only [List.length_drop, List.length_take]; rfl)) ?_
       with_reducible refine (lodgerref10_Check.calls kj3 a0_0 a0_1 _ _ l0_2 a0_3 a0_4 a0_5 a0_6 a1_0 a1_1 _ _ l1_2 t208 _ ?side1 ?side2 ?side3 ?side4 A43.out).mono ?_
       (case side1 => repeat (first | exact (Kd.C_below HR0_2.out HB.out) | (with_reducible refine Kd.C_alloc ?_ _) | (with_reducible refine Kd.C_drewN ?_ _) | (with_reducible refine Kd.C_drew ?_)))
       (case side2 => exact HC0_2.out)
       (case side3 => repeat (first | exact (Kd.C_below HR1_2.out HB.out) | (with_reducible refine Kd.C_alloc ?_ _) | (with_reducible refine Kd.C_drewN ?_ _) | (with_reducible refine Kd.C_drew ?_)))
       (case side4 => exact HC1_2.out)
       rintro e w53 ⟨rfl, hb⟩
       refine ⟨_, rfl, ?_⟩
       have n0_ := Aside0.mk (blk_below (g := gb199) (o := .cells #[.int .u32 a0_0, .int .i64 a0_1, .slice A0_2 l0_2.length c0_2, .int .i64 a0_3, .int .i64 a0_4, .int .i64 a0_5, .int .i64 a0_6] 27 (0, 0)) (by (with_reducible repeat (first | refine blk_drewN ?_ _ | refine blk_drew ?_ | refine blk_alloc ?_ _)); exact BK199.out) hb)
       have n1_ := Aside0.mk (blk_below (g := gb200) (o := .cells #[.int .i64 a1_0, .int .u32 a1_1, .slice A1_2 l1_2.length c1_2] 30 (0, 0)) (by (with_reducible repeat (first | refine blk_drewN ?_ _ | refine blk_drew ?_ | refine blk_alloc ?_ _)); exact BK200.out) hb)
       have n2_ := Aside0.mk (blk_below (g := gb201) (o := .cells #[.int .i64 a2_0, .int .u32 a2_1, .slice A2_2 l2_2.length c2_2] 30 (0, 0)) (by (with_reducible repeat (first | refine blk_drewN ?_ _ | refine blk_drew ?_ | refine blk_alloc ?_ _)); exact BK201.out) hb)
       have n3_ := Aside0.mk (below_step (by repeat (first | (with_reducible first | exact HB.out | apply below_alloc | apply pw_below_drewN | apply below_drew1 | refine below_set ?_ GE199.out | refine below_set ?_ GE200.out | refine below_set ?_ GE201.out) | exact HB.out)) hb)
       clear BK199
       clear BK200
       clear BK201
       clear HB
       have BK199 := n0_
       have BK200 := n1_
       have BK201 := n2_
       have HB := n3_
       clear n0_ n1_ n2_ n3_
       (try clear hb)
       (try clear hb2)
       (try clear hk)
       (try clear hi)
       refine hK.out _ _ ⟨(blk_cell BK199.out 0).trans rfl, (blk_cell BK199.out 1).trans rfl, (blk_cell BK199.out 2).trans rfl, (blk_cell BK199.out 3).trans rfl, (blk_cell BK199.out 4).trans rfl, (blk_cell BK199.out 5).trans rfl, (blk_cell BK199.out 6).trans rfl, (blk_cell BK200.out 0).trans rfl, (blk_cell BK200.out 1).trans rfl, (blk_cell BK200.out 2).trans rfl, (blk_cell BK201.out 0).trans rfl, (blk_cell BK201.out 1).trans rfl, (blk_cell BK201.out 2).trans rfl⟩ (fun hHeld => ?_)
       clear hK K
       refine norm_ (a' := ?_) ?_ ?_
       rotate_left
       ·show Act.put _ (some 30) _ = _
        simp only [Act.put, List.setIfInBounds_toArray, List.set_cons_zero, List.set_cons_succ, i64_w, i32_w]
        rfl
       refine pu_ (i := 6) (N := some 31) (tf 24 127) HT_ ?_
       refine pu_ (i := 7) (N := some 32) (tf 24 255) HT_ ?_
       refine tk_ (i := 8) (N := some 33) (tf 24 511) rfl rfl HT_ HW_ hHeld (by rintro w' ⟨s0, s1, s2, s3, s4, s5, s6, s7, s8, s9, s10, s11, s12⟩; go_simp; with_reducible rfl) ?_
       refine tk_ (i := 10) (N := some 35) (tf 24 1535) rfl rfl HT_ HW_ hHeld (by rintro w' ⟨s0, s1, s2, s3, s4, s5, s6, s7, s8, s9, s10, s11, s12⟩; go_simp; with_reducible rfl) ?_
       refine one_ (i := 9) (N := some 34) #[true, true, true, true, true, true, true, true, true, true, true, false, false, false, false, false, false, false, false, false, false, false, false, false] rfl rfl (one_of HT_.out (by kernel_rfl)) (by decide) (fun K hK => ?_)
       refine goes_ Tryd.func14 (by kernel_rfl) rfl #[.agg #[.int .i64 a1_0, .int .u32 a1_1, .slice A1_2 l1_2.length c1_2]] (by rfl) rfl rfl (by (try simp only [List.map_toArray, List.map_cons, List.map_nil]); first | done | rfl | (simp only [List.length_drop, List.length_take]; rfl)) ?_
       with_reducible refine (ask_Names.calls a1_0 a1_1 _ _ l1_2 t209 _ ?side1 ?side2 ?side3 A45.out).mono ?_
       (case side1 => repeat (first | exact (Kd.C_below HR1_2.out HB.out) | (with_reducible refine Kd.C_alloc ?_ _) | (with_reducible refine Kd.C_drewN ?_ _) | (with_reducible refine Kd.C_drew ?_)))
       (case side2 => exact HC1_2.out)
       (case side3 => exact Lg_below HG.out (by repeat (first | (with_reducible first | exact HB.out | apply below_alloc | apply pw_below_drewN | apply below_drew1 | refine below_set ?_ GE199.out | refine below_set ?_ GE200.out | refine below_set ?_ GE201.out) | exact HB.out)))
       rintro e w54 ⟨v210, rfl, ho0, hb⟩
       refine ⟨_, rfl, ?_⟩
       have n0_ := Aside0.mk (Kd.R_lower ho0 (below_size (by repeat (first | (with_reducible first | exact HB.out | apply below_alloc | apply pw_below_drewN | apply below_drew1 | refine below_set ?_ GE199.out | refine below_set ?_ GE200.out | refine below_set ?_ GE201.out) | exact HB.out))))
       have n1_ := Aside0.mk (blk_below (g := gb199) (o := .cells #[.int .u32 a0_0, .int .i64 a0_1, .slice A0_2 l0_2.length c0_2, .int .i64 a0_3, .int .i64 a0_4, .int .i64 a0_5, .int .i64 a0_6] 27 (0, 0)) (by (with_reducible repeat (first | refine blk_drewN ?_ _ | refine blk_drew ?_ | refine blk_alloc ?_ _)); exact BK199.out) hb)
       have n2_ := Aside0.mk (blk_below (g := gb200) (o := .cells #[.int .i64 a1_0, .int .u32 a1_1, .slice A1_2 l1_2.length c1_2] 30 (0, 0)) (by (with_reducible repeat (first | refine blk_drewN ?_ _ | refine blk_drew ?_ | refine blk_alloc ?_ _)); exact BK200.out) hb)
       have n3_ := Aside0.mk (blk_below (g := gb201) (o := .cells #[.int .i64 a2_0, .int .u32 a2_1, .slice A2_2 l2_2.length c2_2] 30 (0, 0)) (by (with_reducible repeat (first | refine blk_drewN ?_ _ | refine blk_drew ?_ | refine blk_alloc ?_ _)); exact BK201.out) hb)
       have n4_ := Aside0.mk (below_step (by repeat (first | (with_reducible first | exact HB.out | apply below_alloc | apply pw_below_drewN | apply below_drew1 | refine below_set ?_ GE199.out | refine below_set ?_ GE200.out | refine below_set ?_ GE201.out) | exact HB.out)) hb)
       clear BK199
       clear BK200
       clear BK201
       clear HB
       have HO211 := n0_
       have BK199 := n1_
       have BK200 := n2_
       have BK201 := n3_
       have HB := n4_
       clear n0_ n1_ n2_ n3_ n4_
       (try clear hb)
       (try clear hb2)
       (try clear hk)
       (try clear hi)
       (try clear ho0)
       refine hK.out _ _ ⟨(blk_cell BK199.out 0).trans rfl, (blk_cell BK199.out 1).trans rfl, (blk_cell BK199.out 2).trans rfl, (blk_cell BK199.out 3).trans rfl, (blk_cell BK199.out 4).trans rfl, (blk_cell BK199.out 5).trans rfl, (blk_cell BK199.out 6).trans rfl, (blk_cell BK200.out 0).trans rfl, (blk_cell BK200.out 1).trans rfl, (blk_cell BK200.out 2).trans rfl, (blk_cell BK201.out 0).trans rfl, (blk_cell BK201.out 1).trans rfl, (blk_cell BK201.out 2).trans rfl⟩ (fun hHeld => ?_)
       clear hK K
       refine norm_ (a' := ?_) ?_ ?_
       rotate_left
       ·show Act.put _ (some 34) _ = _
        simp only [Act.put, List.setIfInBounds_toArray, List.set_cons_zero, List.set_cons_succ, i64_w, i32_w]
        rfl
       refine one_ (i := 11) (N := some 36) #[true, true, true, true, true, true, true, true, true, true, true, true, false, false, false, false, false, false, false, false, false, false, false, false] rfl rfl (one_of HT_.out (by kernel_rfl)) (by decide) (fun K hK => ?_)
       refine goes_ Tryd.func15 (by kernel_rfl) rfl #[.agg #[.int .i64 a1_0, .int .u32 a1_1, .slice A1_2 l1_2.length c1_2]] (by rfl) rfl rfl (by (try simp only [List.map_toArray, List.map_cons, List.map_nil]); first | done | rfl | (simp only [List.length_drop, List.length_take]; rfl)) ?_
       with_reducible refine (lodgerref10_Names.calls kj3 a1_0 a1_1 _ _ l1_2 t212 _ ?side1 ?side2 A46.out).mono ?_
       (case side1 => repeat (first | exact (Kd.C_below HR1_2.out HB.out) | (with_reducible refine Kd.C_alloc ?_ _) | (with_reducible refine Kd.C_drewN ?_ _) | (with_reducible refine Kd.C_drew ?_)))
       (case side2 => exact HC1_2.out)
       rintro e w55 ⟨v213, rfl, ho0, hb⟩
       refine ⟨_, rfl, ?_⟩
       have n0_ := Aside0.mk (Kd.R_elder' (by (with_reducible repeat (first | apply Kd.R_alloc | apply Kd.R_drewN | apply Kd.R_drew)); exact HO211.out) (Kd.R_base ho0) hb)
       have n1_ := Aside0.mk (Kd.R_lower (Kd.R_new' ho0 (Kd.R_lt (by (with_reducible repeat (first | apply Kd.R_alloc | apply Kd.R_drewN | apply Kd.R_drew)); exact HO211.out))) (below_size (by repeat (first | (with_reducible first | exact HB.out | apply below_alloc | apply pw_below_drewN | apply below_drew1 | refine below_set ?_ GE199.out | refine below_set ?_ GE200.out | refine below_set ?_ GE201.out) | exact HB.out))))
       have n2_ := Aside0.mk (blk_below (g := gb199) (o := .cells #[.int .u32 a0_0, .int .i64 a0_1, .slice A0_2 l0_2.length c0_2, .int .i64 a0_3, .int .i64 a0_4, .int .i64 a0_5, .int .i64 a0_6] 27 (0, 0)) (by (with_reducible repeat (first | refine blk_drewN ?_ _ | refine blk_drew ?_ | refine blk_alloc ?_ _)); exact BK199.out) hb)
       have n3_ := Aside0.mk (blk_below (g := gb200) (o := .cells #[.int .i64 a1_0, .int .u32 a1_1, .slice A1_2 l1_2.length c1_2] 30 (0, 0)) (by (with_reducible repeat (first | refine blk_drewN ?_ _ | refine blk_drew ?_ | refine blk_alloc ?_ _)); exact BK200.out) hb)
       have n4_ := Aside0.mk (blk_below (g := gb201) (o := .cells #[.int .i64 a2_0, .int .u32 a2_1, .slice A2_2 l2_2.length c2_2] 30 (0, 0)) (by (with_reducible repeat (first | refine blk_drewN ?_ _ | refine blk_drew ?_ | refine blk_alloc ?_ _)); exact BK201.out) hb)
       have n5_ := Aside0.mk (below_step (by repeat (first | (with_reducible first | exact HB.out | apply below_alloc | apply pw_below_drewN | apply below_drew1 | refine below_set ?_ GE199.out | refine below_set ?_ GE200.out | refine below_set ?_ GE201.out) | exact HB.out)) hb)
       clear HO211
       clear BK199
       clear BK200
       clear BK201
       clear HB
       have HO211 := n0_
       have HO214 := n1_
       have BK199 := n2_
       have BK200 := n3_
       have BK201 := n4_
       have HB := n5_
       clear n0_ n1_ n2_ n3_ n4_ n5_
       (try clear hb)
       (try clear hb2)
       (try clear hk)
       (try clear hi)
       (try clear ho0)
       obtain ⟨Ao56, co56, eo56⟩ := Kd.R_slice HO211.out
       (first | subst eo56 | (injection eo56 with f1_ f2_ f3_; have f4_ := f1_.symm; have f5_ := f3_.symm; clear f1_ f2_ f3_; subst f4_; subst f5_))
       obtain ⟨Ao57, co57, eo57⟩ := Kd.R_slice HO214.out
       (first | subst eo57 | (injection eo57 with f1_ f2_ f3_; have f4_ := f1_.symm; have f5_ := f3_.symm; clear f1_ f2_ f3_; subst f4_; subst f5_))
       refine hK.out _ _ ⟨(blk_cell BK199.out 0).trans rfl, (blk_cell BK199.out 1).trans rfl, (blk_cell BK199.out 2).trans rfl, (blk_cell BK199.out 3).trans rfl, (blk_cell BK199.out 4).trans rfl, (blk_cell BK199.out 5).trans rfl, (blk_cell BK199.out 6).trans rfl, (blk_cell BK200.out 0).trans rfl, (blk_cell BK200.out 1).trans rfl, (blk_cell BK200.out 2).trans rfl, (blk_cell BK201.out 0).trans rfl, (blk_cell BK201.out 1).trans rfl, (blk_cell BK201.out 2).trans rfl⟩ (fun hHeld => ?_)
       clear hK K
       refine norm_ (a' := ?_) ?_ ?_
       rotate_left
       ·show Act.put _ (some 36) _ = _
        simp only [Act.put, List.setIfInBounds_toArray, List.set_cons_zero, List.set_cons_succ, i64_w, i32_w]
        rfl
       refine one_ (i := 12) (N := some 37) #[true, true, true, true, true, true, true, true, true, true, true, true, true, false, false, false, false, false, false, false, false, false, false, false] rfl rfl (one_of HT_.out (by kernel_rfl)) (by decide) (fun K hK => ?_)
       refine goes_ Tryd.func13 (by kernel_rfl) rfl #[.slice Ao56 t209.length co56, .slice Ao57 t212.length co57] (by rfl) rfl rfl (by (try simp only [List.map_toArray, List.map_cons, List.map_nil]); first | done | rfl | (simp only [List.length_drop, List.length_take]; rfl)) ?_
       with_reducible refine (lodgerref08_Addrs.calls kj3 _ _ t209 _ _ t212 true _ ?side1 ?side2 ?side3 ?side4 A47.out).mono ?_
       (case side1 => repeat (first | exact (Kd.R_reads' HO211.out).2.2 | (with_reducible refine Kd.C_alloc ?_ _) | (with_reducible refine Kd.C_drewN ?_ _) | (with_reducible refine Kd.C_drew ?_)))
       (case side2 => exact (Kd.R_reads' HO211.out).2.1)
       (case side3 => repeat (first | exact (Kd.R_reads' HO214.out).2.2 | (with_reducible refine Kd.C_alloc ?_ _) | (with_reducible refine Kd.C_drewN ?_ _) | (with_reducible refine Kd.C_drew ?_)))
       (case side4 => exact (Kd.R_reads' HO214.out).2.1)
       rintro e w' ⟨rfl, ⟨nd, rfl⟩⟩
       refine ⟨_, rfl, ?_⟩
       refine hK.out _ _ ⟨(blk_cell BK199.out 0).trans rfl, (blk_cell BK199.out 1).trans rfl, (blk_cell BK199.out 2).trans rfl, (blk_cell BK199.out 3).trans rfl, (blk_cell BK199.out 4).trans rfl, (blk_cell BK199.out 5).trans rfl, (blk_cell BK199.out 6).trans rfl, (blk_cell BK200.out 0).trans rfl, (blk_cell BK200.out 1).trans rfl, (blk_cell BK200.out 2).trans rfl, (blk_cell BK201.out 0).trans rfl, (blk_cell BK201.out 1).trans rfl, (blk_cell BK201.out 2).trans rfl⟩ (fun hHeld => ?_)
       clear hK K
       refine norm_ (a' := ?_) ?_ ?_
       rotate_left
       ·show Act.put _ (some 37) _ = _
        simp only [Act.put, List.setIfInBounds_toArray, List.set_cons_zero, List.set_cons_succ, i64_w, i32_w]
        rfl
       refine pu_ (i := 13) (N := some 38) (tf 24 16383) HT_ ?_
       refine pu_ (i := 14) (N := some 39) (tf 24 32767) HT_ ?_
       refine tk_ (i := 15) (N := some 40) (tf 24 65535) rfl rfl HT_ HW_ hHeld (by rintro w' ⟨s0, s1, s2, s3, s4, s5, s6, s7, s8, s9, s10, s11, s12⟩; go_simp; with_reducible rfl) ?_
       refine tk_ (i := 16) (N := some 41) (tf 24 131071) rfl rfl HT_ HW_ hHeld (by rintro w' ⟨s0, s1, s2, s3, s4, s5, s6, s7, s8, s9, s10, s11, s12⟩; go_simp; with_reducible rfl) ?_
       refine tk_ (i := 18) (N := some 43) (tf 24 393215) rfl rfl HT_ HW_ hHeld (by rintro w' ⟨s0, s1, s2, s3, s4, s5, s6, s7, s8, s9, s10, s11, s12⟩; go_simp; with_reducible rfl) ?_
       refine tk_ (i := 19) (N := some 44) (tf 24 917503) rfl rfl HT_ HW_ hHeld (by rintro w' ⟨s0, s1, s2, s3, s4, s5, s6, s7, s8, s9, s10, s11, s12⟩; go_simp; with_reducible rfl) ?_
       refine one_ (i := 17) (N := some 42) #[true, true, true, true, true, true, true, true, true, true, true, true, true, true, true, true, true, true, true, true, false, false, false, false] rfl rfl (one_of HT_.out (by kernel_rfl)) (by decide) (fun K hK => ?_)
       refine goes_ Tryd.func16 (by kernel_rfl) rfl #[.agg #[.int .i64 a1_0, .int .u32 a1_1, .slice A1_2 l1_2.length c1_2], .agg #[.int .i64 a2_0, .int .u32 a2_1, .slice A2_2 l2_2.length c2_2]] (by rfl) rfl rfl (by (try simp only [List.map_toArray, List.map_cons, List.map_nil]); first | done | rfl | (simp only [List.length_drop, List.length_take]; rfl)) ?_
       with_reducible refine (ask_Same.calls kj3 a1_0 a1_1 _ _ l1_2 a2_0 a2_1 _ _ l2_2 t216 _ ?side1 ?side2 ?side3 ?side4 A49.out).mono ?_
       (case side1 => repeat (first | exact (Kd.C_below HR1_2.out (by repeat (first | (with_reducible first | exact HB.out | apply below_alloc | apply pw_below_drewN | apply below_drew1 | refine below_set ?_ GE199.out | refine below_set ?_ GE200.out | refine below_set ?_ GE201.out) | exact HB.out))) | (with_reducible refine Kd.C_alloc ?_ _) | (with_reducible refine Kd.C_drewN ?_ _) | (with_reducible refine Kd.C_drew ?_)))
       (case side2 => exact HC1_2.out)
       (case side3 => repeat (first | exact (Kd.C_below HR2_2.out (by repeat (first | (with_reducible first | exact HB.out | apply below_alloc | apply pw_below_drewN | apply below_drew1 | refine below_set ?_ GE199.out | refine below_set ?_ GE200.out | refine below_set ?_ GE201.out) | exact HB.out))) | (with_reducible refine Kd.C_alloc ?_ _) | (with_reducible refine Kd.C_drewN ?_ _) | (with_reducible refine Kd.C_drew ?_)))
       (case side4 => exact HC2_2.out)
       rintro e w58 ⟨rfl, hb⟩
       refine ⟨_, rfl, ?_⟩
       have n0_ := Aside0.mk (Kd.R_below (by (with_reducible repeat (first | apply Kd.R_alloc | apply Kd.R_drewN | apply Kd.R_drew)); exact HO211.out) hb)
       have n1_ := Aside0.mk (Kd.R_below (by (with_reducible repeat (first | apply Kd.R_alloc | apply Kd.R_drewN | apply Kd.R_drew)); exact HO214.out) hb)
       have n2_ := Aside0.mk (blk_below (g := gb199) (o := .cells #[.int .u32 a0_0, .int .i64 a0_1, .slice A0_2 l0_2.length c0_2, .int .i64 a0_3, .int .i64 a0_4, .int .i64 a0_5, .int .i64 a0_6] 27 (0, 0)) (by (with_reducible repeat (first | refine blk_drewN ?_ _ | refine blk_drew ?_ | refine blk_alloc ?_ _)); exact BK199.out) hb)
       have n3_ := Aside0.mk (blk_below (g := gb200) (o := .cells #[.int .i64 a1_0, .int .u32 a1_1, .slice A1_2 l1_2.length c1_2] 30 (0, 0)) (by (with_reducible repeat (first | refine blk_drewN ?_ _ | refine blk_drew ?_ | refine blk_alloc ?_ _)); exact BK200.out) hb)
       have n4_ := Aside0.mk (blk_below (g := gb201) (o := .cells #[.int .i64 a2_0, .int .u32 a2_1, .slice A2_2 l2_2.length c2_2] 30 (0, 0)) (by (with_reducible repeat (first | refine blk_drewN ?_ _ | refine blk_drew ?_ | refine blk_alloc ?_ _)); exact BK201.out) hb)
       have n5_ := Aside0.mk (below_step (by repeat (first | (with_reducible first | exact HB.out | apply below_alloc | apply pw_below_drewN | apply below_drew1 | refine below_set ?_ GE199.out | refine below_set ?_ GE200.out | refine below_set ?_ GE201.out) | exact HB.out)) hb)
       clear HO211
       clear HO214
       clear BK199
       clear BK200
       clear BK201
       clear HB
       have HO211 := n0_
       have HO214 := n1_
       have BK199 := n2_
       have BK200 := n3_
       have BK201 := n4_
       have HB := n5_
       clear n0_ n1_ n2_ n3_ n4_ n5_
       (try clear hb)
       (try clear hb2)
       (try clear hk)
       (try clear hi)
       refine hK.out _ _ ⟨(blk_cell BK199.out 0).trans rfl, (blk_cell BK199.out 1).trans rfl, (blk_cell BK199.out 2).trans rfl, (blk_cell BK199.out 3).trans rfl, (blk_cell BK199.out 4).trans rfl, (blk_cell BK199.out 5).trans rfl, (blk_cell BK199.out 6).trans rfl, (blk_cell BK200.out 0).trans rfl, (blk_cell BK200.out 1).trans rfl, (blk_cell BK200.out 2).trans rfl, (blk_cell BK201.out 0).trans rfl, (blk_cell BK201.out 1).trans rfl, (blk_cell BK201.out 2).trans rfl⟩ (fun hHeld => ?_)
       clear hK K
       refine norm_ (a' := ?_) ?_ ?_
       rotate_left
       ·show Act.put _ (some 42) _ = _
        simp only [Act.put, List.setIfInBounds_toArray, List.set_cons_zero, List.set_cons_succ, i64_w, i32_w]
        rfl
       refine one_ (i := 20) (N := some 45) #[true, true, true, true, true, true, true, true, true, true, true, true, true, true, true, true, true, true, true, true, true, false, false, false] rfl rfl (one_of HT_.out (by kernel_rfl)) (by decide) (fun K hK => ?_)
       refine goes_ Tryd.func17 (by kernel_rfl) rfl #[.agg #[.int .i64 a1_0, .int .u32 a1_1, .slice A1_2 l1_2.length c1_2], .agg #[.int .i64 a2_0, .int .u32 a2_1, .slice A2_2 l2_2.length c2_2]] (by rfl) rfl rfl (by (try simp only [List.map_toArray, List.map_cons, List.map_nil]); first | done | rfl | (simp only [List.length_drop, List.length_take]; rfl)) ?_
       with_reducible refine (lodgerref08_Asks.calls kj3 a1_0 a1_1 _ _ l1_2 a2_0 a2_1 _ _ l2_2 t217 _ ?side1 ?side2 ?side3 ?side4 A50.out).mono ?_
       (case side1 => repeat (first | exact (Kd.C_below HR1_2.out HB.out) | (with_reducible refine Kd.C_alloc ?_ _) | (with_reducible refine Kd.C_drewN ?_ _) | (with_reducible refine Kd.C_drew ?_)))
       (case side2 => exact HC1_2.out)
       (case side3 => repeat (first | exact (Kd.C_below HR2_2.out HB.out) | (with_reducible refine Kd.C_alloc ?_ _) | (with_reducible refine Kd.C_drewN ?_ _) | (with_reducible refine Kd.C_drew ?_)))
       (case side4 => exact HC2_2.out)
       rintro e w59 ⟨rfl, hb⟩
       refine ⟨_, rfl, ?_⟩
       have n0_ := Aside0.mk (Kd.R_below (by (with_reducible repeat (first | apply Kd.R_alloc | apply Kd.R_drewN | apply Kd.R_drew)); exact HO211.out) hb)
       have n1_ := Aside0.mk (Kd.R_below (by (with_reducible repeat (first | apply Kd.R_alloc | apply Kd.R_drewN | apply Kd.R_drew)); exact HO214.out) hb)
       have n2_ := Aside0.mk (blk_below (g := gb199) (o := .cells #[.int .u32 a0_0, .int .i64 a0_1, .slice A0_2 l0_2.length c0_2, .int .i64 a0_3, .int .i64 a0_4, .int .i64 a0_5, .int .i64 a0_6] 27 (0, 0)) (by (with_reducible repeat (first | refine blk_drewN ?_ _ | refine blk_drew ?_ | refine blk_alloc ?_ _)); exact BK199.out) hb)
       have n3_ := Aside0.mk (blk_below (g := gb200) (o := .cells #[.int .i64 a1_0, .int .u32 a1_1, .slice A1_2 l1_2.length c1_2] 30 (0, 0)) (by (with_reducible repeat (first | refine blk_drewN ?_ _ | refine blk_drew ?_ | refine blk_alloc ?_ _)); exact BK200.out) hb)
       have n4_ := Aside0.mk (blk_below (g := gb201) (o := .cells #[.int .i64 a2_0, .int .u32 a2_1, .slice A2_2 l2_2.length c2_2] 30 (0, 0)) (by (with_reducible repeat (first | refine blk_drewN ?_ _ | refine blk_drew ?_ | refine blk_alloc ?_ _)); exact BK201.out) hb)
       have n5_ := Aside0.mk (below_step (by repeat (first | (with_reducible first | exact HB.out | apply below_alloc | apply pw_below_drewN | apply below_drew1 | refine below_set ?_ GE199.out | refine below_set ?_ GE200.out | refine below_set ?_ GE201.out) | exact HB.out)) hb)
       clear HO211
       clear HO214
       clear BK199
       clear BK200
       clear BK201
       clear HB
       have HO211 := n0_
       have HO214 := n1_
       have BK199 := n2_
       have BK200 := n3_
       have BK201 := n4_
       have HB := n5_
       clear n0_ n1_ n2_ n3_ n4_ n5_
       (try clear hb)
       (try clear hb2)
       (try clear hk)
       (try clear hi)
       refine hK.out _ _ ⟨(blk_cell BK199.out 0).trans rfl, (blk_cell BK199.out 1).trans rfl, (blk_cell BK199.out 2).trans rfl, (blk_cell BK199.out 3).trans rfl, (blk_cell BK199.out 4).trans rfl, (blk_cell BK199.out 5).trans rfl, (blk_cell BK199.out 6).trans rfl, (blk_cell BK200.out 0).trans rfl, (blk_cell BK200.out 1).trans rfl, (blk_cell BK200.out 2).trans rfl, (blk_cell BK201.out 0).trans rfl, (blk_cell BK201.out 1).trans rfl, (blk_cell BK201.out 2).trans rfl⟩ (fun hHeld => ?_)
       clear hK K
       refine norm_ (a' := ?_) ?_ ?_
       rotate_left
       ·show Act.put _ (some 45) _ = _
        simp only [Act.put, List.setIfInBounds_toArray, List.set_cons_zero, List.set_cons_succ, i64_w, i32_w]
        rfl
       refine pu_ (i := 21) (N := some 46) (tf 24 4194303) HT_ ?_
       refine pu_ (i := 22) (N := some 47) (tf 24 8388607) HT_ ?_
       refine pu_ (i := 23) (N := some 6) (tf 24 16777215) HT_ ?_
       refine done_ (done_of HT_.out (by kernel_rfl)) ?_
       try go_wp2
       go_ret
       exact ⟨by first | rfl | (simp [errW_none, errW_some] <;> rfl) | (simp [*, errW_none, errW_some] <;> rfl), by repeat (first | (with_reducible first | exact HB.out | apply below_alloc | apply pw_below_drewN | apply below_drew1 | refine below_set ?_ GE199.out | refine below_set ?_ GE200.out | refine below_set ?_ GE201.out) | exact HB.out)⟩
     ·replace c48 := Bool.eq_false_iff.mpr c48
      subst c48
      have H1 : (some false) = some r := by rw [if_neg (show ¬ (false = true) by decide)] at H; exact H
      rw [hr_.out] at H1
      exact absurd (Option.some.inj H1) (by decide)
    ·rw [if_neg c44] at H
     rw [hr_.out] at H
     exact absurd (Option.some.inj H) (by decide)

/-- THE ONE PURE STATEMENT of lodgerlaw10_AskChecks: yours. -/
def lodgerlaw10_AskChecks.Pure : Prop := ∀ (a0_0 : Int) (a0_1 : Int) (l0_2 : List Int) (a0_3 : Int) (a0_4 : Int) (a0_5 : Int) (a0_6 : Int) (a1_0 : Int) (a1_1 : Int) (l1_2 : List Int) (a2_0 : Int) (a2_1 : Int) (l2_2 : List Int), (Lit.int .u32 a0_0).wf = true → (Lit.int .i64 a0_1).wf = true → l0_2.length ≤ maxLen → (∀ x ∈ l0_2, (Lit.int .i64 x).wf = true) → (Lit.int .i64 a0_3).wf = true → (Lit.int .i64 a0_4).wf = true → (Lit.int .i64 a0_5).wf = true → (Lit.int .i64 a0_6).wf = true → (Lit.int .i64 a1_0).wf = true → (Lit.int .u32 a1_1).wf = true → l1_2.length ≤ maxLen → (∀ x ∈ l1_2, (Lit.int .u32 x).wf = true) → (Lit.int .i64 a2_0).wf = true → (Lit.int .u32 a2_1).wf = true → l2_2.length ≤ maxLen → (∀ x ∈ l2_2, (Lit.int .u32 x).wf = true) → ∃ k, lodgerlaw10_AskChecks.f k a0_0 a0_1 l0_2 a0_3 a0_4 a0_5 a0_6 a1_0 a1_1 l1_2 a2_0 a2_1 l2_2 = some true
theorem lodgerlaw10_AskChecks.walk (P : lodgerlaw10_AskChecks.Pure) (a0_0 : Int) (a0_1 : Int) (a0_2 : Option Addr) (len0_2 cap0_2 : Nat) (z0_2 : List Int) (a0_3 : Int) (a0_4 : Int) (a0_5 : Int) (a0_6 : Int) (a1_0 : Int) (a1_1 : Int) (a1_2 : Option Addr) (len1_2 cap1_2 : Nat) (z1_2 : List Int) (a2_0 : Int) (a2_1 : Int) (a2_2 : Option Addr) (len2_2 cap2_2 : Nat) (z2_2 : List Int) (w : World) (w0_0 : (Lit.int .u32 a0_0).wf = true) (w0_1 : (Lit.int .i64 a0_1).wf = true) (w0_2 : (a0_2 = none ∧ len0_2 = 0 ∧ cap0_2 = 0 ∧ z0_2 = []) ∨ ∃ x, a0_2 = some x ∧ len0_2 ≤ cap0_2 ∧ cap0_2 ≤ maxLen ∧ z0_2.length = cap0_2 ∧ (∀ i, i < z0_2.length → w.cell? (x.add i) = some (.int .i64 (z0_2.getD i 0))) ∧ ∀ n ∈ z0_2, (Lit.int .i64 n).wf = true) (w0_3 : (Lit.int .i64 a0_3).wf = true) (w0_4 : (Lit.int .i64 a0_4).wf = true) (w0_5 : (Lit.int .i64 a0_5).wf = true) (w0_6 : (Lit.int .i64 a0_6).wf = true) (w1_0 : (Lit.int .i64 a1_0).wf = true) (w1_1 : (Lit.int .u32 a1_1).wf = true) (w1_2 : (a1_2 = none ∧ len1_2 = 0 ∧ cap1_2 = 0 ∧ z1_2 = []) ∨ ∃ x, a1_2 = some x ∧ len1_2 ≤ cap1_2 ∧ cap1_2 ≤ maxLen ∧ z1_2.length = cap1_2 ∧ (∀ i, i < z1_2.length → w.cell? (x.add i) = some (.int .u32 (z1_2.getD i 0))) ∧ ∀ n ∈ z1_2, (Lit.int .u32 n).wf = true) (w2_0 : (Lit.int .i64 a2_0).wf = true) (w2_1 : (Lit.int .u32 a2_1).wf = true) (w2_2 : (a2_2 = none ∧ len2_2 = 0 ∧ cap2_2 = 0 ∧ z2_2 = []) ∨ ∃ x, a2_2 = some x ∧ len2_2 ≤ cap2_2 ∧ cap2_2 ≤ maxLen ∧ z2_2.length = cap2_2 ∧ (∀ i, i < z2_2.length → w.cell? (x.add i) = some (.int .u32 (z2_2.getD i 0))) ∧ ∀ n ∈ z2_2, (Lit.int .u32 n).wf = true) (hG : Lg w) :
  Calls Tryd.prog 3 #[.agg #[.int .u32 a0_0, .int .i64 a0_1, .slice a0_2 len0_2 cap0_2, .int .i64 a0_3, .int .i64 a0_4, .int .i64 a0_5, .int .i64 a0_6], .agg #[.int .i64 a1_0, .int .u32 a1_1, .slice a1_2 len1_2 cap1_2], .agg #[.int .i64 a2_0, .int .u32 a2_1, .slice a2_2 len2_2 cap2_2]] w fun e w' => e = .returned (.bool true) ∧ Below w.heap.size w w' := by
 obtain ⟨l0_2, rfl, hr0_2, hm0_2, hw0_2, hc0_2⟩ := ReadsInt.ofRowC w0_2
 obtain ⟨l1_2, rfl, hr1_2, hm1_2, hw1_2, hc1_2⟩ := ReadsInt.ofRowC w1_2
 obtain ⟨l2_2, rfl, hr2_2, hm2_2, hw2_2, hc2_2⟩ := ReadsInt.ofRowC w2_2
 obtain ⟨k, h⟩ := P a0_0 a0_1 l0_2 a0_3 a0_4 a0_5 a0_6 a1_0 a1_1 l1_2 a2_0 a2_1 l2_2 w0_0 w0_1 hm0_2 hw0_2 w0_3 w0_4 w0_5 w0_6 w1_0 w1_1 hm1_2 hw1_2 w2_0 w2_1 hm2_2 hw2_2
 refine (lodgerlaw10_AskChecks.calls k a0_0 a0_1 _ _ l0_2 a0_3 a0_4 a0_5 a0_6 a1_0 a1_1 _ _ l1_2 a2_0 a2_1 _ _ l2_2 true w (Kd.C_of_reads (d := (0 : Int)) (h1 := fun _ => rfl) hr0_2) hc0_2 (Kd.C_of_reads (d := (0 : Int)) (h1 := fun _ => rfl) hr1_2) hc1_2 (Kd.C_of_reads (d := (0 : Int)) (h1 := fun _ => rfl) hr2_2) hc2_2 hG rfl h).mono ?_
 rintro e w' ⟨rfl, hd⟩
 exact ⟨rfl, hd⟩

end Go.Proofs.YthfcgjmffjmplaaDoor.PAskChecks
