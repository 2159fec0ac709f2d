/- The walk of ModelKeeps, part of it: what the Go functions answer; no condition. -/
import Derived.Test.YthfcgjmffjmplaaQModelKeepsx0
import Derived.Test.YthfcgjmffjmplaaQModelKeepsx2
import Derived.Test.YthfcgjmffjmplaaQModelKeepsx3
import Derived.Test.YthfcgjmffjmplaaQModelKeepsx4
import Derived.Test.YthfcgjmffjmplaaQModelKeepsx5
import Derived.Test.YthfcgjmffjmplaaQModelKeepsx7
import Derived.Test.YthfcgjmffjmplaaQModelKeepsx8
namespace Go.Proofs.Ythfcgjmffjmplaa.PModelKeeps
open Go.RowKit Go.Proofs.YthfcgjmffjmplaaW.PrintWords Go.Proofs.YthfcgjmffjmplaaW.PrintLast Go.Proofs.YthfcgjmffjmplaaW.PrintMore
attribute [local go_sem] max2_int min2_int max_two min_two max_three min_three max_four min_four   -- for this text's walks alone
set_option linter.unusedVariables false
set_option linter.unusedSimpArgs false

/-! ### lodgerlaw09_ModelKeeps: function 6 -/
mutual
def lodgerlaw09_ModelKeeps.j0 : Nat → List Int → Int → Bool → Int → Int → List Int → Int → Int → Int → Int → Option (Bool)
 | 0, _, _, _, _, _, _, _, _, _, _ => none
 | k + 1, x1, x2, x21, x258000, x258001, x258002, x258003, x258004, x258005, x258006 => if x21 = true then ((lodgerlaw09_awake.f k).bind fun t261 => (some t261)) else ((some (([] : List Int) : List Int)).bind fun y262 => (if y262.length + x1.length < 17592186044416 then ((some (y262 ++ x1 : List Int)).bind fun y265 => ((some (([77, 78] : List Int) : List Int)).bind fun y268 => (if y265.length + y268.length < 17592186044416 then ((some (y265 ++ y268 : List Int)).bind fun y271 => (if 0 ≤ (x1.length : Int) then (if (x1.length : Int) ≤ (y271.length : Int) then ((model_With.f k (y271.take ((x1.length : Int) : Int).toNat) x2).bind fun t278 => ((model_Without.f k (y271.take ((x1.length : Int) : Int).toNat) x2).bind fun t285 => ((lodgerref09_May.f k x258000 x258001 x258002 x258003 x258004 x258005 x258006 x1).bind fun t288 => (if t288 = true then ((model_Addrs.f k x258000 x258001 x258002 x258003 x258004 x258005 x258006 (y271.take ((x1.length : Int) : Int).toNat)).bind fun t293 => (lodgerlaw09_ModelKeeps.l0 k x1 y271 t293 0)) else ((lodgerref03_Ints.f k (y271.take ((x1.length : Int) : Int).toNat) x1).bind fun t308 => (if t308 = true then (if (x1.length : Int) < (y271.length : Int) then (if (rd y271 (x1.length : Int)) = 77 then (if 0 ≤ (wrap64 ((x1.length : Int) + 1)) then (if (wrap64 ((x1.length : Int) + 1)) < (y271.length : Int) then (some ((rd y271 (wrap64 ((x1.length : Int) + 1))) == 78)) else (none)) else (none)) else (some false)) else (none)) else (some false))))))) else (none)) else (none))) else (none)))) else (none)))
def lodgerlaw09_ModelKeeps.l0 : Nat → List Int → List Int → List Int → Int → Option (Bool)
 | 0, _, _, _, _ => none
 | k + 1, x1, x7, x8, x9 => if x9 < (x8.length : Int) then (if 0 ≤ x9 then (lodgerlaw09_ModelKeeps.l0 k x1 x7 (x8.set (x9 : Int).toNat 5) (wrap64 (x9 + 1))) else (none)) else (if 0 ≤ (x1.length : Int) then (if (x1.length : Int) ≤ (x7.length : Int) then ((lodgerref03_Ints.f k (x7.take ((x1.length : Int) : Int).toNat) x1).bind fun t301 => (if t301 = true then (if (x1.length : Int) < (x7.length : Int) then (if (rd x7 (x1.length : Int)) = 77 then (if 0 ≤ (wrap64 ((x1.length : Int) + 1)) then (if (wrap64 ((x1.length : Int) + 1)) < (x7.length : Int) then (some ((rd x7 (wrap64 ((x1.length : Int) + 1))) == 78)) else (none)) else (none)) else (some false)) else (none)) else (some false))) else (none)) else (none))
end
def lodgerlaw09_ModelKeeps.f (k : Nat) (a0_0 : Int) (a0_1 : Int) (l0_2 : List Int) (a0_3 : Int) (a0_4 : Int) (a0_5 : Int) (a0_6 : Int) (l1 : List Int) (a2 : Int) : Option (Bool) := (lodgerlaw09_awake.f k).bind fun t258 => (if t258 = true then ((lodgerref09_Rises.f k l1).bind fun t259 => (if t259 = true then ((lodgerref05_May.f k a0_0 a0_1 l0_2 a0_3 a0_4 a0_5 a0_6).bind fun t260 => (lodgerlaw09_ModelKeeps.j0 k l1 a2 (!t260) a0_0 a0_1 l0_2 a0_3 a0_4 a0_5 a0_6)) else (lodgerlaw09_ModelKeeps.j0 k l1 a2 true a0_0 a0_1 l0_2 a0_3 a0_4 a0_5 a0_6))) else (lodgerlaw09_ModelKeeps.j0 k l1 a2 true a0_0 a0_1 l0_2 a0_3 a0_4 a0_5 a0_6))
theorem lodgerlaw09_ModelKeeps.mono_l : ∀ k, (∀ y0 y1 y2 y3 y4 y5 y6 y7 y8 y9, LeO (lodgerlaw09_ModelKeeps.j0 k y0 y1 y2 y3 y4 y5 y6 y7 y8 y9) (lodgerlaw09_ModelKeeps.j0 (k + 1) y0 y1 y2 y3 y4 y5 y6 y7 y8 y9)) ∧ (∀ y0 y1 y2 y3, LeO (lodgerlaw09_ModelKeeps.l0 k y0 y1 y2 y3) (lodgerlaw09_ModelKeeps.l0 (k + 1) y0 y1 y2 y3))
 | 0 => ⟨fun _ _ _ _ _ _ _ _ _ _ r h => by simp [lodgerlaw09_ModelKeeps.j0] at h, fun _ _ _ _ r h => by simp [lodgerlaw09_ModelKeeps.l0] at h⟩
 | k + 1 => by
  obtain ⟨ih0, ih1⟩ := lodgerlaw09_ModelKeeps.mono_l k
  refine ⟨?_, ?_⟩
  ·intro y0 y1 y2 y3 y4 y5 y6 y7 y8 y9
   unfold lodgerlaw09_ModelKeeps.j0
   repeat' first
   | (with_reducible exact ih0 _ _ _ _ _ _ _ _ _ _)
   | (with_reducible exact ih1 _ _ _ _)
   | (with_reducible exact lodgerlaw09_awake.mono _)
   | (with_reducible exact lodgerref03_Ints.mono _ _ _)
   | (with_reducible exact lodgerref05_May.mono _ _ _ _ _ _ _ _)
   | (with_reducible exact lodgerref09_May.mono _ _ _ _ _ _ _ _ _)
   | (with_reducible exact lodgerref09_Rises.mono _ _)
   | (with_reducible exact model_Addrs.mono _ _ _ _ _ _ _ _ _)
   | (with_reducible exact model_With.mono _ _ _)
   | (with_reducible exact model_Without.mono _ _ _)
   | (with_reducible exact LeO.refl _)
   | (with_reducible exact LeO.none _)
   | (with_reducible refine LeO.ite ?_ ?_)
   | (with_reducible refine LeO.bind ?_ (fun _ => ?_))
   | exact ih0 _ _ _ _ _ _ _ _ _ _
   | exact ih1 _ _ _ _
   | exact lodgerlaw09_awake.mono _
   | exact lodgerref03_Ints.mono _ _ _
   | exact lodgerref05_May.mono _ _ _ _ _ _ _ _
   | exact lodgerref09_May.mono _ _ _ _ _ _ _ _ _
   | exact lodgerref09_Rises.mono _ _
   | exact model_Addrs.mono _ _ _ _ _ _ _ _ _
   | exact model_With.mono _ _ _
   | exact model_Without.mono _ _ _
   | exact LeO.none _
   | refine LeO.ite ?_ ?_
   | refine LeO.bind ?_ (fun _ => ?_)
  ·intro y0 y1 y2 y3
   unfold lodgerlaw09_ModelKeeps.l0
   repeat' first
   | (with_reducible exact ih0 _ _ _ _ _ _ _ _ _ _)
   | (with_reducible exact ih1 _ _ _ _)
   | (with_reducible exact lodgerlaw09_awake.mono _)
   | (with_reducible exact lodgerref03_Ints.mono _ _ _)
   | (with_reducible exact lodgerref05_May.mono _ _ _ _ _ _ _ _)
   | (with_reducible exact lodgerref09_May.mono _ _ _ _ _ _ _ _ _)
   | (with_reducible exact lodgerref09_Rises.mono _ _)
   | (with_reducible exact model_Addrs.mono _ _ _ _ _ _ _ _ _)
   | (with_reducible exact model_With.mono _ _ _)
   | (with_reducible exact model_Without.mono _ _ _)
   | (with_reducible exact LeO.refl _)
   | (with_reducible exact LeO.none _)
   | (with_reducible refine LeO.ite ?_ ?_)
   | (with_reducible refine LeO.bind ?_ (fun _ => ?_))
   | exact ih0 _ _ _ _ _ _ _ _ _ _
   | exact ih1 _ _ _ _
   | exact lodgerlaw09_awake.mono _
   | exact lodgerref03_Ints.mono _ _ _
   | exact lodgerref05_May.mono _ _ _ _ _ _ _ _
   | exact lodgerref09_May.mono _ _ _ _ _ _ _ _ _
   | exact lodgerref09_Rises.mono _ _
   | exact model_Addrs.mono _ _ _ _ _ _ _ _ _
   | exact model_With.mono _ _ _
   | exact model_Without.mono _ _ _
   | exact LeO.none _
   | refine LeO.ite ?_ ?_
   | refine LeO.bind ?_ (fun _ => ?_)
theorem lodgerlaw09_ModelKeeps.mono : ∀ a0 a1 a2 a3 a4 a5 a6 a7 a8 k, LeO (lodgerlaw09_ModelKeeps.f k a0 a1 a2 a3 a4 a5 a6 a7 a8) (lodgerlaw09_ModelKeeps.f (k + 1) a0 a1 a2 a3 a4 a5 a6 a7 a8) := by
 intro a0 a1 a2 a3 a4 a5 a6 a7 a8 k
 obtain ⟨ih0, ih1⟩ := lodgerlaw09_ModelKeeps.mono_l k
 unfold lodgerlaw09_ModelKeeps.f
 repeat' first
   | (with_reducible exact ih0 _ _ _ _ _ _ _ _ _ _)
   | (with_reducible exact ih1 _ _ _ _)
   | (with_reducible exact lodgerlaw09_awake.mono _)
   | (with_reducible exact lodgerref03_Ints.mono _ _ _)
   | (with_reducible exact lodgerref05_May.mono _ _ _ _ _ _ _ _)
   | (with_reducible exact lodgerref09_May.mono _ _ _ _ _ _ _ _ _)
   | (with_reducible exact lodgerref09_Rises.mono _ _)
   | (with_reducible exact model_Addrs.mono _ _ _ _ _ _ _ _ _)
   | (with_reducible exact model_With.mono _ _ _)
   | (with_reducible exact model_Without.mono _ _ _)
   | (with_reducible exact LeO.refl _)
   | (with_reducible exact LeO.none _)
   | (with_reducible refine LeO.ite ?_ ?_)
   | (with_reducible refine LeO.bind ?_ (fun _ => ?_))
   | exact ih0 _ _ _ _ _ _ _ _ _ _
   | exact ih1 _ _ _ _
   | exact lodgerlaw09_awake.mono _
   | exact lodgerref03_Ints.mono _ _ _
   | exact lodgerref05_May.mono _ _ _ _ _ _ _ _
   | exact lodgerref09_May.mono _ _ _ _ _ _ _ _ _
   | exact lodgerref09_Rises.mono _ _
   | exact model_Addrs.mono _ _ _ _ _ _ _ _ _
   | exact model_With.mono _ _ _
   | exact model_Without.mono _ _ _
   | exact LeO.none _
   | refine LeO.ite ?_ ?_
   | refine LeO.bind ?_ (fun _ => ?_)
set_option maxHeartbeats 8000000 in
set_option maxRecDepth 100000 in
theorem lodgerlaw09_ModelKeeps.calls (k : Nat) (a0_0 : Int) (a0_1 : Int) (A0_2 : Option Addr) (c0_2 : Nat) (l0_2 : List Int) (a0_3 : Int) (a0_4 : Int) (a0_5 : Int) (a0_6 : Int) (A1 : Option Addr) (c1 : Nat) (l1 : List Int) (a2 : Int) (r : Bool) (w : World) (hr0_2 : Kd.C (Kd.int .i64) w A0_2 l0_2.length l0_2) (hc0_2 : l0_2.length ≤ c0_2) (hr1 : Kd.C (Kd.int .i64) w A1 l1.length l1) (hc1 : l1.length ≤ c1) (hr_ : r = true) (h : lodgerlaw09_ModelKeeps.f k a0_0 a0_1 l0_2 a0_3 a0_4 a0_5 a0_6 l1 a2 = some r) :
  Calls Try.prog 6 #[.agg #[.int .u32 a0_0, .int .i64 a0_1, .slice A0_2 l0_2.length c0_2, .int .i64 a0_3, .int .i64 a0_4, .int .i64 a0_5, .int .i64 a0_6], .slice A1 l1.length c1, .int .i64 a2] w fun e w' => e = .returned (.bool r) ∧ Below w.heap.size w w' := by
 have hu27 := Try.underlying27
 have HR0_2 := Aside0.mk hr0_2
 have HC0_2 := Aside0.mk hc0_2
 clear hr0_2 hc0_2
 have HR1 := Aside0.mk hr1
 have HC1 := Aside0.mk hc1
 clear hr1 hc1
 have HB := Aside0.mk (Below.refl w.heap.size w)
 replace hr_ := Aside0.mk hr_
 have H : ((lodgerlaw09_awake.f k).bind fun t258 => (if t258 = true then ((lodgerref09_Rises.f k l1).bind fun t259 => (if t259 = true then ((lodgerref05_May.f k a0_0 a0_1 l0_2 a0_3 a0_4 a0_5 a0_6).bind fun t260 => (lodgerlaw09_ModelKeeps.j0 k l1 a2 (!t260) a0_0 a0_1 l0_2 a0_3 a0_4 a0_5 a0_6)) else (lodgerlaw09_ModelKeeps.j0 k l1 a2 true a0_0 a0_1 l0_2 a0_3 a0_4 a0_5 a0_6))) else (lodgerlaw09_ModelKeeps.j0 k l1 a2 true a0_0 a0_1 l0_2 a0_3 a0_4 a0_5 a0_6))) = some r := h
 clear h
 have HC4 := Aside0.mk H
 clear H
 go_enter Try.func6, Try.ntmps6
 go_upto_region 1 with (first | ((with_reducible refine gate_dst (N := 3) rfl ?_); (try (refine gate_guard (by rfl) ?_; dsimp only)); refine box_event ?hg (N := 3) ?hd (cs := #[.int .u32 a0_0, .int .i64 a0_1, .slice A0_2 l0_2.length c0_2, .int .i64 a0_3, .int .i64 a0_4, .int .i64 a0_5, .int .i64 a0_6]) (t := 27) ?hr ?_; (case hd => rfl); (case hg => rfl); (case hr => first | (go_simp; done) | (go_simp; rfl)); intro gb257 hg w5 hbox hb; have n0_ := Aside0.mk (below_step (by repeat (first | (with_reducible first | exact HB.out | apply below_alloc | apply pw_below_drewN | apply below_drew1) | exact HB.out)) hb); have n1_ := Aside0.mk (hbox); have n2_ := Aside0.mk ((by rw [hg]; exact (below_size (by repeat (first | (with_reducible first | exact HB.out | apply below_alloc | apply pw_below_drewN | apply below_drew1) | exact HB.out))) : w.heap.size ≤ gb257)); have n3_ := Aside0.mk ((by rw [hg]; exact (below_size (by repeat (first | (with_reducible first | exact HB.out | apply below_alloc | apply pw_below_drewN | apply below_drew1) | exact HB.out))) : w.heap.size ≤ gb257)); clear HB; have HB := n0_; have BK257 := n1_; have GW257 := n2_; have GE257 := n3_; clear n0_ n1_ n2_ n3_; clear hb hbox hg))
 (try simp only [Act.put, List.setIfInBounds_toArray, List.set_cons_zero, List.set_cons_succ])
 go_cut [21] (fun v21 wc => ∃ (kq : Nat) (x21_3 : Bool), v21 = .bool x21_3 ∧ Aside0 (lodgerlaw09_ModelKeeps.j0 kq l1 a2 x21_3 a0_0 a0_1 l0_2 a0_3 a0_4 a0_5 a0_6 = some r) ∧ Aside0 (kq ≤ k) ∧ Aside0 (wc.heap[gb257]? = some (.cells #[.int .u32 a0_0, .int .i64 a0_1, (.slice A0_2 l0_2.length c0_2), .int .i64 a0_3, .int .i64 a0_4, .int .i64 a0_5, .int .i64 a0_6] 27 (0, 0))) ∧ Aside0 (Below w.heap.size w wc))
 case first =>
  have H := HC4.out
  clear HC4
  replace H := Option.bind_eq_some_iff.mp H
  obtain ⟨t258, A60, H⟩ := H
  replace H : (if t258 = true then ((lodgerref09_Rises.f k l1).bind fun t259 => (if t259 = true then ((lodgerref05_May.f k a0_0 a0_1 l0_2 a0_3 a0_4 a0_5 a0_6).bind fun t260 => (lodgerlaw09_ModelKeeps.j0 k l1 a2 (!t260) a0_0 a0_1 l0_2 a0_3 a0_4 a0_5 a0_6)) else (lodgerlaw09_ModelKeeps.j0 k l1 a2 true a0_0 a0_1 l0_2 a0_3 a0_4 a0_5 a0_6))) else (lodgerlaw09_ModelKeeps.j0 k l1 a2 true a0_0 a0_1 l0_2 a0_3 a0_4 a0_5 a0_6)) = some r := H
  have A6 := Aside0.mk A60
  clear A60
  by_cases c7 : t258 = true
  ·subst c7
   have H1 : ((lodgerref09_Rises.f k l1).bind fun t259 => (if t259 = true then ((lodgerref05_May.f k a0_0 a0_1 l0_2 a0_3 a0_4 a0_5 a0_6).bind fun t260 => (lodgerlaw09_ModelKeeps.j0 k l1 a2 (!t260) a0_0 a0_1 l0_2 a0_3 a0_4 a0_5 a0_6)) else (lodgerlaw09_ModelKeeps.j0 k l1 a2 true a0_0 a0_1 l0_2 a0_3 a0_4 a0_5 a0_6))) = some r := by rw [if_pos rfl] at H; exact H
   clear H
   have H := H1
   clear H1
   replace H := Option.bind_eq_some_iff.mp H
   obtain ⟨t259, A80, H⟩ := H
   replace H : (if t259 = true then ((lodgerref05_May.f k a0_0 a0_1 l0_2 a0_3 a0_4 a0_5 a0_6).bind fun t260 => (lodgerlaw09_ModelKeeps.j0 k l1 a2 (!t260) a0_0 a0_1 l0_2 a0_3 a0_4 a0_5 a0_6)) else (lodgerlaw09_ModelKeeps.j0 k l1 a2 true a0_0 a0_1 l0_2 a0_3 a0_4 a0_5 a0_6)) = some r := H
   have A8 := Aside0.mk A80
   clear A80
   by_cases c9 : t259 = true
   ·subst c9
    have H1 : ((lodgerref05_May.f k a0_0 a0_1 l0_2 a0_3 a0_4 a0_5 a0_6).bind fun t260 => (lodgerlaw09_ModelKeeps.j0 k l1 a2 (!t260) a0_0 a0_1 l0_2 a0_3 a0_4 a0_5 a0_6)) = some r := by rw [if_pos rfl] at H; exact H
    clear H
    have H := H1
    clear H1
    replace H := Option.bind_eq_some_iff.mp H
    obtain ⟨t260, A100, H⟩ := H
    replace H : (lodgerlaw09_ModelKeeps.j0 k l1 a2 (!t260) a0_0 a0_1 l0_2 a0_3 a0_4 a0_5 a0_6) = some r := H
    have A10 := Aside0.mk A100
    clear A100
    have H' := Aside0.mk H
    clear H
    go_wp2_with (first | ((with_reducible refine gate_callee (f := 9) rfl ?_); refine goesL_ (some 10) rfl rfl Try.func9 (by kernel_rfl) rfl #[] rfl (by (try simp only [List.map_toArray, List.map_cons, List.map_nil]); first | done | rfl | (simp only [List.length_drop, List.length_take]; rfl)) ?_; (with_reducible refine (lodgerlaw09_awake.calls k  true _ A6.out).mono ?_); rintro e w11 ⟨rfl, hb⟩; refine ⟨_, rfl, ?_⟩; have n0_ := Aside0.mk (blk_below (g := gb257) (o := .cells #[.int .u32 a0_0, .int .i64 a0_1, .slice A0_2 l0_2.length c0_2, .int .i64 a0_3, .int .i64 a0_4, .int .i64 a0_5, .int .i64 a0_6] 27 (0, 0)) (by (with_reducible repeat (first | refine blk_drewN ?_ _ | refine blk_drew ?_ | refine blk_alloc ?_ _)); exact BK257.out) hb); have n1_ := Aside0.mk (below_step (by repeat (first | (with_reducible first | exact HB.out | apply below_alloc | apply pw_below_drewN | apply below_drew1 | refine below_set ?_ GE257.out) | exact HB.out)) hb); clear BK257; clear HB; have BK257 := n0_; have HB := n1_; clear n0_ n1_; (try clear hb); (try clear hb2); (try clear hk); (try clear hi)) | (go_at_call 13; (with_reducible refine (lodgerref09_Rises.calls k _ _ l1 true _ ?side1 ?side2 A8.out).mono ?_); (case side1 => repeat (first | exact (Kd.C_below HR1.out HB.out) | (with_reducible refine Kd.C_alloc ?_ _) | (with_reducible refine Kd.C_drewN ?_ _) | (with_reducible refine Kd.C_drew ?_))); (case side2 => exact HC1.out); rintro e w' ⟨rfl, ⟨nd, rfl⟩⟩; have hcz12_0 : w11.cell? ⟨gb257, 0, none⟩ = some (.int .u32 a0_0) := (blk_cell BK257.out 0).trans rfl; have hcz12_1 : w11.cell? ⟨gb257, 1, none⟩ = some (.int .i64 a0_1) := (blk_cell BK257.out 1).trans rfl; have hcz12_2 : w11.cell? ⟨gb257, 2, none⟩ = some (.slice A0_2 l0_2.length c0_2) := (blk_cell BK257.out 2).trans rfl; have hcz12_3 : w11.cell? ⟨gb257, 3, none⟩ = some (.int .i64 a0_3) := (blk_cell BK257.out 3).trans rfl; have hcz12_4 : w11.cell? ⟨gb257, 4, none⟩ = some (.int .i64 a0_4) := (blk_cell BK257.out 4).trans rfl; have hcz12_5 : w11.cell? ⟨gb257, 5, none⟩ = some (.int .i64 a0_5) := (blk_cell BK257.out 5).trans rfl; have hcz12_6 : w11.cell? ⟨gb257, 6, none⟩ = some (.int .i64 a0_6) := (blk_cell BK257.out 6).trans rfl; have hfz12_0 := blk_frozen BK257.out 0; have hfz12_1 := blk_frozen BK257.out 1; have hfz12_2 := blk_frozen BK257.out 2; have hfz12_3 := blk_frozen BK257.out 3; have hfz12_4 := blk_frozen BK257.out 4; have hfz12_5 := blk_frozen BK257.out 5; have hfz12_6 := blk_frozen BK257.out 6) | (go_at_call 10; (with_reducible refine (lodgerref05_May.calls k a0_0 a0_1 _ _ l0_2 a0_3 a0_4 a0_5 a0_6 t260 _ ?side1 ?side2 A10.out).mono ?_); (case side1 => repeat (first | exact (Kd.C_below HR0_2.out (by repeat (first | (with_reducible first | exact HB.out | apply below_alloc | apply pw_below_drewN | apply below_drew1 | refine below_set ?_ GE257.out) | exact HB.out))) | (with_reducible refine Kd.C_alloc ?_ _) | (with_reducible refine Kd.C_drewN ?_ _) | (with_reducible refine Kd.C_drew ?_))); (case side2 => exact HC0_2.out); rintro e w13 ⟨rfl, hb⟩; have n0_ := Aside0.mk (blk_below (g := gb257) (o := .cells #[.int .u32 a0_0, .int .i64 a0_1, .slice A0_2 l0_2.length c0_2, .int .i64 a0_3, .int .i64 a0_4, .int .i64 a0_5, .int .i64 a0_6] 27 (0, 0)) (by (with_reducible repeat (first | refine blk_drewN ?_ _ | refine blk_drew ?_ | refine blk_alloc ?_ _)); exact BK257.out) hb); have n1_ := Aside0.mk (below_step (by repeat (first | (with_reducible first | exact HB.out | apply below_alloc | apply pw_below_drewN | apply below_drew1 | refine below_set ?_ GE257.out) | exact HB.out)) hb); clear BK257; clear HB; have BK257 := n0_; have HB := n1_; clear n0_ n1_; (try clear hb); (try clear hb2); (try clear hk); (try clear hi)))
    go_meet
    case rel => exact ⟨_, (!t260), (by first | rfl | (simp; done) | (simp [*]; done)), H', ⟨by first | omega | exact Nat.le_refl _⟩, ⟨by (with_reducible repeat (first | refine blk_drewN ?_ _ | refine blk_drew ?_ | refine blk_alloc ?_ _)); exact BK257.out⟩, ⟨by repeat (first | (with_reducible first | exact HB.out | apply below_alloc | apply pw_below_drewN | apply below_drew1 | refine below_set ?_ GE257.out) | exact HB.out)⟩⟩
   ·replace c9 := Bool.eq_false_iff.mpr c9
    subst c9
    have H1 : (lodgerlaw09_ModelKeeps.j0 k l1 a2 true a0_0 a0_1 l0_2 a0_3 a0_4 a0_5 a0_6) = some r := by rw [if_neg (show ¬ (false = true) by decide)] at H; exact H
    clear H
    have H := H1
    clear H1
    have H' := Aside0.mk H
    clear H
    go_wp2_with (first | ((with_reducible refine gate_callee (f := 9) rfl ?_); refine goesL_ (some 10) rfl rfl Try.func9 (by kernel_rfl) rfl #[] rfl (by (try simp only [List.map_toArray, List.map_cons, List.map_nil]); first | done | rfl | (simp only [List.length_drop, List.length_take]; rfl)) ?_; (with_reducible refine (lodgerlaw09_awake.calls k  true _ A6.out).mono ?_); rintro e w14 ⟨rfl, hb⟩; refine ⟨_, rfl, ?_⟩; have n0_ := Aside0.mk (blk_below (g := gb257) (o := .cells #[.int .u32 a0_0, .int .i64 a0_1, .slice A0_2 l0_2.length c0_2, .int .i64 a0_3, .int .i64 a0_4, .int .i64 a0_5, .int .i64 a0_6] 27 (0, 0)) (by (with_reducible repeat (first | refine blk_drewN ?_ _ | refine blk_drew ?_ | refine blk_alloc ?_ _)); exact BK257.out) hb); have n1_ := Aside0.mk (below_step (by repeat (first | (with_reducible first | exact HB.out | apply below_alloc | apply pw_below_drewN | apply below_drew1 | refine below_set ?_ GE257.out) | exact HB.out)) hb); clear BK257; clear HB; have BK257 := n0_; have HB := n1_; clear n0_ n1_; (try clear hb); (try clear hb2); (try clear hk); (try clear hi)) | (go_at_call 13; (with_reducible refine (lodgerref09_Rises.calls k _ _ l1 false _ ?side1 ?side2 A8.out).mono ?_); (case side1 => repeat (first | exact (Kd.C_below HR1.out HB.out) | (with_reducible refine Kd.C_alloc ?_ _) | (with_reducible refine Kd.C_drewN ?_ _) | (with_reducible refine Kd.C_drew ?_))); (case side2 => exact HC1.out); rintro e w' ⟨rfl, ⟨nd, rfl⟩⟩))
    go_meet
    case rel => exact ⟨_, (true), (by first | rfl | (simp; done) | (simp [*]; done)), H', ⟨by first | omega | exact Nat.le_refl _⟩, ⟨by (with_reducible repeat (first | refine blk_drewN ?_ _ | refine blk_drew ?_ | refine blk_alloc ?_ _)); exact BK257.out⟩, ⟨by repeat (first | (with_reducible first | exact HB.out | apply below_alloc | apply pw_below_drewN | apply below_drew1 | refine below_set ?_ GE257.out) | exact HB.out)⟩⟩
  ·replace c7 := Bool.eq_false_iff.mpr c7
   subst c7
   have H1 : (lodgerlaw09_ModelKeeps.j0 k l1 a2 true a0_0 a0_1 l0_2 a0_3 a0_4 a0_5 a0_6) = some r := by rw [if_neg (show ¬ (false = true) by decide)] at H; exact H
   clear H
   have H := H1
   clear H1
   have H' := Aside0.mk H
   clear H
   go_wp2_with (first | ((with_reducible refine gate_callee (f := 9) rfl ?_); refine goesL_ (some 10) rfl rfl Try.func9 (by kernel_rfl) rfl #[] rfl (by (try simp only [List.map_toArray, List.map_cons, List.map_nil]); first | done | rfl | (simp only [List.length_drop, List.length_take]; rfl)) ?_; (with_reducible refine (lodgerlaw09_awake.calls k  false _ A6.out).mono ?_); rintro e w15 ⟨rfl, hb⟩; refine ⟨_, rfl, ?_⟩; have n0_ := Aside0.mk (blk_below (g := gb257) (o := .cells #[.int .u32 a0_0, .int .i64 a0_1, .slice A0_2 l0_2.length c0_2, .int .i64 a0_3, .int .i64 a0_4, .int .i64 a0_5, .int .i64 a0_6] 27 (0, 0)) (by (with_reducible repeat (first | refine blk_drewN ?_ _ | refine blk_drew ?_ | refine blk_alloc ?_ _)); exact BK257.out) hb); have n1_ := Aside0.mk (below_step (by repeat (first | (with_reducible first | exact HB.out | apply below_alloc | apply pw_below_drewN | apply below_drew1 | refine below_set ?_ GE257.out) | exact HB.out)) hb); clear BK257; clear HB; have BK257 := n0_; have HB := n1_; clear n0_ n1_; (try clear hb); (try clear hb2); (try clear hk); (try clear hi)))
   go_meet
   case rel => exact ⟨_, (true), (by first | rfl | (simp; done) | (simp [*]; done)), H', ⟨by first | omega | exact Nat.le_refl _⟩, ⟨by (with_reducible repeat (first | refine blk_drewN ?_ _ | refine blk_drew ?_ | refine blk_alloc ?_ _)); exact BK257.out⟩, ⟨by repeat (first | (with_reducible first | exact HB.out | apply below_alloc | apply pw_below_drewN | apply below_drew1 | refine below_set ?_ GE257.out) | exact HB.out)⟩⟩
 case rest =>
  clear HC4
  try clear c1
  try clear p2
  try clear c6
  try clear c7
  try clear c9
  try clear hcz12_0
  try clear hcz12_1
  try clear hcz12_2
  try clear hcz12_3
  try clear hcz12_4
  try clear hcz12_5
  try clear hcz12_6
  try clear hfz12_0
  try clear hfz12_1
  try clear hfz12_2
  try clear hfz12_3
  try clear hfz12_4
  try clear hfz12_5
  try clear hfz12_6
  obtain ⟨kq, x21_3, rfl, HA, HJ3, BK257, HB⟩ := hcut
  cases kq with
  | zero => exact absurd HA.out (by simp [lodgerlaw09_ModelKeeps.j0])
  | succ kj3 =>
   have H := HA.out
   clear HA
   simp only [lodgerlaw09_ModelKeeps.j0] at H
   by_cases c16 : x21_3 = true
   ·subst c16
    have H1 : ((lodgerlaw09_awake.f kj3).bind fun t261 => (some t261)) = some r := by rw [if_pos rfl] at H; exact H
    clear H
    have H := H1
    clear H1
    replace H := Option.bind_eq_some_iff.mp H
    obtain ⟨t261, A170, H⟩ := H
    replace H : (some t261) = some r := H
    have A17 := Aside0.mk A170
    clear A170
    first | (exfalso; rw [hr_.out] at H; exact absurd (Option.some.inj H) (by decide)) | (try clear hr_)
    all_goals
     obtain rfl := Option.some.inj H
     go_wp2_with (first | ((with_reducible refine gate_callee (f := 9) rfl ?_); refine goesL_ (some 22) rfl rfl Try.func9 (by kernel_rfl) rfl #[] rfl (by (try simp only [List.map_toArray, List.map_cons, List.map_nil]); first | done | rfl | (simp only [List.length_drop, List.length_take]; rfl)) ?_; (with_reducible refine (lodgerlaw09_awake.calls kj3  t261 _ A17.out).mono ?_); rintro e w18 ⟨rfl, hb⟩; refine ⟨_, rfl, ?_⟩; have n0_ := Aside0.mk (blk_below (g := gb257) (o := .cells #[.int .u32 a0_0, .int .i64 a0_1, .slice A0_2 l0_2.length c0_2, .int .i64 a0_3, .int .i64 a0_4, .int .i64 a0_5, .int .i64 a0_6] 27 (0, 0)) (by (with_reducible repeat (first | refine blk_drewN ?_ _ | refine blk_drew ?_ | refine blk_alloc ?_ _)); exact BK257.out) hb); have n1_ := Aside0.mk (below_step (by repeat (first | (with_reducible first | exact HB.out | apply below_alloc | apply pw_below_drewN | apply below_drew1 | refine below_set ?_ GE257.out) | exact HB.out)) hb); clear BK257; clear HB; have BK257 := n0_; have HB := n1_; clear n0_ n1_; (try clear hb); (try clear hb2); (try clear hk); (try clear hi)))
     go_ret
     exact ⟨by first | rfl | (simp [errW_none, errW_some] <;> rfl) | (simp [*, errW_none, errW_some] <;> rfl), by repeat (first | (with_reducible first | exact HB.out | apply below_alloc | apply pw_below_drewN | apply below_drew1 | refine below_set ?_ GE257.out) | exact HB.out)⟩
   ·replace c16 := Bool.eq_false_iff.mpr c16
    subst c16
    have H1 : ((some (([] : List Int) : List Int)).bind fun y262 => (if y262.length + l1.length < 17592186044416 then ((some (y262 ++ l1 : List Int)).bind fun y265 => ((some (([77, 78] : List Int) : List Int)).bind fun y268 => (if y265.length + y268.length < 17592186044416 then ((some (y265 ++ y268 : List Int)).bind fun y271 => (if 0 ≤ (l1.length : Int) then (if (l1.length : Int) ≤ (y271.length : Int) then ((model_With.f kj3 (y271.take ((l1.length : Int) : Int).toNat) a2).bind fun t278 => ((model_Without.f kj3 (y271.take ((l1.length : Int) : Int).toNat) a2).bind fun t285 => ((lodgerref09_May.f kj3 a0_0 a0_1 l0_2 a0_3 a0_4 a0_5 a0_6 l1).bind fun t288 => (if t288 = true then ((model_Addrs.f kj3 a0_0 a0_1 l0_2 a0_3 a0_4 a0_5 a0_6 (y271.take ((l1.length : Int) : Int).toNat)).bind fun t293 => (lodgerlaw09_ModelKeeps.l0 kj3 l1 y271 t293 0)) else ((lodgerref03_Ints.f kj3 (y271.take ((l1.length : Int) : Int).toNat) l1).bind fun t308 => (if t308 = true then (if (l1.length : Int) < (y271.length : Int) then (if (rd y271 (l1.length : Int)) = 77 then (if 0 ≤ (wrap64 ((l1.length : Int) + 1)) then (if (wrap64 ((l1.length : Int) + 1)) < (y271.length : Int) then (some ((rd y271 (wrap64 ((l1.length : Int) + 1))) == 78)) else (none)) else (none)) else (some false)) else (none)) else (some false))))))) else (none)) else (none))) else (none)))) else (none))) = some r := by rw [if_neg (show ¬ (false = true) by decide)] at H; exact H
    clear H
    have H := H1
    clear H1
    obtain ⟨y262, hy262⟩ : ∃ y_ : List Int, y_ = (([] : List Int)) := ⟨_, rfl⟩
    replace H : (if y262.length + l1.length < 17592186044416 then ((some (y262 ++ l1 : List Int)).bind fun y265 => ((some (([77, 78] : List Int) : List Int)).bind fun y268 => (if y265.length + y268.length < 17592186044416 then ((some (y265 ++ y268 : List Int)).bind fun y271 => (if 0 ≤ (l1.length : Int) then (if (l1.length : Int) ≤ (y271.length : Int) then ((model_With.f kj3 (y271.take ((l1.length : Int) : Int).toNat) a2).bind fun t278 => ((model_Without.f kj3 (y271.take ((l1.length : Int) : Int).toNat) a2).bind fun t285 => ((lodgerref09_May.f kj3 a0_0 a0_1 l0_2 a0_3 a0_4 a0_5 a0_6 l1).bind fun t288 => (if t288 = true then ((model_Addrs.f kj3 a0_0 a0_1 l0_2 a0_3 a0_4 a0_5 a0_6 (y271.take ((l1.length : Int) : Int).toNat)).bind fun t293 => (lodgerlaw09_ModelKeeps.l0 kj3 l1 y271 t293 0)) else ((lodgerref03_Ints.f kj3 (y271.take ((l1.length : Int) : Int).toNat) l1).bind fun t308 => (if t308 = true then (if (l1.length : Int) < (y271.length : Int) then (if (rd y271 (l1.length : Int)) = 77 then (if 0 ≤ (wrap64 ((l1.length : Int) + 1)) then (if (wrap64 ((l1.length : Int) + 1)) < (y271.length : Int) then (some ((rd y271 (wrap64 ((l1.length : Int) + 1))) == 78)) else (none)) else (none)) else (some false)) else (none)) else (some false))))))) else (none)) else (none))) else (none)))) else (none)) = some r := by first | (rw [hy262]; with_reducible exact H) | (have H2_ := (Option.bind_some _ _).symm.trans H; rw [hy262]; with_reducible exact H2_) | (have H2_ := (Option.bind_some _ _).symm.trans H; with_reducible exact H2_) | with_reducible exact H | (rw [hy262]; exact H) | exact H
    have Ny262 := Aside0.mk hy262
    clear hy262
    by_cases c19 : y262.length + l1.length < 17592186044416
    ·rw [if_pos c19] at H
     have LMc19 := Aside0.mk c19
     clear c19
     obtain ⟨y265, hy265⟩ : ∃ y_ : List Int, y_ = (y262 ++ l1) := ⟨_, rfl⟩
     replace H : ((some (([77, 78] : List Int) : List Int)).bind fun y268 => (if y265.length + y268.length < 17592186044416 then ((some (y265 ++ y268 : List Int)).bind fun y271 => (if 0 ≤ (l1.length : Int) then (if (l1.length : Int) ≤ (y271.length : Int) then ((model_With.f kj3 (y271.take ((l1.length : Int) : Int).toNat) a2).bind fun t278 => ((model_Without.f kj3 (y271.take ((l1.length : Int) : Int).toNat) a2).bind fun t285 => ((lodgerref09_May.f kj3 a0_0 a0_1 l0_2 a0_3 a0_4 a0_5 a0_6 l1).bind fun t288 => (if t288 = true then ((model_Addrs.f kj3 a0_0 a0_1 l0_2 a0_3 a0_4 a0_5 a0_6 (y271.take ((l1.length : Int) : Int).toNat)).bind fun t293 => (lodgerlaw09_ModelKeeps.l0 kj3 l1 y271 t293 0)) else ((lodgerref03_Ints.f kj3 (y271.take ((l1.length : Int) : Int).toNat) l1).bind fun t308 => (if t308 = true then (if (l1.length : Int) < (y271.length : Int) then (if (rd y271 (l1.length : Int)) = 77 then (if 0 ≤ (wrap64 ((l1.length : Int) + 1)) then (if (wrap64 ((l1.length : Int) + 1)) < (y271.length : Int) then (some ((rd y271 (wrap64 ((l1.length : Int) + 1))) == 78)) else (none)) else (none)) else (some false)) else (none)) else (some false))))))) else (none)) else (none))) else (none))) = some r := by first | (rw [hy265]; with_reducible exact H) | (have H2_ := (Option.bind_some _ _).symm.trans H; rw [hy265]; with_reducible exact H2_) | (have H2_ := (Option.bind_some _ _).symm.trans H; with_reducible exact H2_) | with_reducible exact H | (rw [hy265]; exact H) | exact H
     have Ny265 := Aside0.mk hy265
     clear hy265
     obtain ⟨y268, hy268⟩ : ∃ y_ : List Int, y_ = (([77, 78] : List Int)) := ⟨_, rfl⟩
     replace H : (if y265.length + y268.length < 17592186044416 then ((some (y265 ++ y268 : List Int)).bind fun y271 => (if 0 ≤ (l1.length : Int) then (if (l1.length : Int) ≤ (y271.length : Int) then ((model_With.f kj3 (y271.take ((l1.length : Int) : Int).toNat) a2).bind fun t278 => ((model_Without.f kj3 (y271.take ((l1.length : Int) : Int).toNat) a2).bind fun t285 => ((lodgerref09_May.f kj3 a0_0 a0_1 l0_2 a0_3 a0_4 a0_5 a0_6 l1).bind fun t288 => (if t288 = true then ((model_Addrs.f kj3 a0_0 a0_1 l0_2 a0_3 a0_4 a0_5 a0_6 (y271.take ((l1.length : Int) : Int).toNat)).bind fun t293 => (lodgerlaw09_ModelKeeps.l0 kj3 l1 y271 t293 0)) else ((lodgerref03_Ints.f kj3 (y271.take ((l1.length : Int) : Int).toNat) l1).bind fun t308 => (if t308 = true then (if (l1.length : Int) < (y271.length : Int) then (if (rd y271 (l1.length : Int)) = 77 then (if 0 ≤ (wrap64 ((l1.length : Int) + 1)) then (if (wrap64 ((l1.length : Int) + 1)) < (y271.length : Int) then (some ((rd y271 (wrap64 ((l1.length : Int) + 1))) == 78)) else (none)) else (none)) else (some false)) else (none)) else (some false))))))) else (none)) else (none))) else (none)) = some r := by first | (rw [hy268]; with_reducible exact H) | (have H2_ := (Option.bind_some _ _).symm.trans H; rw [hy268]; with_reducible exact H2_) | (have H2_ := (Option.bind_some _ _).symm.trans H; with_reducible exact H2_) | with_reducible exact H | (rw [hy268]; exact H) | exact H
     have Ny268 := Aside0.mk hy268
     clear hy268
     by_cases c20 : y265.length + y268.length < 17592186044416
     ·rw [if_pos c20] at H
      have LMc20 := Aside0.mk c20
      clear c20
      obtain ⟨y271, hy271⟩ : ∃ y_ : List Int, y_ = (y265 ++ y268) := ⟨_, rfl⟩
      replace H : (if 0 ≤ (l1.length : Int) then (if (l1.length : Int) ≤ (y271.length : Int) then ((model_With.f kj3 (y271.take ((l1.length : Int) : Int).toNat) a2).bind fun t278 => ((model_Without.f kj3 (y271.take ((l1.length : Int) : Int).toNat) a2).bind fun t285 => ((lodgerref09_May.f kj3 a0_0 a0_1 l0_2 a0_3 a0_4 a0_5 a0_6 l1).bind fun t288 => (if t288 = true then ((model_Addrs.f kj3 a0_0 a0_1 l0_2 a0_3 a0_4 a0_5 a0_6 (y271.take ((l1.length : Int) : Int).toNat)).bind fun t293 => (lodgerlaw09_ModelKeeps.l0 kj3 l1 y271 t293 0)) else ((lodgerref03_Ints.f kj3 (y271.take ((l1.length : Int) : Int).toNat) l1).bind fun t308 => (if t308 = true then (if (l1.length : Int) < (y271.length : Int) then (if (rd y271 (l1.length : Int)) = 77 then (if 0 ≤ (wrap64 ((l1.length : Int) + 1)) then (if (wrap64 ((l1.length : Int) + 1)) < (y271.length : Int) then (some ((rd y271 (wrap64 ((l1.length : Int) + 1))) == 78)) else (none)) else (none)) else (some false)) else (none)) else (some false))))))) else (none)) else (none)) = some r := by first | (rw [hy271]; with_reducible exact H) | (have H2_ := (Option.bind_some _ _).symm.trans H; rw [hy271]; with_reducible exact H2_) | (have H2_ := (Option.bind_some _ _).symm.trans H; with_reducible exact H2_) | with_reducible exact H | (rw [hy271]; exact H) | exact H
      have Ny271 := Aside0.mk hy271
      clear hy271
      by_cases c21 : 0 ≤ (l1.length : Int)
      ·rw [if_pos c21] at H
       have c21b0 := eq_true c21
       have c21b1 : decide (0 ≤ (l1.length : Int)) = true := decide_eq_true c21
       clear c21
       by_cases c22 : (l1.length : Int) ≤ (y271.length : Int)
       ·rw [if_pos c22] at H
        have c22b0 := eq_true c22
        have c22b1 : decide ((l1.length : Int) ≤ (y271.length : Int)) = true := decide_eq_true c22
        clear c22
        obtain ⟨y274, hy274⟩ : ∃ y_ : List Int, y_ = (y271.take ((l1.length : Int) : Int).toNat) := ⟨_, rfl⟩
        replace H : ((model_With.f kj3 y274 a2).bind fun t278 => ((model_Without.f kj3 (y271.take ((l1.length : Int) : Int).toNat) a2).bind fun t285 => ((lodgerref09_May.f kj3 a0_0 a0_1 l0_2 a0_3 a0_4 a0_5 a0_6 l1).bind fun t288 => (if t288 = true then ((model_Addrs.f kj3 a0_0 a0_1 l0_2 a0_3 a0_4 a0_5 a0_6 (y271.take ((l1.length : Int) : Int).toNat)).bind fun t293 => (lodgerlaw09_ModelKeeps.l0 kj3 l1 y271 t293 0)) else ((lodgerref03_Ints.f kj3 (y271.take ((l1.length : Int) : Int).toNat) l1).bind fun t308 => (if t308 = true then (if (l1.length : Int) < (y271.length : Int) then (if (rd y271 (l1.length : Int)) = 77 then (if 0 ≤ (wrap64 ((l1.length : Int) + 1)) then (if (wrap64 ((l1.length : Int) + 1)) < (y271.length : Int) then (some ((rd y271 (wrap64 ((l1.length : Int) + 1))) == 78)) else (none)) else (none)) else (some false)) else (none)) else (some false))))))) = some r := by first | (rw [hy274]; with_reducible exact H) | (have H2_ := (Option.bind_some _ _).symm.trans H; rw [hy274]; with_reducible exact H2_) | (have H2_ := (Option.bind_some _ _).symm.trans H; with_reducible exact H2_) | with_reducible exact H | (rw [hy274]; exact H) | exact H
        have Ny274 := Aside0.mk hy274
        clear hy274
        replace H := Option.bind_eq_some_iff.mp H
        obtain ⟨t278, A230, H⟩ := H
        replace H : ((model_Without.f kj3 (y271.take ((l1.length : Int) : Int).toNat) a2).bind fun t285 => ((lodgerref09_May.f kj3 a0_0 a0_1 l0_2 a0_3 a0_4 a0_5 a0_6 l1).bind fun t288 => (if t288 = true then ((model_Addrs.f kj3 a0_0 a0_1 l0_2 a0_3 a0_4 a0_5 a0_6 (y271.take ((l1.length : Int) : Int).toNat)).bind fun t293 => (lodgerlaw09_ModelKeeps.l0 kj3 l1 y271 t293 0)) else ((lodgerref03_Ints.f kj3 (y271.take ((l1.length : Int) : Int).toNat) l1).bind fun t308 => (if t308 = true then (if (l1.length : Int) < (y271.length : Int) then (if (rd y271 (l1.length : Int)) = 77 then (if 0 ≤ (wrap64 ((l1.length : Int) + 1)) then (if (wrap64 ((l1.length : Int) + 1)) < (y271.length : Int) then (some ((rd y271 (wrap64 ((l1.length : Int) + 1))) == 78)) else (none)) else (none)) else (some false)) else (none)) else (some false)))))) = some r := H
        have A23 := Aside0.mk A230
        clear A230
        have c24b0 := eq_true (od_ : 0 ≤ (l1.length : Int))
        have c25b0 := eq_true (od_ : (l1.length : Int) ≤ (y271.length : Int))
        obtain ⟨y281, hy281⟩ : ∃ y_ : List Int, y_ = (y271.take ((l1.length : Int) : Int).toNat) := ⟨_, rfl⟩
        replace H : ((model_Without.f kj3 y281 a2).bind fun t285 => ((lodgerref09_May.f kj3 a0_0 a0_1 l0_2 a0_3 a0_4 a0_5 a0_6 l1).bind fun t288 => (if t288 = true then ((model_Addrs.f kj3 a0_0 a0_1 l0_2 a0_3 a0_4 a0_5 a0_6 (y271.take ((l1.length : Int) : Int).toNat)).bind fun t293 => (lodgerlaw09_ModelKeeps.l0 kj3 l1 y271 t293 0)) else ((lodgerref03_Ints.f kj3 (y271.take ((l1.length : Int) : Int).toNat) l1).bind fun t308 => (if t308 = true then (if (l1.length : Int) < (y271.length : Int) then (if (rd y271 (l1.length : Int)) = 77 then (if 0 ≤ (wrap64 ((l1.length : Int) + 1)) then (if (wrap64 ((l1.length : Int) + 1)) < (y271.length : Int) then (some ((rd y271 (wrap64 ((l1.length : Int) + 1))) == 78)) else (none)) else (none)) else (some false)) else (none)) else (some false)))))) = some r := by first | (rw [hy281]; with_reducible exact H) | (have H2_ := (Option.bind_some _ _).symm.trans H; rw [hy281]; with_reducible exact H2_) | (have H2_ := (Option.bind_some _ _).symm.trans H; with_reducible exact H2_) | with_reducible exact H | (rw [hy281]; exact H) | exact H
        have Ny281 := Aside0.mk hy281
        clear hy281
        replace H := Option.bind_eq_some_iff.mp H
        obtain ⟨t285, A260, H⟩ := H
        replace H : ((lodgerref09_May.f kj3 a0_0 a0_1 l0_2 a0_3 a0_4 a0_5 a0_6 l1).bind fun t288 => (if t288 = true then ((model_Addrs.f kj3 a0_0 a0_1 l0_2 a0_3 a0_4 a0_5 a0_6 (y271.take ((l1.length : Int) : Int).toNat)).bind fun t293 => (lodgerlaw09_ModelKeeps.l0 kj3 l1 y271 t293 0)) else ((lodgerref03_Ints.f kj3 (y271.take ((l1.length : Int) : Int).toNat) l1).bind fun t308 => (if t308 = true then (if (l1.length : Int) < (y271.length : Int) then (if (rd y271 (l1.length : Int)) = 77 then (if 0 ≤ (wrap64 ((l1.length : Int) + 1)) then (if (wrap64 ((l1.length : Int) + 1)) < (y271.length : Int) then (some ((rd y271 (wrap64 ((l1.length : Int) + 1))) == 78)) else (none)) else (none)) else (some false)) else (none)) else (some false))))) = some r := H
        have A26 := Aside0.mk A260
        clear A260
        replace H := Option.bind_eq_some_iff.mp H
        obtain ⟨t288, A270, H⟩ := H
        replace H : (if t288 = true then ((model_Addrs.f kj3 a0_0 a0_1 l0_2 a0_3 a0_4 a0_5 a0_6 (y271.take ((l1.length : Int) : Int).toNat)).bind fun t293 => (lodgerlaw09_ModelKeeps.l0 kj3 l1 y271 t293 0)) else ((lodgerref03_Ints.f kj3 (y271.take ((l1.length : Int) : Int).toNat) l1).bind fun t308 => (if t308 = true then (if (l1.length : Int) < (y271.length : Int) then (if (rd y271 (l1.length : Int)) = 77 then (if 0 ≤ (wrap64 ((l1.length : Int) + 1)) then (if (wrap64 ((l1.length : Int) + 1)) < (y271.length : Int) then (some ((rd y271 (wrap64 ((l1.length : Int) + 1))) == 78)) else (none)) else (none)) else (some false)) else (none)) else (some false)))) = some r := H
        have A27 := Aside0.mk A270
        clear A270
        by_cases c28 : t288 = true
        ·subst c28
         have H1 : ((model_Addrs.f kj3 a0_0 a0_1 l0_2 a0_3 a0_4 a0_5 a0_6 (y271.take ((l1.length : Int) : Int).toNat)).bind fun t293 => (lodgerlaw09_ModelKeeps.l0 kj3 l1 y271 t293 0)) = some r := by rw [if_pos rfl] at H; exact H
         clear H
         have H := H1
         clear H1
         have c29b0 := eq_true (od_ : 0 ≤ (l1.length : Int))
         have c30b0 := eq_true (od_ : (l1.length : Int) ≤ (y271.length : Int))
         obtain ⟨y289, hy289⟩ : ∃ y_ : List Int, y_ = (y271.take ((l1.length : Int) : Int).toNat) := ⟨_, rfl⟩
         replace H : ((model_Addrs.f kj3 a0_0 a0_1 l0_2 a0_3 a0_4 a0_5 a0_6 y289).bind fun t293 => (lodgerlaw09_ModelKeeps.l0 kj3 l1 y271 t293 0)) = some r := by first | (rw [hy289]; with_reducible exact H) | (have H2_ := (Option.bind_some _ _).symm.trans H; rw [hy289]; with_reducible exact H2_) | (have H2_ := (Option.bind_some _ _).symm.trans H; with_reducible exact H2_) | with_reducible exact H | (rw [hy289]; exact H) | exact H
         have Ny289 := Aside0.mk hy289
         clear hy289
         replace H := Option.bind_eq_some_iff.mp H
         obtain ⟨t293, A310, H⟩ := H
         replace H : (lodgerlaw09_ModelKeeps.l0 kj3 l1 y271 t293 0) = some r := H
         have A31 := Aside0.mk A310
         clear A310
         have H' := Aside0.mk H
         clear H
         try go_wp2_with (first | ((with_reducible refine gate_dst (N := 23) rfl ?_); (try (refine gate_guard (by rfl) ?_; dsimp only)); refine Kd.R_lit (Kd.int .i64) _ 3 ?hg (N := 23) ?hd (xs := ([] : List Int)) (inner := []) (ok := fun _ => True) (okp := fun _ => True) ?hr ?hp (fun _ hk => hk) trivial (Below.refl _ _) (Nat.le_refl _) (by simp) ?_; (case hd => rfl); (case hg => rfl); (case hr => first | (go_simp; done) | (go_simp; rfl)); (case hp => exact (Reps.none _ _)); intro v263 w32 ho33 hb hg_ hnew_; clear hg_ hnew_; (first | rw [← Ny262.out] at ho33 | (simp only [Int.reduceToNat] at ho33; rw [← Ny262.out] at ho33)); have n0_ := Aside0.mk (Kd.R_lower ho33 (below_size (by repeat (first | (with_reducible first | exact HB.out | apply below_alloc | apply pw_below_drewN | apply below_drew1 | refine below_set ?_ GE257.out) | exact HB.out)))); have n1_ := Aside0.mk (blk_below (g := gb257) (o := .cells #[.int .u32 a0_0, .int .i64 a0_1, .slice A0_2 l0_2.length c0_2, .int .i64 a0_3, .int .i64 a0_4, .int .i64 a0_5, .int .i64 a0_6] 27 (0, 0)) (by (with_reducible repeat (first | refine blk_drewN ?_ _ | refine blk_drew ?_ | refine blk_alloc ?_ _)); exact BK257.out) hb); have n2_ := Aside0.mk (below_step (by repeat (first | (with_reducible first | exact HB.out | apply below_alloc | apply pw_below_drewN | apply below_drew1 | refine below_set ?_ GE257.out) | exact HB.out)) hb); clear BK257; clear HB; have HO264 := n0_; have BK257 := n1_; have HB := n2_; clear n0_ n1_ n2_; clear hb ho33) | ((with_reducible refine gate_builtin (b := .append) (xs := #[.tmp 23, .tmp 24]) rfl ?_); (try (refine gate_guard (by rfl) ?_; dsimp only)); at_builtin; refine Kd.R_append_rows (Kd.int .i64) (w0 := w) w.heap.size rfl (.tmp 23) (.tmp 24) 25 3 (.int .i64 0) 8 rfl Try.underlying25 info3 rfl (by decide) (by omega) v263 y262 l1 _ _ _ (fun _ => True) (fun _ => False) rfl rfl ?aO ?aR (fun _ _ h => h) (fun _ h => h.elim) ?aF ?aB ?aS ?aL ?_; (case aR => repeat (first | exact (Kd.C_below HR1.out HB.out) | (with_reducible refine Kd.C_alloc ?_ _) | (with_reducible refine Kd.C_drewN ?_ _) | (with_reducible refine Kd.C_drew ?_))); (case aB => exact (by repeat (first | (with_reducible first | exact HB.out | apply below_alloc | apply pw_below_drewN | apply below_drew1 | refine below_set ?_ GE257.out) | exact HB.out))); (case aF => exact (fun _ _ => trivial)); (case aO => exact (by (with_reducible repeat (first | apply Kd.R_alloc | apply Kd.R_drewN | apply Kd.R_drew)); exact HO264.out)); (case aS => exact (below_size (by repeat (first | (with_reducible first | exact HB.out | apply below_alloc | apply pw_below_drewN | apply below_drew1 | refine below_set ?_ GE257.out) | exact HB.out)))); (case aL => have := LMc19.out; omega); intro v266 w34 ho hb hg hat; rw [← Ny265.out] at ho; have n0_ := Aside0.mk (blk_grown (g := gb257) (o := .cells #[.int .u32 a0_0, .int .i64 a0_1, .slice A0_2 l0_2.length c0_2, .int .i64 a0_3, .int .i64 a0_4, .int .i64 a0_5, .int .i64 a0_6] 27 (0, 0)) (by (with_reducible repeat (first | refine blk_drewN ?_ _ | refine blk_drew ?_ | refine blk_alloc ?_ _)); exact BK257.out) hg (Kd.R_ne HO264.out BK257.out (by decide))); have n1_ := Aside0.mk (hb); have n2_ := Aside0.mk (ho); clear BK257; clear HB; clear HO264; have BK257 := n0_; have HB := n1_; have HO267 := n2_; clear n0_ n1_ n2_; clear ho hb hg hat) | ((with_reducible refine gate_dst (N := 26) rfl ?_); (try (refine gate_guard (by rfl) ?_; dsimp only)); refine Kd.R_lit (Kd.int .i64) _ 3 ?hg (N := 26) ?hd (xs := ([77, 78] : List Int)) (inner := [.int .i64 77, .int .i64 78]) (ok := fun _ => True) (okp := fun _ => True) ?hr ?hp (fun _ hk => hk) trivial (Below.refl _ _) (Nat.le_refl _) (by simp) ?_; (case hd => rfl); (case hg => rfl); (case hr => first | (go_simp; done) | (go_simp; rfl)); (case hp => exact (Reps.one (show Kd.M (Kd.int .i64) _ _ _ 77 [.int .i64 77] from rfl) (Reps.one (show Kd.M (Kd.int .i64) _ _ _ 78 [.int .i64 78] from rfl) (Reps.none _ _)))); intro v269 w35 ho36 hb hg_ hnew_; clear hg_ hnew_; (first | rw [← Ny268.out] at ho36 | (simp only [Int.reduceToNat] at ho36; rw [← Ny268.out] at ho36)); have n0_ := Aside0.mk (Kd.R_elder' (by (with_reducible repeat (first | apply Kd.R_alloc | apply Kd.R_drewN | apply Kd.R_drew)); exact HO267.out) (Kd.R_base ho36) hb); have n1_ := Aside0.mk (Kd.R_lower (Kd.R_new' ho36 (Kd.R_lt (by (with_reducible repeat (first | apply Kd.R_alloc | apply Kd.R_drewN | apply Kd.R_drew)); exact HO267.out))) (below_size (by repeat (first | (with_reducible first | exact HB.out | apply below_alloc | apply pw_below_drewN | apply below_drew1 | refine below_set ?_ GE257.out) | exact HB.out)))); have n2_ := Aside0.mk (blk_below (g := gb257) (o := .cells #[.int .u32 a0_0, .int .i64 a0_1, .slice A0_2 l0_2.length c0_2, .int .i64 a0_3, .int .i64 a0_4, .int .i64 a0_5, .int .i64 a0_6] 27 (0, 0)) (by (with_reducible repeat (first | refine blk_drewN ?_ _ | refine blk_drew ?_ | refine blk_alloc ?_ _)); exact BK257.out) hb); have n3_ := Aside0.mk (below_step (by repeat (first | (with_reducible first | exact HB.out | apply below_alloc | apply pw_below_drewN | apply below_drew1 | refine below_set ?_ GE257.out) | exact HB.out)) hb); clear HO267; clear BK257; clear HB; have HO267 := n0_; have HO270 := n1_; have BK257 := n2_; have HB := n3_; clear n0_ n1_ n2_ n3_; clear hb ho36; obtain ⟨Ao38, co38, eo38⟩ := Kd.R_slice HO270.out; subst eo38) | ((with_reducible refine gate_builtin (b := .append) (xs := #[.tmp 25, .tmp 26]) rfl ?_); (try (refine gate_guard (by rfl) ?_; dsimp only)); at_builtin; refine Kd.R_append_rows (Kd.int .i64) (w0 := w) w.heap.size rfl (.tmp 25) (.tmp 26) 25 3 (.int .i64 0) 8 rfl Try.underlying25 info3 rfl (by decide) (by omega) v266 y265 y268 _ _ _ (fun k_ => some k_ ≠ (.slice Ao38 y268.length co38 : Value).ownBlock) (fun _ => False) rfl rfl ?aO ?aR (fun _ _ h => h) (fun _ h => h.elim) ?aF ?aB ?aS ?aL ?_; (case aR => repeat (first | exact (Kd.R_reads' HO270.out).2.2 | (with_reducible refine Kd.C_alloc ?_ _) | (with_reducible refine Kd.C_drewN ?_ _) | (with_reducible refine Kd.C_drew ?_))); (case aB => exact (by repeat (first | (with_reducible first | exact HB.out | apply below_alloc | apply pw_below_drewN | apply below_drew1 | refine below_set ?_ GE257.out) | exact HB.out))); (case aF => exact (fun k_ hk => Kd.fresh' (Kd.R_lt (by (with_reducible repeat (first | apply Kd.R_alloc | apply Kd.R_drewN | apply Kd.R_drew)); exact HO270.out)) k_ hk)); (case aO => exact (by (with_reducible repeat (first | apply Kd.R_alloc | apply Kd.R_drewN | apply Kd.R_drew)); exact Kd.R_mono HO267.out (fun _ hk => hk.2))); (case aS => exact (below_size (by repeat (first | (with_reducible first | exact HB.out | apply below_alloc | apply pw_below_drewN | apply below_drew1 | refine below_set ?_ GE257.out) | exact HB.out)))); (case aL => have := LMc20.out; omega); intro v272 w37 ho hb hg hat; rw [← Ny271.out] at ho; have n0_ := Aside0.mk (blk_grown (g := gb257) (o := .cells #[.int .u32 a0_0, .int .i64 a0_1, .slice A0_2 l0_2.length c0_2, .int .i64 a0_3, .int .i64 a0_4, .int .i64 a0_5, .int .i64 a0_6] 27 (0, 0)) (by (with_reducible repeat (first | refine blk_drewN ?_ _ | refine blk_drew ?_ | refine blk_alloc ?_ _)); exact BK257.out) hg (Kd.R_ne HO267.out BK257.out (by decide))); have n1_ := Aside0.mk (Kd.R_after (ok := (fun _ => True)) (by (with_reducible repeat (first | apply Kd.R_alloc | apply Kd.R_drewN | apply Kd.R_drew)); exact HO270.out) hg hat); have n2_ := Aside0.mk (hb); have n3_ := Aside0.mk (ho); clear BK257; clear HO270; clear HB; clear HO267; have BK257 := n0_; have HO270 := n1_; have HB := n2_; have HO273 := n3_; clear n0_ n1_ n2_ n3_; clear ho hb hg hat; (try clear hcut42); (try clear hcut47); obtain ⟨Ao40, co40, eo40⟩ := Kd.R_slice HO273.out; subst eo40; have q39 : ((l1.length : Int) : Int) ≤ ((y271.length : Int) : Int) := od_; obtain ⟨i039, hi039, _, hsz39, _⟩ := info_parts info3; have hroom39 : y271.length ≤ co40 := (Kd.R_reads' HO273.out).2.1; have hC39 : Kd.C (Kd.int .i64) _ Ao40 y271.length y271 := (Kd.R_reads' HO273.out).2.2; have hcut39 := cut_to (P := Try.prog) 25 3 .i64 Try.underlying25 hi039 Ao40 y271.length co40 (l1.length : Int) od_ q39 hroom39; have hr39 := Kd.C_take (m := ((l1.length : Int) : Int).toNat) hC39 (by omega); have hy39 : y274.length = ((l1.length : Int) : Int).toNat := (by rw [Ny274.out, List.length_take]; omega); rw [← Ny274.out] at hr39; rw [← hy39] at hcut39; have HR277 := Aside0.mk hr39; have HC277 := Aside0.mk (show y274.length ≤ co40 from by omega); clear hr39 hC39 hroom39 hi039 hsz39; have KY39 := Aside0.mk hy39; clear hy39; have KL39 := Aside0.mk (show ((l1.length : Int) : Int).toNat ≤ y271.length from by omega); replace q39 := eq_true q39) | ((with_reducible refine gate_callee (f := 17) rfl ?_); refine goesL_ (some 33) rfl rfl Try.func17 (by kernel_rfl) rfl #[.slice Ao40 y274.length co40, .int .i64 a2] rfl (by (try simp only [List.map_toArray, List.map_cons, List.map_nil]); first | done | rfl | (simp only [List.length_drop, List.length_take]; rfl)) ?_; (with_reducible refine (model_With.calls kj3 (fun k_ => some k_ = (.slice Ao40 y271.length co40 : Value).ownBlock) _ _ y274 a2 t278 _ ?side1 A23.out).mono ?_); (case side1 => exact (by have h_ := (Kd.V_at (base := w.heap.size) (Kd.R_V (Kd.R_tight rfl (Kd.R_types (HO273.out) BK257.out (by decide))))).2.2; have h2_ := Kd.F_take (m := ((l1.length : Int) : Int).toNat) h_ KL39.out; rw [← Ny274.out] at h2_; exact Kd.V_mk HC277.out h2_)); rintro e w41 ⟨v279, rfl, ho0, hb⟩; refine ⟨_, rfl, ?_⟩; have n0_ := Aside0.mk (Kd.R_below (by (with_reducible repeat (first | apply Kd.R_alloc | apply Kd.R_drewN | apply Kd.R_drew)); exact HO270.out) hb); have n1_ := Aside0.mk (Kd.R_below (by (with_reducible repeat (first | apply Kd.R_alloc | apply Kd.R_drewN | apply Kd.R_drew)); exact HO273.out) hb); have n2_ := Aside0.mk (Kd.V_lower (Kd.V_mono (ok' := fun k_ => some k_ ≠ (.slice Ao38 y268.length co38 : Value).ownBlock ∧ k_ ≠ gb257) ho0 (fun k_ hk_ => ⟨Or.elim hk_ (fun hs_ => ((Kd.R_types (HO273.out) BK257.out (by decide)).1 k_ hs_.symm).1) (fun hn_ => (Kd.fresh' (Kd.R_lt (by (with_reducible repeat (first | apply Kd.R_alloc | apply Kd.R_drewN | apply Kd.R_drew)); exact HO270.out)) k_ hn_)), Or.elim hk_ (fun hs_ => ((Kd.R_types (HO273.out) BK257.out (by decide)).1 k_ hs_.symm).2) (fun hn_ => (Kd.freshB (g := gb257) (o := .cells #[.int .u32 a0_0, .int .i64 a0_1, .slice A0_2 l0_2.length c0_2, .int .i64 a0_3, .int .i64 a0_4, .int .i64 a0_5, .int .i64 a0_6] 27 (0, 0)) (by (with_reducible repeat (first | refine blk_drewN ?_ _ | refine blk_drew ?_ | refine blk_alloc ?_ _)); exact BK257.out) k_ hn_))⟩)) (below_size (by repeat (first | (with_reducible first | exact HB.out | apply below_alloc | apply pw_below_drewN | apply below_drew1 | refine below_set ?_ GE257.out) | exact HB.out)))); have n3_ := Aside0.mk (blk_below (g := gb257) (o := .cells #[.int .u32 a0_0, .int .i64 a0_1, .slice A0_2 l0_2.length c0_2, .int .i64 a0_3, .int .i64 a0_4, .int .i64 a0_5, .int .i64 a0_6] 27 (0, 0)) (by (with_reducible repeat (first | refine blk_drewN ?_ _ | refine blk_drew ?_ | refine blk_alloc ?_ _)); exact BK257.out) hb); have n4_ := Aside0.mk (Kd.C_below (by repeat (first | (with_reducible exact HR277.out) | (with_reducible refine Kd.C_alloc ?_ _) | (with_reducible refine Kd.C_drewN ?_ _) | (with_reducible refine Kd.C_drew ?_) | exact HR277.out)) hb); have n5_ := Aside0.mk (below_step (by repeat (first | (with_reducible first | exact HB.out | apply below_alloc | apply pw_below_drewN | apply below_drew1 | refine below_set ?_ GE257.out) | exact HB.out)) hb); clear HO270; clear HO273; clear BK257; clear HR277; clear HB; have HO270 := n0_; have HO273 := n1_; have HO280 := n2_; have BK257 := n3_; have HR277 := n4_; have HB := n5_; clear n0_ n1_ n2_ n3_ n4_ n5_; (try clear hb); (try clear hb2); (try clear hk); (try clear hi); (try clear ho0); (try clear hcut39); (try clear hcut47); have q42 : ((l1.length : Int) : Int) ≤ ((y271.length : Int) : Int) := od_; obtain ⟨i042, hi042, _, hsz42, _⟩ := info_parts info3; have hroom42 : y271.length ≤ co40 := (Kd.R_reads' HO273.out).2.1; have hC42 : Kd.C (Kd.int .i64) _ Ao40 y271.length y271 := (Kd.R_reads' HO273.out).2.2; have hcut42 := cut_to (P := Try.prog) 25 3 .i64 Try.underlying25 hi042 Ao40 y271.length co40 (l1.length : Int) od_ q42 hroom42; have hr42 := Kd.C_take (m := ((l1.length : Int) : Int).toNat) hC42 (by omega); have hy42 : y281.length = ((l1.length : Int) : Int).toNat := (by rw [Ny281.out, List.length_take]; omega); rw [← Ny281.out] at hr42; rw [← hy42] at hcut42; have HR284 := Aside0.mk hr42; have HC284 := Aside0.mk (show y281.length ≤ co40 from by omega); clear hr42 hC42 hroom42 hi042 hsz42; have KY42 := Aside0.mk hy42; clear hy42; have KL42 := Aside0.mk (show ((l1.length : Int) : Int).toNat ≤ y271.length from by omega); replace q42 := eq_true q42) | ((with_reducible refine gate_callee (f := 19) rfl ?_); refine goesL_ (some 39) rfl rfl Try.func19 (by kernel_rfl) rfl #[.slice Ao40 y281.length co40, .int .i64 a2] rfl (by (try simp only [List.map_toArray, List.map_cons, List.map_nil]); first | done | rfl | (simp only [List.length_drop, List.length_take]; rfl)) ?_; (with_reducible refine (model_Without.calls kj3 (fun k_ => some k_ = (.slice Ao40 y271.length co40 : Value).ownBlock) _ _ y281 a2 t285 _ ?side1 A26.out).mono ?_); (case side1 => exact (by have h_ := (Kd.V_at (base := w.heap.size) (Kd.R_V (Kd.R_tight rfl (Kd.R_types (HO273.out) BK257.out (by decide))))).2.2; have h2_ := Kd.F_take (m := ((l1.length : Int) : Int).toNat) h_ KL42.out; rw [← Ny281.out] at h2_; exact Kd.V_mk HC284.out h2_)); rintro e w43 ⟨v286, rfl, ho0, hb⟩; refine ⟨_, rfl, ?_⟩; have n0_ := Aside0.mk (Kd.R_below (by (with_reducible repeat (first | apply Kd.R_alloc | apply Kd.R_drewN | apply Kd.R_drew)); exact HO270.out) hb); have n1_ := Aside0.mk (Kd.R_below (by (with_reducible repeat (first | apply Kd.R_alloc | apply Kd.R_drewN | apply Kd.R_drew)); exact HO273.out) hb); have n2_ := Aside0.mk (Kd.V_below (by (with_reducible repeat (first | apply Kd.V_alloc | apply Kd.V_drewN | apply Kd.V_drew)); exact HO280.out) hb); have n3_ := Aside0.mk (Kd.V_lower (Kd.V_mono (ok' := fun k_ => some k_ ≠ (.slice Ao38 y268.length co38 : Value).ownBlock ∧ k_ ≠ gb257) ho0 (fun k_ hk_ => ⟨Or.elim hk_ (fun hs_ => ((Kd.R_types (HO273.out) BK257.out (by decide)).1 k_ hs_.symm).1) (fun hn_ => (Kd.fresh' (Kd.R_lt (by (with_reducible repeat (first | apply Kd.R_alloc | apply Kd.R_drewN | apply Kd.R_drew)); exact HO270.out)) k_ hn_)), Or.elim hk_ (fun hs_ => ((Kd.R_types (HO273.out) BK257.out (by decide)).1 k_ hs_.symm).2) (fun hn_ => (Kd.freshB (g := gb257) (o := .cells #[.int .u32 a0_0, .int .i64 a0_1, .slice A0_2 l0_2.length c0_2, .int .i64 a0_3, .int .i64 a0_4, .int .i64 a0_5, .int .i64 a0_6] 27 (0, 0)) (by (with_reducible repeat (first | refine blk_drewN ?_ _ | refine blk_drew ?_ | refine blk_alloc ?_ _)); exact BK257.out) k_ hn_))⟩)) (below_size (by repeat (first | (with_reducible first | exact HB.out | apply below_alloc | apply pw_below_drewN | apply below_drew1 | refine below_set ?_ GE257.out) | exact HB.out)))); have n4_ := Aside0.mk (blk_below (g := gb257) (o := .cells #[.int .u32 a0_0, .int .i64 a0_1, .slice A0_2 l0_2.length c0_2, .int .i64 a0_3, .int .i64 a0_4, .int .i64 a0_5, .int .i64 a0_6] 27 (0, 0)) (by (with_reducible repeat (first | refine blk_drewN ?_ _ | refine blk_drew ?_ | refine blk_alloc ?_ _)); exact BK257.out) hb); have n5_ := Aside0.mk (Kd.C_below (by repeat (first | (with_reducible exact HR277.out) | (with_reducible refine Kd.C_alloc ?_ _) | (with_reducible refine Kd.C_drewN ?_ _) | (with_reducible refine Kd.C_drew ?_) | exact HR277.out)) hb); have n6_ := Aside0.mk (Kd.C_below (by repeat (first | (with_reducible exact HR284.out) | (with_reducible refine Kd.C_alloc ?_ _) | (with_reducible refine Kd.C_drewN ?_ _) | (with_reducible refine Kd.C_drew ?_) | exact HR284.out)) hb); have n7_ := Aside0.mk (below_step (by repeat (first | (with_reducible first | exact HB.out | apply below_alloc | apply pw_below_drewN | apply below_drew1 | refine below_set ?_ GE257.out) | exact HB.out)) hb); clear HO270; clear HO273; clear HO280; clear BK257; clear HR277; clear HR284; clear HB; have HO270 := n0_; have HO273 := n1_; have HO280 := n2_; have HO287 := n3_; have BK257 := n4_; have HR277 := n5_; have HR284 := n6_; have HB := n7_; clear n0_ n1_ n2_ n3_ n4_ n5_ n6_ n7_; (try clear hb); (try clear hb2); (try clear hk); (try clear hi); (try clear ho0); have hcz44_0 : w43.cell? ⟨gb257, 0, none⟩ = some (.int .u32 a0_0) := (blk_cell BK257.out 0).trans rfl; have hcz44_1 : w43.cell? ⟨gb257, 1, none⟩ = some (.int .i64 a0_1) := (blk_cell BK257.out 1).trans rfl; have hcz44_2 : w43.cell? ⟨gb257, 2, none⟩ = some (.slice A0_2 l0_2.length c0_2) := (blk_cell BK257.out 2).trans rfl; have hcz44_3 : w43.cell? ⟨gb257, 3, none⟩ = some (.int .i64 a0_3) := (blk_cell BK257.out 3).trans rfl; have hcz44_4 : w43.cell? ⟨gb257, 4, none⟩ = some (.int .i64 a0_4) := (blk_cell BK257.out 4).trans rfl; have hcz44_5 : w43.cell? ⟨gb257, 5, none⟩ = some (.int .i64 a0_5) := (blk_cell BK257.out 5).trans rfl; have hcz44_6 : w43.cell? ⟨gb257, 6, none⟩ = some (.int .i64 a0_6) := (blk_cell BK257.out 6).trans rfl; have hfz44_0 := blk_frozen BK257.out 0; have hfz44_1 := blk_frozen BK257.out 1; have hfz44_2 := blk_frozen BK257.out 2; have hfz44_3 := blk_frozen BK257.out 3; have hfz44_4 := blk_frozen BK257.out 4; have hfz44_5 := blk_frozen BK257.out 5; have hfz44_6 := blk_frozen BK257.out 6) | ((with_reducible refine gate_callee (f := 12) rfl ?_); refine goesL_ (some 42) rfl rfl Try.func12 (by kernel_rfl) rfl #[.agg #[.int .u32 a0_0, .int .i64 a0_1, .slice A0_2 l0_2.length c0_2, .int .i64 a0_3, .int .i64 a0_4, .int .i64 a0_5, .int .i64 a0_6], .slice A1 l1.length c1] rfl (by (try simp only [List.map_toArray, List.map_cons, List.map_nil]); first | done | rfl | (simp only [List.length_drop, List.length_take]; rfl)) ?_; (with_reducible refine (lodgerref09_May.calls kj3 a0_0 a0_1 _ _ l0_2 a0_3 a0_4 a0_5 a0_6 _ _ l1 true _ ?side1 ?side2 ?side3 ?side4 A27.out).mono ?_); (case side1 => repeat (first | exact (Kd.C_below HR0_2.out HB.out) | (with_reducible refine Kd.C_alloc ?_ _) | (with_reducible refine Kd.C_drewN ?_ _) | (with_reducible refine Kd.C_drew ?_))); (case side2 => exact HC0_2.out); (case side3 => repeat (first | exact (Kd.C_below HR1.out HB.out) | (with_reducible refine Kd.C_alloc ?_ _) | (with_reducible refine Kd.C_drewN ?_ _) | (with_reducible refine Kd.C_drew ?_))); (case side4 => exact HC1.out); rintro e w45 ⟨rfl, hb⟩; refine ⟨_, rfl, ?_⟩; have n0_ := Aside0.mk (Kd.R_below (by (with_reducible repeat (first | apply Kd.R_alloc | apply Kd.R_drewN | apply Kd.R_drew)); exact HO270.out) hb); have n1_ := Aside0.mk (Kd.R_below (by (with_reducible repeat (first | apply Kd.R_alloc | apply Kd.R_drewN | apply Kd.R_drew)); exact HO273.out) hb); have n2_ := Aside0.mk (Kd.V_below (by (with_reducible repeat (first | apply Kd.V_alloc | apply Kd.V_drewN | apply Kd.V_drew)); exact HO280.out) hb); have n3_ := Aside0.mk (Kd.V_below (by (with_reducible repeat (first | apply Kd.V_alloc | apply Kd.V_drewN | apply Kd.V_drew)); exact HO287.out) hb); have n4_ := Aside0.mk (blk_below (g := gb257) (o := .cells #[.int .u32 a0_0, .int .i64 a0_1, .slice A0_2 l0_2.length c0_2, .int .i64 a0_3, .int .i64 a0_4, .int .i64 a0_5, .int .i64 a0_6] 27 (0, 0)) (by (with_reducible repeat (first | refine blk_drewN ?_ _ | refine blk_drew ?_ | refine blk_alloc ?_ _)); exact BK257.out) hb); have n5_ := Aside0.mk (Kd.C_below (by repeat (first | (with_reducible exact HR277.out) | (with_reducible refine Kd.C_alloc ?_ _) | (with_reducible refine Kd.C_drewN ?_ _) | (with_reducible refine Kd.C_drew ?_) | exact HR277.out)) hb); have n6_ := Aside0.mk (Kd.C_below (by repeat (first | (with_reducible exact HR284.out) | (with_reducible refine Kd.C_alloc ?_ _) | (with_reducible refine Kd.C_drewN ?_ _) | (with_reducible refine Kd.C_drew ?_) | exact HR284.out)) hb); have n7_ := Aside0.mk (below_step (by repeat (first | (with_reducible first | exact HB.out | apply below_alloc | apply pw_below_drewN | apply below_drew1 | refine below_set ?_ GE257.out) | exact HB.out)) hb); clear HO270; clear HO273; clear HO280; clear HO287; clear BK257; clear HR277; clear HR284; clear HB; have HO270 := n0_; have HO273 := n1_; have HO280 := n2_; have HO287 := n3_; have BK257 := n4_; have HR277 := n5_; have HR284 := n6_; have HB := n7_; clear n0_ n1_ n2_ n3_ n4_ n5_ n6_ n7_; (try clear hb); (try clear hb2); (try clear hk); (try clear hi)))
         have n0_ := Aside0.mk (Kd.R_drew HO270.out)
         have n1_ := Aside0.mk (Kd.R_drew HO273.out)
         have n2_ := Aside0.mk (Kd.V_drew HO280.out)
         have n3_ := Aside0.mk (Kd.V_drew HO287.out)
         have n4_ := Aside0.mk (blk_drew BK257.out)
         have n5_ := Aside0.mk (Kd.C_drew HR277.out)
         have n6_ := Aside0.mk (Kd.C_drew HR284.out)
         have n7_ := Aside0.mk (below_drew1 HB.out)
         clear HO270
         clear HO273
         clear HO280
         clear HO287
         clear BK257
         clear HR277
         clear HR284
         clear HB
         have HO270 := n0_
         have HO273 := n1_
         have HO280 := n2_
         have HO287 := n3_
         have BK257 := n4_
         have HR277 := n5_
         have HR284 := n6_
         have HB := n7_
         clear n0_ n1_ n2_ n3_ n4_ n5_ n6_ n7_
         (try clear hcut39)
         (try clear hcut42)
         have q47 : ((l1.length : Int) : Int) ≤ ((y271.length : Int) : Int) := od_
         obtain ⟨i047, hi047, _, hsz47, _⟩ := info_parts info3
         have hroom47 : y271.length ≤ co40 := (Kd.R_reads' HO273.out).2.1
         have hC47 : Kd.C (Kd.int .i64) _ Ao40 y271.length y271 := (Kd.R_reads' HO273.out).2.2
         have hcut47 := cut_to (P := Try.prog) 25 3 .i64 Try.underlying25 hi047 Ao40 y271.length co40 (l1.length : Int) od_ q47 hroom47
         have hr47 := Kd.C_take (m := ((l1.length : Int) : Int).toNat) hC47 (by omega)
         have hy47 : y289.length = ((l1.length : Int) : Int).toNat := (by rw [Ny289.out, List.length_take]; omega)
         rw [← Ny289.out] at hr47
         rw [← hy47] at hcut47
         have HR292 := Aside0.mk hr47
         have HC292 := Aside0.mk (show y289.length ≤ co40 from by omega)
         clear hr47 hC47 hroom47 hi047 hsz47
         have KY47 := Aside0.mk hy47
         clear hy47
         have KL47 := Aside0.mk (show ((l1.length : Int) : Int).toNat ≤ y271.length from by omega)
         replace q47 := eq_true q47
         refine start_ (n := 7) (S := fun w' => w'.cell? ⟨gb257, 0, none⟩ = some (.int .u32 a0_0) ∧ w'.cell? ⟨gb257, 1, none⟩ = some (.int .i64 a0_1) ∧ w'.cell? ⟨gb257, 2, none⟩ = some (.slice A0_2 l0_2.length c0_2) ∧ w'.cell? ⟨gb257, 3, none⟩ = some (.int .i64 a0_3) ∧ w'.cell? ⟨gb257, 4, none⟩ = some (.int .i64 a0_4) ∧ w'.cell? ⟨gb257, 5, none⟩ = some (.int .i64 a0_5) ∧ w'.cell? ⟨gb257, 6, none⟩ = some (.int .i64 a0_6)) (ds := []) #[false, false, false, false, false, false, false] (by kernel_rfl) rfl rfl ⟨(blk_cell BK257.out 0).trans rfl, (blk_cell BK257.out 1).trans rfl, (blk_cell BK257.out 2).trans rfl, (blk_cell BK257.out 3).trans rfl, (blk_cell BK257.out 4).trans rfl, (blk_cell BK257.out 5).trans rfl, (blk_cell BK257.out 6).trans rfl⟩ (fun hHeld => ?_)
         generalize w45.drew = w46 at HO270 HO273 HO280 HO287 BK257 HR277 HR284 HB HR292 hHeld ⊢
         refine pure_ (i := 1) (N := some 44) (v := ?_) (a' := ?_) #[false, true, false, false, false, false, false] rfl rfl (by kernel_rfl) (fun _ _ _ h => h) (Or.inl ⟨by rfl, ?_⟩) ?_ ?_
         rotate_left
         ·intro w'
          go_simp
          with_reducible rfl
         rotate_left
         ·simp only [Act.put, List.setIfInBounds_toArray, List.set_cons_zero, List.set_cons_succ, i64_w, i32_w]
          rfl
         refine pure_ (i := 2) (N := some 45) (v := ?_) (a' := ?_) #[false, true, true, false, false, false, false] rfl rfl (by kernel_rfl) (fun _ _ _ h => h) (Or.inl ⟨by rfl, ?_⟩) ?_ ?_
         rotate_left
         ·intro w'
          go_simp
          with_reducible rfl
         rotate_left
         ·simp only [Act.put, List.setIfInBounds_toArray, List.set_cons_zero, List.set_cons_succ, i64_w, i32_w]
          rfl
         refine pure_ (i := 3) (N := some 46) (v := ?_) (a' := ?_) #[false, true, true, true, false, false, false] rfl rfl (by kernel_rfl) (fun _ _ _ h => h) (Or.inl ⟨by rfl, ?_⟩) ?_ ?_
         rotate_left
         ·intro w'
          go_simp
          with_reducible rfl
         rotate_left
         ·simp only [Act.put, List.setIfInBounds_toArray, List.set_cons_zero, List.set_cons_succ, i64_w, i32_w]
          rfl
         refine pure_ (i := 4) (N := some 47) (v := ?_) (a' := ?_) #[false, true, true, true, true, false, false] rfl rfl (by kernel_rfl) (fun _ _ _ h => h) (Or.inl ⟨by rfl, ?_⟩) ?_ ?_
         rotate_left
         ·intro w'
          go_simp
          with_reducible rfl
         rotate_left
         ·simp only [Act.put, List.setIfInBounds_toArray, List.set_cons_zero, List.set_cons_succ, i64_w, i32_w]
          rfl
         refine take_ (i := 0) (N := some 43) (v := ?_) (a' := ?_) #[true, true, true, true, true, false, false] rfl rfl (by kernel_rfl) (fun _ _ _ h => h) (Or.inl ⟨by rfl, ?_⟩) hHeld ?_ ?_
         rotate_left
         ·rintro w' ⟨s0, s1, s2, s3, s4, s5, s6⟩
          go_simp
          with_reducible rfl
         rotate_left
         ·simp only [Act.put, List.setIfInBounds_toArray, List.set_cons_zero, List.set_cons_succ, i64_w, i32_w]
          rfl
         refine one_ (i := 5) (N := some 48) #[true, true, true, true, true, true, false] rfl rfl (by kernel_rfl) (by decide) (fun K hK => ?_)
         refine goes_ Try.func28 (by kernel_rfl) rfl #[.agg #[.int .u32 a0_0, .int .i64 a0_1, .slice A0_2 l0_2.length c0_2, .int .i64 a0_3, .int .i64 a0_4, .int .i64 a0_5, .int .i64 a0_6], .slice Ao40 y289.length co40] (by rfl) rfl rfl (by (try simp only [List.map_toArray, List.map_cons, List.map_nil]); first | done | rfl | (simp only [List.length_drop, List.length_take]; rfl)) ?_
         with_reducible refine (model_Addrs.calls kj3 a0_0 a0_1 _ _ l0_2 a0_3 a0_4 a0_5 a0_6 _ _ y289 t293 _ ?side1 ?side2 ?side3 ?side4 A31.out).mono ?_
         (case side1 => repeat (first | exact (Kd.C_below HR0_2.out HB.out) | (with_reducible refine Kd.C_alloc ?_ _) | (with_reducible refine Kd.C_drewN ?_ _) | (with_reducible refine Kd.C_drew ?_)))
         (case side2 => exact HC0_2.out)
         (case side3 => repeat (first | exact (by repeat (first | (with_reducible exact HR292.out) | (with_reducible refine Kd.C_alloc ?_ _) | (with_reducible refine Kd.C_drewN ?_ _) | (with_reducible refine Kd.C_drew ?_) | exact HR292.out)) | (with_reducible refine Kd.C_alloc ?_ _) | (with_reducible refine Kd.C_drewN ?_ _) | (with_reducible refine Kd.C_drew ?_)))
         (case side4 => exact HC292.out)
         rintro e w48 ⟨v294, rfl, ho0, hb⟩
         refine ⟨_, rfl, ?_⟩
         have n0_ := Aside0.mk (Kd.R_below (by (with_reducible repeat (first | apply Kd.R_alloc | apply Kd.R_drewN | apply Kd.R_drew)); exact HO270.out) hb)
         have n1_ := Aside0.mk (Kd.R_below (by (with_reducible repeat (first | apply Kd.R_alloc | apply Kd.R_drewN | apply Kd.R_drew)); exact HO273.out) hb)
         have n2_ := Aside0.mk (Kd.V_elder' (by (with_reducible repeat (first | apply Kd.V_alloc | apply Kd.V_drewN | apply Kd.V_drew)); exact HO280.out) (Kd.R_base ho0) hb)
         have n3_ := Aside0.mk (Kd.V_elder' (by (with_reducible repeat (first | apply Kd.V_alloc | apply Kd.V_drewN | apply Kd.V_drew)); exact HO287.out) (Kd.R_base ho0) hb)
         have n4_ := Aside0.mk (Kd.R_lower ho0 (below_size (by repeat (first | (with_reducible first | exact HB.out | apply below_alloc | apply pw_below_drewN | apply below_drew1 | refine below_set ?_ GE257.out) | exact HB.out))))
         have n5_ := Aside0.mk (blk_below (g := gb257) (o := .cells #[.int .u32 a0_0, .int .i64 a0_1, .slice A0_2 l0_2.length c0_2, .int .i64 a0_3, .int .i64 a0_4, .int .i64 a0_5, .int .i64 a0_6] 27 (0, 0)) (by (with_reducible repeat (first | refine blk_drewN ?_ _ | refine blk_drew ?_ | refine blk_alloc ?_ _)); exact BK257.out) hb)
         have n6_ := Aside0.mk (Kd.C_below (by repeat (first | (with_reducible exact HR277.out) | (with_reducible refine Kd.C_alloc ?_ _) | (with_reducible refine Kd.C_drewN ?_ _) | (with_reducible refine Kd.C_drew ?_) | exact HR277.out)) hb)
         have n7_ := Aside0.mk (Kd.C_below (by repeat (first | (with_reducible exact HR284.out) | (with_reducible refine Kd.C_alloc ?_ _) | (with_reducible refine Kd.C_drewN ?_ _) | (with_reducible refine Kd.C_drew ?_) | exact HR284.out)) hb)
         have n8_ := Aside0.mk (Kd.C_below (by repeat (first | (with_reducible exact HR292.out) | (with_reducible refine Kd.C_alloc ?_ _) | (with_reducible refine Kd.C_drewN ?_ _) | (with_reducible refine Kd.C_drew ?_) | exact HR292.out)) hb)
         have n9_ := Aside0.mk (below_step (by repeat (first | (with_reducible first | exact HB.out | apply below_alloc | apply pw_below_drewN | apply below_drew1 | refine below_set ?_ GE257.out) | exact HB.out)) hb)
         clear HO270
         clear HO273
         clear HO280
         clear HO287
         clear BK257
         clear HR277
         clear HR284
         clear HR292
         clear HB
         have HO270 := n0_
         have HO273 := n1_
         have HO280 := n2_
         have HO287 := n3_
         have HO295 := n4_
         have BK257 := n5_
         have HR277 := n6_
         have HR284 := n7_
         have HR292 := n8_
         have HB := n9_
         clear n0_ n1_ n2_ n3_ n4_ n5_ n6_ n7_ n8_ n9_
         (try clear hb)
         (try clear hb2)
         (try clear hk)
         (try clear hi)
         (try clear ho0)
         refine hK.out _ _ ⟨(blk_cell BK257.out 0).trans rfl, (blk_cell BK257.out 1).trans rfl, (blk_cell BK257.out 2).trans rfl, (blk_cell BK257.out 3).trans rfl, (blk_cell BK257.out 4).trans rfl, (blk_cell BK257.out 5).trans rfl, (blk_cell BK257.out 6).trans rfl⟩ (fun hHeld => ?_)
         clear hK K
         refine norm_ (a' := ?_) ?_ ?_
         rotate_left
         ·show Act.put _ (some 48) _ = _
          simp only [Act.put, List.setIfInBounds_toArray, List.set_cons_zero, List.set_cons_succ, i64_w, i32_w]
          rfl
         refine pure_ (i := 6) (N := some 8) (v := ?_) (a' := ?_) #[true, true, true, true, true, true, true] rfl rfl (by kernel_rfl) (fun _ _ _ h => h) (Or.inl ⟨by rfl, ?_⟩) ?_ ?_
         rotate_left
         ·intro w'
          go_simp
          with_reducible rfl
         rotate_left
         ·simp only [Act.put, List.setIfInBounds_toArray, List.set_cons_zero, List.set_cons_succ, i64_w, i32_w]
          rfl
         refine done_ (by kernel_rfl) ?_
         try go_wp2
         go_loopg [9] kj3 (fun kq v9 w' => ∃ (x8_2 : List Int) (x9_2 : Int), v9 = .int .i64 x9_2 ∧ Aside0 (lodgerlaw09_ModelKeeps.l0 kq l1 y271 x8_2 x9_2 = some r) ∧ Aside0 (kq ≤ kj3) ∧ Aside0 (Kd.R (Kd.int .i64) 3 w' w.heap.size (fun _ => True) (.slice Ao40 y271.length co40) y271) ∧ Aside0 (Kd.R (Kd.int .u32) 22 w' w.heap.size (fun _ => True) v294 x8_2) ∧ Aside0 (w'.heap[gb257]? = some (.cells #[.int .u32 a0_0, .int .i64 a0_1, (.slice A0_2 l0_2.length c0_2), .int .i64 a0_3, .int .i64 a0_4, .int .i64 a0_5, .int .i64 a0_6] 27 (0, 0))) ∧ Aside0 (Below w.heap.size w w'))
         case atStart => exact ⟨(t293), (0), (by first | rfl | (simp; done) | (simp [*]; done)), H', ⟨Nat.le_refl _⟩, ⟨by (with_reducible repeat (first | apply Kd.R_alloc | apply Kd.R_drewN | apply Kd.R_drew)); exact Kd.R_mono HO273.out (fun _ hk => trivial)⟩, ⟨by (with_reducible repeat (first | apply Kd.R_alloc | apply Kd.R_drewN | apply Kd.R_drew)); exact HO295.out⟩, ⟨by (with_reducible repeat (first | refine blk_drewN ?_ _ | refine blk_drew ?_ | refine blk_alloc ?_ _)); exact BK257.out⟩, ⟨by repeat (first | (with_reducible first | exact HB.out | apply below_alloc | apply pw_below_drewN | apply below_drew1 | refine below_set ?_ GE257.out) | exact HB.out)⟩⟩
         case round =>
          clear H'
          try clear c1
          try clear c2
          try clear p2
          try clear c3
          try clear q3
          try clear q4
          try clear c6
          try clear p6
          try clear c7
          try clear c9
          try clear c12
          try clear c16
          try clear c17
          try clear c19
          try clear c20
          try clear c21
          try clear c21b0
          try clear c21b1
          try clear c22
          try clear c22b0
          try clear c22b1
          try clear c24
          try clear c24b0
          try clear c25
          try clear c25b0
          try clear c28
          try clear c29
          try clear c29b0
          try clear c30
          try clear c30b0
          try clear q39
          try clear q42
          try clear q47
          try clear hcz12_0
          try clear hcz12_1
          try clear hcz12_2
          try clear hcz12_3
          try clear hcz12_4
          try clear hcz12_5
          try clear hcz12_6
          try clear hcz44_0
          try clear hcz44_1
          try clear hcz44_2
          try clear hcz44_3
          try clear hcz44_4
          try clear hcz44_5
          try clear hcz44_6
          try clear hfz12_0
          try clear hfz12_1
          try clear hfz12_2
          try clear hfz12_3
          try clear hfz12_4
          try clear hfz12_5
          try clear hfz12_6
          try clear hfz44_0
          try clear hfz44_1
          try clear hfz44_2
          try clear hfz44_3
          try clear hfz44_4
          try clear hfz44_5
          try clear hfz44_6
          try clear p2
          try clear q39
          try clear q42
          try clear q47
          obtain ⟨x8_2, x9_2, rfl, HA, HK2, HO_7, HO_8, BK257, HB⟩ := hrel
          cases gk with
          | zero => exact absurd HA.out (by simp [lodgerlaw09_ModelKeeps.l0])
          | succ k2 =>
           have H := HA.out
           clear HA
           simp only [lodgerlaw09_ModelKeeps.l0] at H
           by_cases c49 : x9_2 < (x8_2.length : Int)
           ·rw [if_pos c49] at H
            have c49b0 : decide (x9_2 < (x8_2.length : Int)) = true := decide_eq_true c49
            clear c49
            by_cases c50 : 0 ≤ x9_2
            ·rw [if_pos c50] at H
             have c50b0 : decide (0 ≤ x9_2) = true := decide_eq_true c50
             clear c50
             obtain ⟨y296, hy296⟩ : ∃ y_ : List Int, y_ = (x8_2.set (x9_2 : Int).toNat 5) := ⟨_, rfl⟩
             replace H : (lodgerlaw09_ModelKeeps.l0 k2 l1 y271 y296 (wrap64 (x9_2 + 1))) = some r := by first | (rw [hy296]; with_reducible exact H) | (have H2_ := (Option.bind_some _ _).symm.trans H; rw [hy296]; with_reducible exact H2_) | (have H2_ := (Option.bind_some _ _).symm.trans H; with_reducible exact H2_) | with_reducible exact H | (rw [hy296]; exact H) | exact H
             have Ny296 := Aside0.mk hy296
             clear hy296
             have H' := Aside0.mk H
             clear H
             obtain ⟨Ao52, co52, eo52⟩ := Kd.R_slice HO_8.out
             subst eo52
             have p51 : 0 ≤ (x9_2 : Int) := od_
             have q51 : (x9_2 : Int) < ((x8_2.length : Int) : Int) := od_
             obtain ⟨go51, co51, eo51, gb51, gl51, cl51, HG51⟩ := Kd.R_form HO_8.out (by omega)
             (first | cases eo51 | (injection eo51 with ea_ en_ ec_; (first | subst ea_ | (injection ea_ with ea_; subst ea_)); subst ec_; clear en_))
             have GB51 := Aside0.mk gb51
             have GG51 := Aside0.mk HG51
             clear gb51 gl51 HG51
             obtain ⟨hx51_0, hf51_0⟩ := Kd.R_celln 0 HO_8.out (x9_2 : Int) p51 q51
             replace p51 := eq_true p51
             replace q51 := eq_true q51
             have HP53 := Kd.R_putg HO_8.out (x9_2 : Int) 5
             go_wp2_with (first | ((with_reducible refine gate_store (t := 22) (p := 57) rfl ?_); refine store_event (t := 22) (p := 57) (v := ?vo_w54) (w1 := (wr.setCell ⟨go51, (x9_2 : Int).toNat, none⟩ (.int .u32 5))) ?hg ?ho ?hn ?hr ?_; (case ho => rfl); (case hg => rfl); (case hn => rfl); (case hr => first | (go_simp; done) | (go_simp; rfl)); intro w54 hw; have hg : wr.grownBy w54 (some go51) := (by rw [hw]; exact HP53.2); have hp_ : Kd.R (Kd.int .u32) 22 w54 w.heap.size (fun _ => True) (.slice (some ⟨go51, 0, none⟩) x8_2.length co52) y296 := (by rw [hw, Ny296.out]; exact HP53.1); clear HP53; have n0_ := Aside0.mk (Kd.R_over' (v := (.slice (some ⟨go51, 0, none⟩) x8_2.length co52)) (by (with_reducible repeat (first | apply Kd.R_alloc | apply Kd.R_drewN | apply Kd.R_drew)); exact HO_7.out) (Kd.R_typed HO_8.out) (by decide) hg); have n1_ := Aside0.mk (hp_); have n2_ := Aside0.mk (blk_grown (g := gb257) (o := .cells #[.int .u32 a0_0, .int .i64 a0_1, .slice A0_2 l0_2.length c0_2, .int .i64 a0_3, .int .i64 a0_4, .int .i64 a0_5, .int .i64 a0_6] 27 (0, 0)) (by (with_reducible repeat (first | refine blk_drewN ?_ _ | refine blk_drew ?_ | refine blk_alloc ?_ _)); exact BK257.out) hg (Kd.R_ne HO_8.out BK257.out (by decide))); have n3_ := Aside0.mk ((by rw [hw]; exact below_set (HB.out) GB51.out : Below w.heap.size w w54)); clear HO_7; clear HO_8; clear BK257; clear HB; have HO_7 := n0_; have HO_8 := n1_; have BK257 := n2_; have HB := n3_; clear n0_ n1_ n2_ n3_; clear hg hw hp_))
             go_roundg k2
             case measure => have := HJ3.out; have := HK2.out; omega
             case rel => exact ⟨(y296), (wrap64 (x9_2 + 1)), (by first | rfl | (simp; done) | (simp [*]; done)), H', ⟨by have := HJ3.out; have := HK2.out; omega⟩, ⟨by (with_reducible repeat (first | apply Kd.R_alloc | apply Kd.R_drewN | apply Kd.R_drew)); exact HO_7.out⟩, ⟨by (with_reducible repeat (first | apply Kd.R_alloc | apply Kd.R_drewN | apply Kd.R_drew)); exact HO_8.out⟩, ⟨by (with_reducible repeat (first | refine blk_drewN ?_ _ | refine blk_drew ?_ | refine blk_alloc ?_ _)); exact BK257.out⟩, ⟨by repeat (first | (with_reducible first | exact HB.out | apply below_alloc | apply pw_below_drewN | apply below_drew1 | refine below_set ?_ GE257.out) | exact HB.out)⟩⟩
            ·rw [if_neg c50] at H
             exact absurd H (by simp)
           ·rw [if_neg c49] at H
            have c49b0 : decide (x9_2 < (x8_2.length : Int)) = false := decide_eq_false c49
            clear c49
            by_cases c55 : 0 ≤ (l1.length : Int)
            ·rw [if_pos c55] at H
             have c55b0 := eq_true c55
             have c55b1 : decide (0 ≤ (l1.length : Int)) = true := decide_eq_true c55
             clear c55
             by_cases c56 : (l1.length : Int) ≤ (y271.length : Int)
             ·rw [if_pos c56] at H
              have c56b0 := eq_true c56
              have c56b1 : decide ((l1.length : Int) ≤ (y271.length : Int)) = true := decide_eq_true c56
              clear c56
              obtain ⟨y297, hy297⟩ : ∃ y_ : List Int, y_ = (y271.take ((l1.length : Int) : Int).toNat) := ⟨_, rfl⟩
              replace H : ((lodgerref03_Ints.f k2 y297 l1).bind fun t301 => (if t301 = true then (if (l1.length : Int) < (y271.length : Int) then (if (rd y271 (l1.length : Int)) = 77 then (if 0 ≤ (wrap64 ((l1.length : Int) + 1)) then (if (wrap64 ((l1.length : Int) + 1)) < (y271.length : Int) then (some ((rd y271 (wrap64 ((l1.length : Int) + 1))) == 78)) else (none)) else (none)) else (some false)) else (none)) else (some false))) = some r := by first | (rw [hy297]; with_reducible exact H) | (have H2_ := (Option.bind_some _ _).symm.trans H; rw [hy297]; with_reducible exact H2_) | (have H2_ := (Option.bind_some _ _).symm.trans H; with_reducible exact H2_) | with_reducible exact H | (rw [hy297]; exact H) | exact H
              have Ny297 := Aside0.mk hy297
              clear hy297
              replace H := Option.bind_eq_some_iff.mp H
              obtain ⟨t301, A570, H⟩ := H
              replace H : (if t301 = true then (if (l1.length : Int) < (y271.length : Int) then (if (rd y271 (l1.length : Int)) = 77 then (if 0 ≤ (wrap64 ((l1.length : Int) + 1)) then (if (wrap64 ((l1.length : Int) + 1)) < (y271.length : Int) then (some ((rd y271 (wrap64 ((l1.length : Int) + 1))) == 78)) else (none)) else (none)) else (some false)) else (none)) else (some false)) = some r := H
              have A57 := Aside0.mk A570
              clear A570
              by_cases c58 : t301 = true
              ·subst c58
               have H1 : (if (l1.length : Int) < (y271.length : Int) then (if (rd y271 (l1.length : Int)) = 77 then (if 0 ≤ (wrap64 ((l1.length : Int) + 1)) then (if (wrap64 ((l1.length : Int) + 1)) < (y271.length : Int) then (some ((rd y271 (wrap64 ((l1.length : Int) + 1))) == 78)) else (none)) else (none)) else (some false)) else (none)) = some r := by rw [if_pos rfl] at H; exact H
               clear H
               have H := H1
               clear H1
               by_cases c59 : (l1.length : Int) < (y271.length : Int)
               ·rw [if_pos c59] at H
                have c59b0 : decide ((l1.length : Int) < (y271.length : Int)) = true := decide_eq_true c59
                have c59b1 : decide (l1.length < y271.length) = true := decide_eq_true (Int.ofNat_lt.mp c59)
                clear c59
                by_cases c60 : (rd y271 (l1.length : Int)) = 77
                ·rw [if_pos c60] at H
                 have c60b0 : ((rd y271 (l1.length : Int)) == 77) = true := beq_iff_eq.mpr c60
                 have c60b1 : ((rd y271 (l1.length : Int)) != 77) = false := bne_eq_false_iff_eq.mpr c60
                 clear c60
                 obtain ⟨ji61, hji61⟩ : ∃ j_ : Int, (wrap64 ((l1.length : Int) + 1)) = j_ := ⟨_, rfl⟩
                 replace H : (if 0 ≤ (ji61) then (if (ji61) < (y271.length : Int) then (some ((rd y271 (ji61)) == 78)) else (none)) else (none)) = some r := by first | (rw [hji61] at H; exact H) | (simp only [hji61] at H ⊢; exact H)
                 (try rw [hji61] at A57)
                 have hji61w : (IntKind.i64.wrap ((l1.length : Int) + 1)) = ji61 := (i64_w _).trans hji61
                 by_cases c62 : 0 ≤ (ji61)
                 ·rw [if_pos c62] at H
                  have c62b0 : decide (0 ≤ (ji61)) = true := decide_eq_true c62
                  clear c62
                  by_cases c63 : (ji61) < (y271.length : Int)
                  ·rw [if_pos c63] at H
                   have c63b0 : decide ((ji61) < (y271.length : Int)) = true := decide_eq_true c63
                   clear c63
                   first | (exfalso; rw [hr_.out] at H; exact absurd (Option.some.inj H) (by decide)) | (try clear hr_)
                   all_goals
                    obtain rfl := Option.some.inj H
                    obtain ⟨Ao64, co64, eo64⟩ := Kd.R_slice HO_8.out
                    subst eo64
                    (try clear hcut39)
                    (try clear hcut42)
                    (try clear hcut47)
                    have q65 : ((l1.length : Int) : Int) ≤ ((y271.length : Int) : Int) := od_
                    obtain ⟨i065, hi065, _, hsz65, _⟩ := info_parts info3
                    have hroom65 : y271.length ≤ co40 := (Kd.R_reads' HO_7.out).2.1
                    have hC65 : Kd.C (Kd.int .i64) _ Ao40 y271.length y271 := (Kd.R_reads' HO_7.out).2.2
                    have hcut65 := cut_to (P := Try.prog) 25 3 .i64 Try.underlying25 hi065 Ao40 y271.length co40 (l1.length : Int) od_ q65 hroom65
                    have hr65 := Kd.C_take (m := ((l1.length : Int) : Int).toNat) hC65 (by omega)
                    have hy65 : y297.length = ((l1.length : Int) : Int).toNat := (by rw [Ny297.out, List.length_take]; omega)
                    rw [← Ny297.out] at hr65
                    rw [← hy65] at hcut65
                    have HR300 := Aside0.mk hr65
                    have HC300 := Aside0.mk (show y297.length ≤ co40 from by omega)
                    clear hr65 hC65 hroom65 hi065 hsz65
                    have KY65 := Aside0.mk hy65
                    clear hy65
                    have KL65 := Aside0.mk (show ((l1.length : Int) : Int).toNat ≤ y271.length from by omega)
                    replace q65 := eq_true q65
                    go_wp2_with (first | ((with_reducible refine gate_callee (f := 16) rfl ?_); refine goesL_ (some 63) rfl rfl Try.func16 (by kernel_rfl) rfl #[.slice Ao40 y297.length co40, .slice A1 l1.length c1] rfl (by (try simp only [List.map_toArray, List.map_cons, List.map_nil]); first | done | rfl | (simp only [List.length_drop, List.length_take]; rfl)) ?_; (with_reducible refine (lodgerref03_Ints.calls k2 _ _ y297 _ _ l1 true _ ?side1 ?side2 ?side3 ?side4 A57.out).mono ?_); (case side1 => repeat (first | exact (by repeat (first | (with_reducible exact HR300.out) | (with_reducible refine Kd.C_alloc ?_ _) | (with_reducible refine Kd.C_drewN ?_ _) | (with_reducible refine Kd.C_drew ?_) | exact HR300.out)) | (with_reducible refine Kd.C_alloc ?_ _) | (with_reducible refine Kd.C_drewN ?_ _) | (with_reducible refine Kd.C_drew ?_))); (case side2 => exact HC300.out); (case side3 => repeat (first | exact (Kd.C_below HR1.out HB.out) | (with_reducible refine Kd.C_alloc ?_ _) | (with_reducible refine Kd.C_drewN ?_ _) | (with_reducible refine Kd.C_drew ?_))); (case side4 => exact HC1.out); rintro e w' ⟨rfl, ⟨nd, rfl⟩⟩; refine ⟨_, rfl, ?_⟩; have p302 : 0 ≤ ((l1.length : Int) : Int) := od_; have q302 : (l1.length : Int) < (y271.length : Int) := od_; obtain ⟨ad302, e302, hx302_0⟩ := Kd.at_int (Kd.R_reads' HO_7.out).2.2 (l1.length : Int) p302 q302; cases e302; (try simp only [Go.IntWalk.toNatUp] at hx302_0); replace p302 := eq_true p302; replace q302 := eq_true q302; have p303 : 0 ≤ ((ji61) : Int) := od_; have q303 : (ji61) < (y271.length : Int) := od_; obtain ⟨ad303, e303, hx303_0⟩ := Kd.at_int (Kd.R_reads' HO_7.out).2.2 (ji61) p303 q303; obtain rfl : ad302 = ad303 := (by injection e303); replace p303 := eq_true p303; replace q303 := eq_true q303))
                    go_ret
                    exact ⟨by first | rfl | (simp [errW_none, errW_some] <;> rfl) | (simp only [← hji61]; first | rfl | (simp [errW_none, errW_some] <;> rfl)) | (simp [*, errW_none, errW_some] <;> rfl), by repeat (first | (with_reducible first | exact HB.out | apply below_alloc | apply pw_below_drewN | apply below_drew1 | refine below_set ?_ GE257.out) | exact HB.out)⟩
                  ·rw [if_neg c63] at H
                   exact absurd H (by simp)
                 ·rw [if_neg c62] at H
                  exact absurd H (by simp)
                ·rw [if_neg c60] at H
                 rw [hr_.out] at H
                 exact absurd (Option.some.inj H) (by decide)
               ·rw [if_neg c59] at H
                exact absurd H (by simp)
              ·replace c58 := Bool.eq_false_iff.mpr c58
               subst c58
               have H1 : (some false) = some r := by rw [if_neg (show ¬ (false = true) by decide)] at H; exact H
               rw [hr_.out] at H1
               exact absurd (Option.some.inj H1) (by decide)
             ·rw [if_neg c56] at H
              exact absurd H (by simp)
            ·rw [if_neg c55] at H
             exact absurd H (by simp)
        ·replace c28 := Bool.eq_false_iff.mpr c28
         subst c28
         have H1 : ((lodgerref03_Ints.f kj3 (y271.take ((l1.length : Int) : Int).toNat) l1).bind fun t308 => (if t308 = true then (if (l1.length : Int) < (y271.length : Int) then (if (rd y271 (l1.length : Int)) = 77 then (if 0 ≤ (wrap64 ((l1.length : Int) + 1)) then (if (wrap64 ((l1.length : Int) + 1)) < (y271.length : Int) then (some ((rd y271 (wrap64 ((l1.length : Int) + 1))) == 78)) else (none)) else (none)) else (some false)) else (none)) else (some false))) = some r := by rw [if_neg (show ¬ (false = true) by decide)] at H; exact H
         clear H
         have H := H1
         clear H1
         have c70b0 := eq_true (od_ : 0 ≤ (l1.length : Int))
         have c71b0 := eq_true (od_ : (l1.length : Int) ≤ (y271.length : Int))
         obtain ⟨y304, hy304⟩ : ∃ y_ : List Int, y_ = (y271.take ((l1.length : Int) : Int).toNat) := ⟨_, rfl⟩
         replace H : ((lodgerref03_Ints.f kj3 y304 l1).bind fun t308 => (if t308 = true then (if (l1.length : Int) < (y271.length : Int) then (if (rd y271 (l1.length : Int)) = 77 then (if 0 ≤ (wrap64 ((l1.length : Int) + 1)) then (if (wrap64 ((l1.length : Int) + 1)) < (y271.length : Int) then (some ((rd y271 (wrap64 ((l1.length : Int) + 1))) == 78)) else (none)) else (none)) else (some false)) else (none)) else (some false))) = some r := by first | (rw [hy304]; with_reducible exact H) | (have H2_ := (Option.bind_some _ _).symm.trans H; rw [hy304]; with_reducible exact H2_) | (have H2_ := (Option.bind_some _ _).symm.trans H; with_reducible exact H2_) | with_reducible exact H | (rw [hy304]; exact H) | exact H
         have Ny304 := Aside0.mk hy304
         clear hy304
         replace H := Option.bind_eq_some_iff.mp H
         obtain ⟨t308, A720, H⟩ := H
         replace H : (if t308 = true then (if (l1.length : Int) < (y271.length : Int) then (if (rd y271 (l1.length : Int)) = 77 then (if 0 ≤ (wrap64 ((l1.length : Int) + 1)) then (if (wrap64 ((l1.length : Int) + 1)) < (y271.length : Int) then (some ((rd y271 (wrap64 ((l1.length : Int) + 1))) == 78)) else (none)) else (none)) else (some false)) else (none)) else (some false)) = some r := H
         have A72 := Aside0.mk A720
         clear A720
         by_cases c73 : t308 = true
         ·subst c73
          have H1 : (if (l1.length : Int) < (y271.length : Int) then (if (rd y271 (l1.length : Int)) = 77 then (if 0 ≤ (wrap64 ((l1.length : Int) + 1)) then (if (wrap64 ((l1.length : Int) + 1)) < (y271.length : Int) then (some ((rd y271 (wrap64 ((l1.length : Int) + 1))) == 78)) else (none)) else (none)) else (some false)) else (none)) = some r := by rw [if_pos rfl] at H; exact H
          clear H
          have H := H1
          clear H1
          by_cases c74 : (l1.length : Int) < (y271.length : Int)
          ·rw [if_pos c74] at H
           have c74b0 : decide ((l1.length : Int) < (y271.length : Int)) = true := decide_eq_true c74
           have c74b1 : decide (l1.length < y271.length) = true := decide_eq_true (Int.ofNat_lt.mp c74)
           clear c74
           by_cases c75 : (rd y271 (l1.length : Int)) = 77
           ·rw [if_pos c75] at H
            have c75b0 : ((rd y271 (l1.length : Int)) == 77) = true := beq_iff_eq.mpr c75
            have c75b1 : ((rd y271 (l1.length : Int)) != 77) = false := bne_eq_false_iff_eq.mpr c75
            clear c75
            obtain ⟨ji76, hji76⟩ : ∃ j_ : Int, (wrap64 ((l1.length : Int) + 1)) = j_ := ⟨_, rfl⟩
            replace H : (if 0 ≤ (ji76) then (if (ji76) < (y271.length : Int) then (some ((rd y271 (ji76)) == 78)) else (none)) else (none)) = some r := by first | (rw [hji76] at H; exact H) | (simp only [hji76] at H ⊢; exact H)
            (try rw [hji76] at A23)
            (try rw [hji76] at A26)
            (try rw [hji76] at A27)
            (try rw [hji76] at A72)
            have hji76w : (IntKind.i64.wrap ((l1.length : Int) + 1)) = ji76 := (i64_w _).trans hji76
            by_cases c77 : 0 ≤ (ji76)
            ·rw [if_pos c77] at H
             have c77b0 : decide (0 ≤ (ji76)) = true := decide_eq_true c77
             clear c77
             by_cases c78 : (ji76) < (y271.length : Int)
             ·rw [if_pos c78] at H
              have c78b0 : decide ((ji76) < (y271.length : Int)) = true := decide_eq_true c78
              clear c78
              first | (exfalso; rw [hr_.out] at H; exact absurd (Option.some.inj H) (by decide)) | (try clear hr_)
              all_goals
               obtain rfl := Option.some.inj H
               go_wp2_with (first | ((with_reducible refine gate_dst (N := 23) rfl ?_); (try (refine gate_guard (by rfl) ?_; dsimp only)); refine Kd.R_lit (Kd.int .i64) _ 3 ?hg (N := 23) ?hd (xs := ([] : List Int)) (inner := []) (ok := fun _ => True) (okp := fun _ => True) ?hr ?hp (fun _ hk => hk) trivial (Below.refl _ _) (Nat.le_refl _) (by simp) ?_; (case hd => rfl); (case hg => rfl); (case hr => first | (go_simp; done) | (go_simp; rfl)); (case hp => exact (Reps.none _ _)); intro v263 w79 ho80 hb hg_ hnew_; clear hg_ hnew_; (first | rw [← Ny262.out] at ho80 | (simp only [Int.reduceToNat] at ho80; rw [← Ny262.out] at ho80)); have n0_ := Aside0.mk (Kd.R_lower ho80 (below_size (by repeat (first | (with_reducible first | exact HB.out | apply below_alloc | apply pw_below_drewN | apply below_drew1 | refine below_set ?_ GE257.out) | exact HB.out)))); have n1_ := Aside0.mk (blk_below (g := gb257) (o := .cells #[.int .u32 a0_0, .int .i64 a0_1, .slice A0_2 l0_2.length c0_2, .int .i64 a0_3, .int .i64 a0_4, .int .i64 a0_5, .int .i64 a0_6] 27 (0, 0)) (by (with_reducible repeat (first | refine blk_drewN ?_ _ | refine blk_drew ?_ | refine blk_alloc ?_ _)); exact BK257.out) hb); have n2_ := Aside0.mk (below_step (by repeat (first | (with_reducible first | exact HB.out | apply below_alloc | apply pw_below_drewN | apply below_drew1 | refine below_set ?_ GE257.out) | exact HB.out)) hb); clear BK257; clear HB; have HO264 := n0_; have BK257 := n1_; have HB := n2_; clear n0_ n1_ n2_; clear hb ho80) | ((with_reducible refine gate_builtin (b := .append) (xs := #[.tmp 23, .tmp 24]) rfl ?_); (try (refine gate_guard (by rfl) ?_; dsimp only)); at_builtin; refine Kd.R_append_rows (Kd.int .i64) (w0 := w) w.heap.size rfl (.tmp 23) (.tmp 24) 25 3 (.int .i64 0) 8 rfl Try.underlying25 info3 rfl (by decide) (by omega) v263 y262 l1 _ _ _ (fun _ => True) (fun _ => False) rfl rfl ?aO ?aR (fun _ _ h => h) (fun _ h => h.elim) ?aF ?aB ?aS ?aL ?_; (case aR => repeat (first | exact (Kd.C_below HR1.out HB.out) | (with_reducible refine Kd.C_alloc ?_ _) | (with_reducible refine Kd.C_drewN ?_ _) | (with_reducible refine Kd.C_drew ?_))); (case aB => exact (by repeat (first | (with_reducible first | exact HB.out | apply below_alloc | apply pw_below_drewN | apply below_drew1 | refine below_set ?_ GE257.out) | exact HB.out))); (case aF => exact (fun _ _ => trivial)); (case aO => exact (by (with_reducible repeat (first | apply Kd.R_alloc | apply Kd.R_drewN | apply Kd.R_drew)); exact HO264.out)); (case aS => exact (below_size (by repeat (first | (with_reducible first | exact HB.out | apply below_alloc | apply pw_below_drewN | apply below_drew1 | refine below_set ?_ GE257.out) | exact HB.out)))); (case aL => have := LMc19.out; omega); intro v266 w81 ho hb hg hat; rw [← Ny265.out] at ho; have n0_ := Aside0.mk (blk_grown (g := gb257) (o := .cells #[.int .u32 a0_0, .int .i64 a0_1, .slice A0_2 l0_2.length c0_2, .int .i64 a0_3, .int .i64 a0_4, .int .i64 a0_5, .int .i64 a0_6] 27 (0, 0)) (by (with_reducible repeat (first | refine blk_drewN ?_ _ | refine blk_drew ?_ | refine blk_alloc ?_ _)); exact BK257.out) hg (Kd.R_ne HO264.out BK257.out (by decide))); have n1_ := Aside0.mk (hb); have n2_ := Aside0.mk (ho); clear BK257; clear HB; clear HO264; have BK257 := n0_; have HB := n1_; have HO267 := n2_; clear n0_ n1_ n2_; clear ho hb hg hat) | ((with_reducible refine gate_dst (N := 26) rfl ?_); (try (refine gate_guard (by rfl) ?_; dsimp only)); refine Kd.R_lit (Kd.int .i64) _ 3 ?hg (N := 26) ?hd (xs := ([77, 78] : List Int)) (inner := [.int .i64 77, .int .i64 78]) (ok := fun _ => True) (okp := fun _ => True) ?hr ?hp (fun _ hk => hk) trivial (Below.refl _ _) (Nat.le_refl _) (by simp) ?_; (case hd => rfl); (case hg => rfl); (case hr => first | (go_simp; done) | (go_simp; rfl)); (case hp => exact (Reps.one (show Kd.M (Kd.int .i64) _ _ _ 77 [.int .i64 77] from rfl) (Reps.one (show Kd.M (Kd.int .i64) _ _ _ 78 [.int .i64 78] from rfl) (Reps.none _ _)))); intro v269 w82 ho83 hb hg_ hnew_; clear hg_ hnew_; (first | rw [← Ny268.out] at ho83 | (simp only [Int.reduceToNat] at ho83; rw [← Ny268.out] at ho83)); have n0_ := Aside0.mk (Kd.R_elder' (by (with_reducible repeat (first | apply Kd.R_alloc | apply Kd.R_drewN | apply Kd.R_drew)); exact HO267.out) (Kd.R_base ho83) hb); have n1_ := Aside0.mk (Kd.R_lower (Kd.R_new' ho83 (Kd.R_lt (by (with_reducible repeat (first | apply Kd.R_alloc | apply Kd.R_drewN | apply Kd.R_drew)); exact HO267.out))) (below_size (by repeat (first | (with_reducible first | exact HB.out | apply below_alloc | apply pw_below_drewN | apply below_drew1 | refine below_set ?_ GE257.out) | exact HB.out)))); have n2_ := Aside0.mk (blk_below (g := gb257) (o := .cells #[.int .u32 a0_0, .int .i64 a0_1, .slice A0_2 l0_2.length c0_2, .int .i64 a0_3, .int .i64 a0_4, .int .i64 a0_5, .int .i64 a0_6] 27 (0, 0)) (by (with_reducible repeat (first | refine blk_drewN ?_ _ | refine blk_drew ?_ | refine blk_alloc ?_ _)); exact BK257.out) hb); have n3_ := Aside0.mk (below_step (by repeat (first | (with_reducible first | exact HB.out | apply below_alloc | apply pw_below_drewN | apply below_drew1 | refine below_set ?_ GE257.out) | exact HB.out)) hb); clear HO267; clear BK257; clear HB; have HO267 := n0_; have HO270 := n1_; have BK257 := n2_; have HB := n3_; clear n0_ n1_ n2_ n3_; clear hb ho83; obtain ⟨Ao85, co85, eo85⟩ := Kd.R_slice HO270.out; subst eo85) | ((with_reducible refine gate_builtin (b := .append) (xs := #[.tmp 25, .tmp 26]) rfl ?_); (try (refine gate_guard (by rfl) ?_; dsimp only)); at_builtin; refine Kd.R_append_rows (Kd.int .i64) (w0 := w) w.heap.size rfl (.tmp 25) (.tmp 26) 25 3 (.int .i64 0) 8 rfl Try.underlying25 info3 rfl (by decide) (by omega) v266 y265 y268 _ _ _ (fun k_ => some k_ ≠ (.slice Ao85 y268.length co85 : Value).ownBlock) (fun _ => False) rfl rfl ?aO ?aR (fun _ _ h => h) (fun _ h => h.elim) ?aF ?aB ?aS ?aL ?_; (case aR => repeat (first | exact (Kd.R_reads' HO270.out).2.2 | (with_reducible refine Kd.C_alloc ?_ _) | (with_reducible refine Kd.C_drewN ?_ _) | (with_reducible refine Kd.C_drew ?_))); (case aB => exact (by repeat (first | (with_reducible first | exact HB.out | apply below_alloc | apply pw_below_drewN | apply below_drew1 | refine below_set ?_ GE257.out) | exact HB.out))); (case aF => exact (fun k_ hk => Kd.fresh' (Kd.R_lt (by (with_reducible repeat (first | apply Kd.R_alloc | apply Kd.R_drewN | apply Kd.R_drew)); exact HO270.out)) k_ hk)); (case aO => exact (by (with_reducible repeat (first | apply Kd.R_alloc | apply Kd.R_drewN | apply Kd.R_drew)); exact Kd.R_mono HO267.out (fun _ hk => hk.2))); (case aS => exact (below_size (by repeat (first | (with_reducible first | exact HB.out | apply below_alloc | apply pw_below_drewN | apply below_drew1 | refine below_set ?_ GE257.out) | exact HB.out)))); (case aL => have := LMc20.out; omega); intro v272 w84 ho hb hg hat; rw [← Ny271.out] at ho; have n0_ := Aside0.mk (blk_grown (g := gb257) (o := .cells #[.int .u32 a0_0, .int .i64 a0_1, .slice A0_2 l0_2.length c0_2, .int .i64 a0_3, .int .i64 a0_4, .int .i64 a0_5, .int .i64 a0_6] 27 (0, 0)) (by (with_reducible repeat (first | refine blk_drewN ?_ _ | refine blk_drew ?_ | refine blk_alloc ?_ _)); exact BK257.out) hg (Kd.R_ne HO267.out BK257.out (by decide))); have n1_ := Aside0.mk (Kd.R_after (ok := (fun _ => True)) (by (with_reducible repeat (first | apply Kd.R_alloc | apply Kd.R_drewN | apply Kd.R_drew)); exact HO270.out) hg hat); have n2_ := Aside0.mk (hb); have n3_ := Aside0.mk (ho); clear BK257; clear HO270; clear HB; clear HO267; have BK257 := n0_; have HO270 := n1_; have HB := n2_; have HO273 := n3_; clear n0_ n1_ n2_ n3_; clear ho hb hg hat; (try clear hcut39); (try clear hcut42); (try clear hcut47); (try clear hcut65); (try clear hcut67); (try clear hcut69); obtain ⟨Ao87, co87, eo87⟩ := Kd.R_slice HO273.out; subst eo87; have q86 : ((l1.length : Int) : Int) ≤ ((y271.length : Int) : Int) := od_; obtain ⟨i086, hi086, _, hsz86, _⟩ := info_parts info3; have hroom86 : y271.length ≤ co87 := (Kd.R_reads' HO273.out).2.1; have hC86 : Kd.C (Kd.int .i64) _ Ao87 y271.length y271 := (Kd.R_reads' HO273.out).2.2; have hcut86 := cut_to (P := Try.prog) 25 3 .i64 Try.underlying25 hi086 Ao87 y271.length co87 (l1.length : Int) od_ q86 hroom86; have hr86 := Kd.C_take (m := ((l1.length : Int) : Int).toNat) hC86 (by omega); have hy86 : y274.length = ((l1.length : Int) : Int).toNat := (by rw [Ny274.out, List.length_take]; omega); rw [← Ny274.out] at hr86; rw [← hy86] at hcut86; have HR277 := Aside0.mk hr86; have HC277 := Aside0.mk (show y274.length ≤ co87 from by omega); clear hr86 hC86 hroom86 hi086 hsz86; have KY86 := Aside0.mk hy86; clear hy86; have KL86 := Aside0.mk (show ((l1.length : Int) : Int).toNat ≤ y271.length from by omega); replace q86 := eq_true q86) | ((with_reducible refine gate_callee (f := 17) rfl ?_); refine goesL_ (some 33) rfl rfl Try.func17 (by kernel_rfl) rfl #[.slice Ao87 y274.length co87, .int .i64 a2] rfl (by (try simp only [List.map_toArray, List.map_cons, List.map_nil]); first | done | rfl | (simp only [List.length_drop, List.length_take]; rfl)) ?_; (with_reducible refine (model_With.calls kj3 (fun k_ => some k_ = (.slice Ao87 y271.length co87 : Value).ownBlock) _ _ y274 a2 t278 _ ?side1 A23.out).mono ?_); (case side1 => exact (by have h_ := (Kd.V_at (base := w.heap.size) (Kd.R_V (Kd.R_tight rfl (Kd.R_types (HO273.out) BK257.out (by decide))))).2.2; have h2_ := Kd.F_take (m := ((l1.length : Int) : Int).toNat) h_ KL86.out; rw [← Ny274.out] at h2_; exact Kd.V_mk HC277.out h2_)); rintro e w88 ⟨v279, rfl, ho0, hb⟩; refine ⟨_, rfl, ?_⟩; have n0_ := Aside0.mk (Kd.R_below (by (with_reducible repeat (first | apply Kd.R_alloc | apply Kd.R_drewN | apply Kd.R_drew)); exact HO270.out) hb); have n1_ := Aside0.mk (Kd.R_below (by (with_reducible repeat (first | apply Kd.R_alloc | apply Kd.R_drewN | apply Kd.R_drew)); exact HO273.out) hb); have n2_ := Aside0.mk (Kd.V_lower (Kd.V_mono (ok' := fun k_ => some k_ ≠ (.slice Ao85 y268.length co85 : Value).ownBlock ∧ k_ ≠ gb257) ho0 (fun k_ hk_ => ⟨Or.elim hk_ (fun hs_ => ((Kd.R_types (HO273.out) BK257.out (by decide)).1 k_ hs_.symm).1) (fun hn_ => (Kd.fresh' (Kd.R_lt (by (with_reducible repeat (first | apply Kd.R_alloc | apply Kd.R_drewN | apply Kd.R_drew)); exact HO270.out)) k_ hn_)), Or.elim hk_ (fun hs_ => ((Kd.R_types (HO273.out) BK257.out (by decide)).1 k_ hs_.symm).2) (fun hn_ => (Kd.freshB (g := gb257) (o := .cells #[.int .u32 a0_0, .int .i64 a0_1, .slice A0_2 l0_2.length c0_2, .int .i64 a0_3, .int .i64 a0_4, .int .i64 a0_5, .int .i64 a0_6] 27 (0, 0)) (by (with_reducible repeat (first | refine blk_drewN ?_ _ | refine blk_drew ?_ | refine blk_alloc ?_ _)); exact BK257.out) k_ hn_))⟩)) (below_size (by repeat (first | (with_reducible first | exact HB.out | apply below_alloc | apply pw_below_drewN | apply below_drew1 | refine below_set ?_ GE257.out) | exact HB.out)))); have n3_ := Aside0.mk (blk_below (g := gb257) (o := .cells #[.int .u32 a0_0, .int .i64 a0_1, .slice A0_2 l0_2.length c0_2, .int .i64 a0_3, .int .i64 a0_4, .int .i64 a0_5, .int .i64 a0_6] 27 (0, 0)) (by (with_reducible repeat (first | refine blk_drewN ?_ _ | refine blk_drew ?_ | refine blk_alloc ?_ _)); exact BK257.out) hb); have n4_ := Aside0.mk (Kd.C_below (by repeat (first | (with_reducible exact HR277.out) | (with_reducible refine Kd.C_alloc ?_ _) | (with_reducible refine Kd.C_drewN ?_ _) | (with_reducible refine Kd.C_drew ?_) | exact HR277.out)) hb); have n5_ := Aside0.mk (below_step (by repeat (first | (with_reducible first | exact HB.out | apply below_alloc | apply pw_below_drewN | apply below_drew1 | refine below_set ?_ GE257.out) | exact HB.out)) hb); clear HO270; clear HO273; clear BK257; clear HR277; clear HB; have HO270 := n0_; have HO273 := n1_; have HO280 := n2_; have BK257 := n3_; have HR277 := n4_; have HB := n5_; clear n0_ n1_ n2_ n3_ n4_ n5_; (try clear hb); (try clear hb2); (try clear hk); (try clear hi); (try clear ho0); (try clear hcut39); (try clear hcut42); (try clear hcut47); (try clear hcut65); (try clear hcut67); (try clear hcut69); (try clear hcut86); have q89 : ((l1.length : Int) : Int) ≤ ((y271.length : Int) : Int) := od_; obtain ⟨i089, hi089, _, hsz89, _⟩ := info_parts info3; have hroom89 : y271.length ≤ co87 := (Kd.R_reads' HO273.out).2.1; have hC89 : Kd.C (Kd.int .i64) _ Ao87 y271.length y271 := (Kd.R_reads' HO273.out).2.2; have hcut89 := cut_to (P := Try.prog) 25 3 .i64 Try.underlying25 hi089 Ao87 y271.length co87 (l1.length : Int) od_ q89 hroom89; have hr89 := Kd.C_take (m := ((l1.length : Int) : Int).toNat) hC89 (by omega); have hy89 : y281.length = ((l1.length : Int) : Int).toNat := (by rw [Ny281.out, List.length_take]; omega); rw [← Ny281.out] at hr89; rw [← hy89] at hcut89; have HR284 := Aside0.mk hr89; have HC284 := Aside0.mk (show y281.length ≤ co87 from by omega); clear hr89 hC89 hroom89 hi089 hsz89; have KY89 := Aside0.mk hy89; clear hy89; have KL89 := Aside0.mk (show ((l1.length : Int) : Int).toNat ≤ y271.length from by omega); replace q89 := eq_true q89) | ((with_reducible refine gate_callee (f := 19) rfl ?_); refine goesL_ (some 39) rfl rfl Try.func19 (by kernel_rfl) rfl #[.slice Ao87 y281.length co87, .int .i64 a2] rfl (by (try simp only [List.map_toArray, List.map_cons, List.map_nil]); first | done | rfl | (simp only [List.length_drop, List.length_take]; rfl)) ?_; (with_reducible refine (model_Without.calls kj3 (fun k_ => some k_ = (.slice Ao87 y271.length co87 : Value).ownBlock) _ _ y281 a2 t285 _ ?side1 A26.out).mono ?_); (case side1 => exact (by have h_ := (Kd.V_at (base := w.heap.size) (Kd.R_V (Kd.R_tight rfl (Kd.R_types (HO273.out) BK257.out (by decide))))).2.2; have h2_ := Kd.F_take (m := ((l1.length : Int) : Int).toNat) h_ KL89.out; rw [← Ny281.out] at h2_; exact Kd.V_mk HC284.out h2_)); rintro e w90 ⟨v286, rfl, ho0, hb⟩; refine ⟨_, rfl, ?_⟩; have n0_ := Aside0.mk (Kd.R_below (by (with_reducible repeat (first | apply Kd.R_alloc | apply Kd.R_drewN | apply Kd.R_drew)); exact HO270.out) hb); have n1_ := Aside0.mk (Kd.R_below (by (with_reducible repeat (first | apply Kd.R_alloc | apply Kd.R_drewN | apply Kd.R_drew)); exact HO273.out) hb); have n2_ := Aside0.mk (Kd.V_below (by (with_reducible repeat (first | apply Kd.V_alloc | apply Kd.V_drewN | apply Kd.V_drew)); exact HO280.out) hb); have n3_ := Aside0.mk (Kd.V_lower (Kd.V_mono (ok' := fun k_ => some k_ ≠ (.slice Ao85 y268.length co85 : Value).ownBlock ∧ k_ ≠ gb257) ho0 (fun k_ hk_ => ⟨Or.elim hk_ (fun hs_ => ((Kd.R_types (HO273.out) BK257.out (by decide)).1 k_ hs_.symm).1) (fun hn_ => (Kd.fresh' (Kd.R_lt (by (with_reducible repeat (first | apply Kd.R_alloc | apply Kd.R_drewN | apply Kd.R_drew)); exact HO270.out)) k_ hn_)), Or.elim hk_ (fun hs_ => ((Kd.R_types (HO273.out) BK257.out (by decide)).1 k_ hs_.symm).2) (fun hn_ => (Kd.freshB (g := gb257) (o := .cells #[.int .u32 a0_0, .int .i64 a0_1, .slice A0_2 l0_2.length c0_2, .int .i64 a0_3, .int .i64 a0_4, .int .i64 a0_5, .int .i64 a0_6] 27 (0, 0)) (by (with_reducible repeat (first | refine blk_drewN ?_ _ | refine blk_drew ?_ | refine blk_alloc ?_ _)); exact BK257.out) k_ hn_))⟩)) (below_size (by repeat (first | (with_reducible first | exact HB.out | apply below_alloc | apply pw_below_drewN | apply below_drew1 | refine below_set ?_ GE257.out) | exact HB.out)))); have n4_ := Aside0.mk (blk_below (g := gb257) (o := .cells #[.int .u32 a0_0, .int .i64 a0_1, .slice A0_2 l0_2.length c0_2, .int .i64 a0_3, .int .i64 a0_4, .int .i64 a0_5, .int .i64 a0_6] 27 (0, 0)) (by (with_reducible repeat (first | refine blk_drewN ?_ _ | refine blk_drew ?_ | refine blk_alloc ?_ _)); exact BK257.out) hb); have n5_ := Aside0.mk (Kd.C_below (by repeat (first | (with_reducible exact HR277.out) | (with_reducible refine Kd.C_alloc ?_ _) | (with_reducible refine Kd.C_drewN ?_ _) | (with_reducible refine Kd.C_drew ?_) | exact HR277.out)) hb); have n6_ := Aside0.mk (Kd.C_below (by repeat (first | (with_reducible exact HR284.out) | (with_reducible refine Kd.C_alloc ?_ _) | (with_reducible refine Kd.C_drewN ?_ _) | (with_reducible refine Kd.C_drew ?_) | exact HR284.out)) hb); have n7_ := Aside0.mk (below_step (by repeat (first | (with_reducible first | exact HB.out | apply below_alloc | apply pw_below_drewN | apply below_drew1 | refine below_set ?_ GE257.out) | exact HB.out)) hb); clear HO270; clear HO273; clear HO280; clear BK257; clear HR277; clear HR284; clear HB; have HO270 := n0_; have HO273 := n1_; have HO280 := n2_; have HO287 := n3_; have BK257 := n4_; have HR277 := n5_; have HR284 := n6_; have HB := n7_; clear n0_ n1_ n2_ n3_ n4_ n5_ n6_ n7_; (try clear hb); (try clear hb2); (try clear hk); (try clear hi); (try clear ho0); have hcz91_0 : w90.cell? ⟨gb257, 0, none⟩ = some (.int .u32 a0_0) := (blk_cell BK257.out 0).trans rfl; have hcz91_1 : w90.cell? ⟨gb257, 1, none⟩ = some (.int .i64 a0_1) := (blk_cell BK257.out 1).trans rfl; have hcz91_2 : w90.cell? ⟨gb257, 2, none⟩ = some (.slice A0_2 l0_2.length c0_2) := (blk_cell BK257.out 2).trans rfl; have hcz91_3 : w90.cell? ⟨gb257, 3, none⟩ = some (.int .i64 a0_3) := (blk_cell BK257.out 3).trans rfl; have hcz91_4 : w90.cell? ⟨gb257, 4, none⟩ = some (.int .i64 a0_4) := (blk_cell BK257.out 4).trans rfl; have hcz91_5 : w90.cell? ⟨gb257, 5, none⟩ = some (.int .i64 a0_5) := (blk_cell BK257.out 5).trans rfl; have hcz91_6 : w90.cell? ⟨gb257, 6, none⟩ = some (.int .i64 a0_6) := (blk_cell BK257.out 6).trans rfl; have hfz91_0 := blk_frozen BK257.out 0; have hfz91_1 := blk_frozen BK257.out 1; have hfz91_2 := blk_frozen BK257.out 2; have hfz91_3 := blk_frozen BK257.out 3; have hfz91_4 := blk_frozen BK257.out 4; have hfz91_5 := blk_frozen BK257.out 5; have hfz91_6 := blk_frozen BK257.out 6) | ((with_reducible refine gate_callee (f := 12) rfl ?_); refine goesL_ (some 42) rfl rfl Try.func12 (by kernel_rfl) rfl #[.agg #[.int .u32 a0_0, .int .i64 a0_1, .slice A0_2 l0_2.length c0_2, .int .i64 a0_3, .int .i64 a0_4, .int .i64 a0_5, .int .i64 a0_6], .slice A1 l1.length c1] rfl (by (try simp only [List.map_toArray, List.map_cons, List.map_nil]); first | done | rfl | (simp only [List.length_drop, List.length_take]; rfl)) ?_; (with_reducible refine (lodgerref09_May.calls kj3 a0_0 a0_1 _ _ l0_2 a0_3 a0_4 a0_5 a0_6 _ _ l1 false _ ?side1 ?side2 ?side3 ?side4 A27.out).mono ?_); (case side1 => repeat (first | exact (Kd.C_below HR0_2.out HB.out) | (with_reducible refine Kd.C_alloc ?_ _) | (with_reducible refine Kd.C_drewN ?_ _) | (with_reducible refine Kd.C_drew ?_))); (case side2 => exact HC0_2.out); (case side3 => repeat (first | exact (Kd.C_below HR1.out HB.out) | (with_reducible refine Kd.C_alloc ?_ _) | (with_reducible refine Kd.C_drewN ?_ _) | (with_reducible refine Kd.C_drew ?_))); (case side4 => exact HC1.out); rintro e w92 ⟨rfl, hb⟩; refine ⟨_, rfl, ?_⟩; have n0_ := Aside0.mk (Kd.R_below (by (with_reducible repeat (first | apply Kd.R_alloc | apply Kd.R_drewN | apply Kd.R_drew)); exact HO270.out) hb); have n1_ := Aside0.mk (Kd.R_below (by (with_reducible repeat (first | apply Kd.R_alloc | apply Kd.R_drewN | apply Kd.R_drew)); exact HO273.out) hb); have n2_ := Aside0.mk (Kd.V_below (by (with_reducible repeat (first | apply Kd.V_alloc | apply Kd.V_drewN | apply Kd.V_drew)); exact HO280.out) hb); have n3_ := Aside0.mk (Kd.V_below (by (with_reducible repeat (first | apply Kd.V_alloc | apply Kd.V_drewN | apply Kd.V_drew)); exact HO287.out) hb); have n4_ := Aside0.mk (blk_below (g := gb257) (o := .cells #[.int .u32 a0_0, .int .i64 a0_1, .slice A0_2 l0_2.length c0_2, .int .i64 a0_3, .int .i64 a0_4, .int .i64 a0_5, .int .i64 a0_6] 27 (0, 0)) (by (with_reducible repeat (first | refine blk_drewN ?_ _ | refine blk_drew ?_ | refine blk_alloc ?_ _)); exact BK257.out) hb); have n5_ := Aside0.mk (Kd.C_below (by repeat (first | (with_reducible exact HR277.out) | (with_reducible refine Kd.C_alloc ?_ _) | (with_reducible refine Kd.C_drewN ?_ _) | (with_reducible refine Kd.C_drew ?_) | exact HR277.out)) hb); have n6_ := Aside0.mk (Kd.C_below (by repeat (first | (with_reducible exact HR284.out) | (with_reducible refine Kd.C_alloc ?_ _) | (with_reducible refine Kd.C_drewN ?_ _) | (with_reducible refine Kd.C_drew ?_) | exact HR284.out)) hb); have n7_ := Aside0.mk (below_step (by repeat (first | (with_reducible first | exact HB.out | apply below_alloc | apply pw_below_drewN | apply below_drew1 | refine below_set ?_ GE257.out) | exact HB.out)) hb); clear HO270; clear HO273; clear HO280; clear HO287; clear BK257; clear HR277; clear HR284; clear HB; have HO270 := n0_; have HO273 := n1_; have HO280 := n2_; have HO287 := n3_; have BK257 := n4_; have HR277 := n5_; have HR284 := n6_; have HB := n7_; clear n0_ n1_ n2_ n3_ n4_ n5_ n6_ n7_; (try clear hb); (try clear hb2); (try clear hk); (try clear hi); (try clear hcut39); (try clear hcut42); (try clear hcut47); (try clear hcut65); (try clear hcut67); (try clear hcut69); (try clear hcut86); (try clear hcut89); have q93 : ((l1.length : Int) : Int) ≤ ((y271.length : Int) : Int) := od_; obtain ⟨i093, hi093, _, hsz93, _⟩ := info_parts info3; have hroom93 : y271.length ≤ co87 := (Kd.R_reads' HO273.out).2.1; have hC93 : Kd.C (Kd.int .i64) _ Ao87 y271.length y271 := (Kd.R_reads' HO273.out).2.2; have hcut93 := cut_to (P := Try.prog) 25 3 .i64 Try.underlying25 hi093 Ao87 y271.length co87 (l1.length : Int) od_ q93 hroom93; have hr93 := Kd.C_take (m := ((l1.length : Int) : Int).toNat) hC93 (by omega); have hy93 : y304.length = ((l1.length : Int) : Int).toNat := (by rw [Ny304.out, List.length_take]; omega); rw [← Ny304.out] at hr93; rw [← hy93] at hcut93; have HR307 := Aside0.mk hr93; have HC307 := Aside0.mk (show y304.length ≤ co87 from by omega); clear hr93 hC93 hroom93 hi093 hsz93; have KY93 := Aside0.mk hy93; clear hy93; have KL93 := Aside0.mk (show ((l1.length : Int) : Int).toNat ≤ y271.length from by omega); replace q93 := eq_true q93) | ((with_reducible refine gate_callee (f := 16) rfl ?_); refine goesL_ (some 63) rfl rfl Try.func16 (by kernel_rfl) rfl #[.slice Ao87 y304.length co87, .slice A1 l1.length c1] rfl (by (try simp only [List.map_toArray, List.map_cons, List.map_nil]); first | done | rfl | (simp only [List.length_drop, List.length_take]; rfl)) ?_; (with_reducible refine (lodgerref03_Ints.calls kj3 _ _ y304 _ _ l1 true _ ?side1 ?side2 ?side3 ?side4 A72.out).mono ?_); (case side1 => repeat (first | exact (by repeat (first | (with_reducible exact HR307.out) | (with_reducible refine Kd.C_alloc ?_ _) | (with_reducible refine Kd.C_drewN ?_ _) | (with_reducible refine Kd.C_drew ?_) | exact HR307.out)) | (with_reducible refine Kd.C_alloc ?_ _) | (with_reducible refine Kd.C_drewN ?_ _) | (with_reducible refine Kd.C_drew ?_))); (case side2 => exact HC307.out); (case side3 => repeat (first | exact (Kd.C_below HR1.out HB.out) | (with_reducible refine Kd.C_alloc ?_ _) | (with_reducible refine Kd.C_drewN ?_ _) | (with_reducible refine Kd.C_drew ?_))); (case side4 => exact HC1.out); rintro e w' ⟨rfl, ⟨nd, rfl⟩⟩; refine ⟨_, rfl, ?_⟩; have p309 : 0 ≤ ((l1.length : Int) : Int) := od_; have q309 : (l1.length : Int) < (y271.length : Int) := od_; obtain ⟨ad309, e309, hx309_0⟩ := Kd.at_int (Kd.R_reads' HO273.out).2.2 (l1.length : Int) p309 q309; cases e309; (try simp only [Go.IntWalk.toNatUp] at hx309_0); replace p309 := eq_true p309; replace q309 := eq_true q309; have p310 : 0 ≤ ((ji76) : Int) := od_; have q310 : (ji76) < (y271.length : Int) := od_; obtain ⟨ad310, e310, hx310_0⟩ := Kd.at_int (Kd.R_reads' HO273.out).2.2 (ji76) p310 q310; obtain rfl : ad309 = ad310 := (by injection e310); replace p310 := eq_true p310; replace q310 := eq_true q310))
               go_ret
               exact ⟨by first | rfl | (simp [errW_none, errW_some] <;> rfl) | (simp only [← hji76]; first | rfl | (simp [errW_none, errW_some] <;> rfl)) | (simp [*, errW_none, errW_some] <;> rfl), by repeat (first | (with_reducible first | exact HB.out | apply below_alloc | apply pw_below_drewN | apply below_drew1 | refine below_set ?_ GE257.out) | exact HB.out)⟩
             ·rw [if_neg c78] at H
              exact absurd H (by simp)
            ·rw [if_neg c77] at H
             exact absurd H (by simp)
           ·rw [if_neg c75] at H
            rw [hr_.out] at H
            exact absurd (Option.some.inj H) (by decide)
          ·rw [if_neg c74] at H
           exact absurd H (by simp)
         ·replace c73 := Bool.eq_false_iff.mpr c73
          subst c73
          have H1 : (some false) = some r := by rw [if_neg (show ¬ (false = true) by decide)] at H; exact H
          rw [hr_.out] at H1
          exact absurd (Option.some.inj H1) (by decide)
       ·rw [if_neg c22] at H
        exact absurd H (by simp)
      ·rw [if_neg c21] at H
       exact absurd H (by simp)
     ·rw [if_neg c20] at H
      exact absurd H (by simp)
    ·rw [if_neg c19] at H
     exact absurd H (by simp)

/-- THE ONE PURE STATEMENT of lodgerlaw09_ModelKeeps: yours. -/
def lodgerlaw09_ModelKeeps.Pure : Prop := ∀ (a0_0 : Int) (a0_1 : Int) (l0_2 : List Int) (a0_3 : Int) (a0_4 : Int) (a0_5 : Int) (a0_6 : Int) (l1 : List Int) (a2 : Int), (Lit.int .u32 a0_0).wf = true → (Lit.int .i64 a0_1).wf = true → l0_2.length ≤ maxLen → (∀ x ∈ l0_2, (Lit.int .i64 x).wf = true) → (Lit.int .i64 a0_3).wf = true → (Lit.int .i64 a0_4).wf = true → (Lit.int .i64 a0_5).wf = true → (Lit.int .i64 a0_6).wf = true → l1.length ≤ maxLen → l1.length * 8 ≤ 140737488351232 → (∀ x ∈ l1, (Lit.int .i64 x).wf = true) → (Lit.int .i64 a2).wf = true → ∃ k, lodgerlaw09_ModelKeeps.f k a0_0 a0_1 l0_2 a0_3 a0_4 a0_5 a0_6 l1 a2 = some true
theorem lodgerlaw09_ModelKeeps.walk (P : lodgerlaw09_ModelKeeps.Pure) (a0_0 : Int) (a0_1 : Int) (a0_2 : Option Addr) (len0_2 cap0_2 : Nat) (z0_2 : List Int) (a0_3 : Int) (a0_4 : Int) (a0_5 : Int) (a0_6 : Int) (a1 : Option Addr) (len1 cap1 : Nat) (z1 : List Int) (a2 : Int) (w : World) (w0_0 : (Lit.int .u32 a0_0).wf = true) (w0_1 : (Lit.int .i64 a0_1).wf = true) (w0_2 : (a0_2 = none ∧ len0_2 = 0 ∧ cap0_2 = 0 ∧ z0_2 = []) ∨ ∃ x, a0_2 = some x ∧ len0_2 ≤ cap0_2 ∧ cap0_2 ≤ maxLen ∧ z0_2.length = cap0_2 ∧ (∀ i, i < z0_2.length → w.cell? (x.add i) = some (.int .i64 (z0_2.getD i 0))) ∧ ∀ n ∈ z0_2, (Lit.int .i64 n).wf = true) (w0_3 : (Lit.int .i64 a0_3).wf = true) (w0_4 : (Lit.int .i64 a0_4).wf = true) (w0_5 : (Lit.int .i64 a0_5).wf = true) (w0_6 : (Lit.int .i64 a0_6).wf = true) (w1 : (a1 = none ∧ len1 = 0 ∧ cap1 = 0 ∧ z1 = []) ∨ ∃ x, a1 = some x ∧ len1 ≤ cap1 ∧ cap1 ≤ maxLen ∧ z1.length = cap1 ∧ (∀ i, i < z1.length → w.cell? (x.add i) = some (.int .i64 (z1.getD i 0))) ∧ ∀ n ∈ z1, (Lit.int .i64 n).wf = true) (y1 : len1 * 8 ≤ 140737488351232) (w2 : (Lit.int .i64 a2).wf = true) :
  Calls Try.prog 6 #[.agg #[.int .u32 a0_0, .int .i64 a0_1, .slice a0_2 len0_2 cap0_2, .int .i64 a0_3, .int .i64 a0_4, .int .i64 a0_5, .int .i64 a0_6], .slice a1 len1 cap1, .int .i64 a2] w fun e w' => e = .returned (.bool true) ∧ Below w.heap.size w w' := by
 obtain ⟨l0_2, rfl, hr0_2, hm0_2, hw0_2, hc0_2⟩ := ReadsInt.ofRowC w0_2
 obtain ⟨l1, rfl, hr1, hm1, hw1, hc1⟩ := ReadsInt.ofRowC w1
 obtain ⟨k, h⟩ := P a0_0 a0_1 l0_2 a0_3 a0_4 a0_5 a0_6 l1 a2 w0_0 w0_1 hm0_2 hw0_2 w0_3 w0_4 w0_5 w0_6 hm1 y1 hw1 w2
 refine (lodgerlaw09_ModelKeeps.calls k a0_0 a0_1 _ _ l0_2 a0_3 a0_4 a0_5 a0_6 _ _ l1 a2 true w (Kd.C_of_reads (d := (0 : Int)) (h1 := fun _ => rfl) hr0_2) hc0_2 (Kd.C_of_reads (d := (0 : Int)) (h1 := fun _ => rfl) hr1) hc1 rfl h).mono ?_
 rintro e w' ⟨rfl, hd⟩
 exact ⟨rfl, hd⟩

end Go.Proofs.Ythfcgjmffjmplaa.PModelKeeps
