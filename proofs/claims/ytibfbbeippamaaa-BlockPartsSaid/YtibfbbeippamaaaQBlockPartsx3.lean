/- The walk of BlockParts, part of it: what the Go functions answer; no condition. -/
import Derived.Test.YtibfbbeippamaaaQBlockPartsx0
import Derived.Test.YtibfbbeippamaaaQBlockPartsx1
import Derived.Test.YtibfbbeippamaaaQBlockPartsx2
namespace Go.Proofs.Ytibfbbeippamaaa.PBlockParts
open Go.RowKit Go.Proofs.YtibfbbeippamaaaW.PrintWords Go.Proofs.YtibfbbeippamaaaW.PrintLast Go.Proofs.YtibfbbeippamaaaW.PrintMore
attribute [local go_sem] max2_int min2_int max_two min_two max_three min_three max_four min_four   -- for this text's walks alone
set_option linter.unusedVariables false
set_option linter.unusedSimpArgs false

/-! ### slices_Contains_int_int: function 46 -/
def slices_Contains_int_int.f (k : Nat) (l0 : List Int) (a1 : Int) : Option (Bool) := (slices_Index_int_int.f k l0 a1).bind fun t121 => (some (decide (t121 ≥ 0)))
theorem slices_Contains_int_int.mono : ∀ a0 a1 k, LeO (slices_Contains_int_int.f k a0 a1) (slices_Contains_int_int.f (k + 1) a0 a1) := by
  intro a0 a1 k
  unfold slices_Contains_int_int.f
  repeat' first
      | (with_reducible exact slices_Index_int_int.mono _ _ _)
      | (with_reducible exact LeO.refl _)
      | (with_reducible exact LeO.none _)
      | (with_reducible refine LeO.ite ?_ ?_)
      | (with_reducible refine LeO.bind ?_ (fun _ => ?_))
      | exact slices_Index_int_int.mono _ _ _
      | exact LeO.none _
      | refine LeO.ite ?_ ?_
      | refine LeO.bind ?_ (fun _ => ?_)
set_option maxHeartbeats 8000000 in
set_option maxRecDepth 100000 in
theorem slices_Contains_int_int.calls (k : Nat) (A0 : Option Addr) (c0 : Nat) (l0 : List Int) (a1 : Int) (r : Bool) (w : World) (hr0 : Kd.C (Kd.int .i64) w A0 l0.length l0) (hc0 : l0.length ≤ c0) (h : slices_Contains_int_int.f k l0 a1 = some r) :
    Calls Try.prog 46 #[.slice A0 l0.length c0, .int .i64 a1] w fun e w' => e = .returned (.bool r) ∧ Drawn0 w w' := by
  have HR0 := Aside0.mk hr0
  have HC0 := Aside0.mk hc0
  clear hr0 hc0
  have H : ((slices_Index_int_int.f k l0 a1).bind fun t121 => (some (decide (t121 ≥ 0)))) = some r := h
  clear h
  replace H := Option.bind_eq_some_iff.mp H
  obtain ⟨t121, A30, H⟩ := H
  replace H : (some (decide (t121 ≥ 0))) = some r := H
  have A3 := Aside0.mk A30
  clear A30
  obtain rfl := Option.some.inj H
  go_enter Try.func46, Try.ntmps46
  go_wp2_with (first | ((with_reducible refine gate_callee (f := 48) rfl ?_); refine goesL_ (some 7) rfl rfl Try.func48 (by kernel_rfl) rfl #[.slice A0 l0.length c0, .int .i64 a1] rfl (by (try simp only [List.map_toArray, List.map_cons, List.map_nil]); first | done | rfl | (simp only [List.length_drop, List.length_take]; rfl)) ?_; (with_reducible refine (slices_Index_int_int.calls k _ _ l0 a1 t121 _ ?side1 ?side2 A3.out).mono ?_); (case side1 => repeat (first | exact HR0.out | (with_reducible refine Kd.C_alloc ?_ _) | (with_reducible refine Kd.C_drewN ?_ _) | (with_reducible refine Kd.C_drew ?_))); (case side2 => exact HC0.out); rintro e w' ⟨rfl, ⟨nd, rfl⟩⟩; refine ⟨_, rfl, ?_⟩))
  go_ret
  exact ⟨by first | rfl | (simp; done) | (simp [*]; done), by repeat (first | exact Drawn0.refl _ | apply Drawn0.step)⟩

/-! ### block_Held: function 33 -/
def block_Held.f (k : Nat) (a0_0 : Int) (a0_1 : Int) (l0_2 : List Int) (a0_3 : Int) (a0_4 : Int) (a0_5 : Int) (a0_6 : Int) (a1 : Int) : Option (Bool) := (slices_Contains_int_int.f k l0_2 a1).bind fun t123 => (some t123)
theorem block_Held.mono : ∀ a0 a1 a2 a3 a4 a5 a6 a7 k, LeO (block_Held.f k a0 a1 a2 a3 a4 a5 a6 a7) (block_Held.f (k + 1) a0 a1 a2 a3 a4 a5 a6 a7) := by
  intro a0 a1 a2 a3 a4 a5 a6 a7 k
  unfold block_Held.f
  repeat' first
      | (with_reducible exact slices_Contains_int_int.mono _ _ _)
      | (with_reducible exact LeO.refl _)
      | (with_reducible exact LeO.none _)
      | (with_reducible refine LeO.ite ?_ ?_)
      | (with_reducible refine LeO.bind ?_ (fun _ => ?_))
      | exact slices_Contains_int_int.mono _ _ _
      | exact LeO.none _
      | refine LeO.ite ?_ ?_
      | refine LeO.bind ?_ (fun _ => ?_)
set_option maxHeartbeats 8000000 in
set_option maxRecDepth 100000 in
theorem block_Held.calls (k : Nat) (a0_0 : Int) (a0_1 : Int) (A0_2 : Option Addr) (c0_2 : Nat) (l0_2 : List Int) (a0_3 : Int) (a0_4 : Int) (a0_5 : Int) (a0_6 : Int) (a1 : Int) (r : Bool) (w : World) (hr0_2 : Kd.C (Kd.int .i64) w A0_2 l0_2.length l0_2) (hc0_2 : l0_2.length ≤ c0_2) (h : block_Held.f k a0_0 a0_1 l0_2 a0_3 a0_4 a0_5 a0_6 a1 = some r) :
    Calls Try.prog 33 #[.agg #[.int .u32 a0_0, .int .i64 a0_1, .slice A0_2 l0_2.length c0_2, .int .i64 a0_3, .int .i64 a0_4, .int .i64 a0_5, .int .i64 a0_6], .int .i64 a1] w fun e w' => e = .returned (.bool r) ∧ Below w.heap.size w w' := by
  have hu27 := Try.underlying27
  have HR0_2 := Aside0.mk hr0_2
  have HC0_2 := Aside0.mk hc0_2
  clear hr0_2 hc0_2
  have HB := Aside0.mk (Below.refl w.heap.size w)
  have H : ((slices_Contains_int_int.f k l0_2 a1).bind fun t123 => (some t123)) = some r := h
  clear h
  replace H := Option.bind_eq_some_iff.mp H
  obtain ⟨t123, A30, H⟩ := H
  replace H : (some t123) = some r := H
  have A3 := Aside0.mk A30
  clear A30
  obtain rfl := Option.some.inj H
  go_enter Try.func33, Try.ntmps33
  go_wp2_with (first | ((with_reducible refine gate_dst (N := 2) rfl ?_); refine box_event ?hg (N := 2) ?hd (cs := #[.int .u32 a0_0, .int .i64 a0_1, .slice A0_2 l0_2.length c0_2, .int .i64 a0_3, .int .i64 a0_4, .int .i64 a0_5, .int .i64 a0_6]) (t := 27) ?hr ?_; (case hd => rfl); (case hg => rfl); (case hr => first | (go_simp; done) | (go_simp; rfl)); intro gb122 hg w4 hbox hb; have n0_ := Aside0.mk (below_step (by repeat (first | (with_reducible first | exact HB.out | apply below_alloc | apply pw_below_drewN | apply below_drew1) | exact HB.out)) hb); have n1_ := Aside0.mk (hbox); have n2_ := Aside0.mk ((by rw [hg]; exact (below_size (by repeat (first | (with_reducible first | exact HB.out | apply below_alloc | apply pw_below_drewN | apply below_drew1) | exact HB.out))) : w.heap.size ≤ gb122)); have n3_ := Aside0.mk ((by rw [hg]; exact (below_size (by repeat (first | (with_reducible first | exact HB.out | apply below_alloc | apply pw_below_drewN | apply below_drew1) | exact HB.out))) : w.heap.size ≤ gb122)); clear HB; have HB := n0_; have BK122 := n1_; have GW122 := n2_; have GE122 := n3_; clear n0_ n1_ n2_ n3_; clear hb hbox hg; have hcz5_0 : w4.cell? ⟨gb122, 0, none⟩ = some (.int .u32 a0_0) := (blk_cell BK122.out 0).trans rfl; have hcz5_1 : w4.cell? ⟨gb122, 1, none⟩ = some (.int .i64 a0_1) := (blk_cell BK122.out 1).trans rfl; have hcz5_2 : w4.cell? ⟨gb122, 2, none⟩ = some (.slice A0_2 l0_2.length c0_2) := (blk_cell BK122.out 2).trans rfl; have hcz5_3 : w4.cell? ⟨gb122, 3, none⟩ = some (.int .i64 a0_3) := (blk_cell BK122.out 3).trans rfl; have hcz5_4 : w4.cell? ⟨gb122, 4, none⟩ = some (.int .i64 a0_4) := (blk_cell BK122.out 4).trans rfl; have hcz5_5 : w4.cell? ⟨gb122, 5, none⟩ = some (.int .i64 a0_5) := (blk_cell BK122.out 5).trans rfl; have hcz5_6 : w4.cell? ⟨gb122, 6, none⟩ = some (.int .i64 a0_6) := (blk_cell BK122.out 6).trans rfl; have hfz5_0 := blk_frozen BK122.out 0; have hfz5_1 := blk_frozen BK122.out 1; have hfz5_2 := blk_frozen BK122.out 2; have hfz5_3 := blk_frozen BK122.out 3; have hfz5_4 := blk_frozen BK122.out 4; have hfz5_5 := blk_frozen BK122.out 5; have hfz5_6 := blk_frozen BK122.out 6) | ((with_reducible refine gate_callee (f := 46) rfl ?_); refine goesL_ (some 8) rfl rfl Try.func46 (by kernel_rfl) rfl #[.slice A0_2 l0_2.length c0_2, .int .i64 a1] rfl (by (try simp only [List.map_toArray, List.map_cons, List.map_nil]); first | done | rfl | (simp only [List.length_drop, List.length_take]; rfl)) ?_; (with_reducible refine (slices_Contains_int_int.calls k _ _ l0_2 a1 t123 _ ?side1 ?side2 A3.out).mono ?_); (case side1 => repeat (first | exact (Kd.C_below HR0_2.out HB.out) | (with_reducible refine Kd.C_alloc ?_ _) | (with_reducible refine Kd.C_drewN ?_ _) | (with_reducible refine Kd.C_drew ?_))); (case side2 => exact HC0_2.out); rintro e w' ⟨rfl, ⟨nd, rfl⟩⟩; refine ⟨_, rfl, ?_⟩))
  go_ret
  exact ⟨by first | rfl | (simp [errW_none, errW_some] <;> rfl) | (simp [*, errW_none, errW_some] <;> rfl), by repeat (first | (with_reducible first | exact HB.out | apply below_alloc | apply pw_below_drewN | apply below_drew1 | refine below_set ?_ GE122.out) | exact HB.out)⟩

/-! ### block_Find: function 29 -/
def block_Find.f (k : Nat) (a0_0 : Int) (a0_1 : Int) (l0_2 : List Int) (a0_3 : Int) (a0_4 : Int) (a0_5 : Int) (a0_6 : Int) (a1 : Int) : Option (Int × Int) := (block_Offset.f a0_0 a0_1 a1).bind fun bt125 => (if bt125.2 = 0 then ((block_Held.f k a0_0 a0_1 l0_2 a0_3 a0_4 a0_5 a0_6 bt125.1).bind fun t127 => (if t127 = true then (some (0, 4)) else (some (bt125.1, 0)))) else (some (0, bt125.2)))
theorem block_Find.mono : ∀ a0 a1 a2 a3 a4 a5 a6 a7 k, LeO (block_Find.f k a0 a1 a2 a3 a4 a5 a6 a7) (block_Find.f (k + 1) a0 a1 a2 a3 a4 a5 a6 a7) := by
  intro a0 a1 a2 a3 a4 a5 a6 a7 k
  unfold block_Find.f
  repeat' first
      | (with_reducible exact block_Held.mono _ _ _ _ _ _ _ _ _)
      | (with_reducible exact LeO.refl _)
      | (with_reducible exact LeO.none _)
      | (with_reducible refine LeO.ite ?_ ?_)
      | (with_reducible refine LeO.bind ?_ (fun _ => ?_))
      | exact block_Held.mono _ _ _ _ _ _ _ _ _
      | exact LeO.none _
      | refine LeO.ite ?_ ?_
      | refine LeO.bind ?_ (fun _ => ?_)
set_option maxHeartbeats 8000000 in
set_option maxRecDepth 100000 in
theorem block_Find.calls (k : Nat) (a0_0 : Int) (a0_1 : Int) (A0_2 : Option Addr) (c0_2 : Nat) (l0_2 : List Int) (a0_3 : Int) (a0_4 : Int) (a0_5 : Int) (a0_6 : Int) (a1 : Int) (r1 : Int) (r2 : Int) (w : World) (hr0_2 : Kd.C (Kd.int .i64) w A0_2 l0_2.length l0_2) (hc0_2 : l0_2.length ≤ c0_2) (h : block_Find.f k a0_0 a0_1 l0_2 a0_3 a0_4 a0_5 a0_6 a1 = some (r1, r2)) :
    Calls Try.prog 29 #[.agg #[.int .u32 a0_0, .int .i64 a0_1, .slice A0_2 l0_2.length c0_2, .int .i64 a0_3, .int .i64 a0_4, .int .i64 a0_5, .int .i64 a0_6], .int .u32 a1] w fun e w' => e = .returned (.tuple #[.int .i64 r1, .int .i64 r2]) ∧ Below w.heap.size w w' := by
  have hu27 := Try.underlying27
  have hu24 := Try.underlying24
  have HR0_2 := Aside0.mk hr0_2
  have HC0_2 := Aside0.mk hc0_2
  clear hr0_2 hc0_2
  have HB := Aside0.mk (Below.refl w.heap.size w)
  have H : ((block_Offset.f a0_0 a0_1 a1).bind fun bt125 => (if bt125.2 = 0 then ((block_Held.f k a0_0 a0_1 l0_2 a0_3 a0_4 a0_5 a0_6 bt125.1).bind fun t127 => (if t127 = true then (some (0, 4)) else (some (bt125.1, 0)))) else (some (0, bt125.2)))) = some (r1, r2) := h
  clear h
  replace H := Option.bind_eq_some_iff.mp H
  obtain ⟨⟨t125, t126⟩, A30, H⟩ := H
  replace H : (if t126 = 0 then ((block_Held.f k a0_0 a0_1 l0_2 a0_3 a0_4 a0_5 a0_6 t125).bind fun t127 => (if t127 = true then (some (0, 4)) else (some (t125, 0)))) else (some (0, t126))) = some (r1, r2) := H
  have A3 := Aside0.mk A30
  clear A30
  by_cases c4 : t126 = 0
  · rw [if_pos c4] at H
    have c4b0 : (t126 == 0) = true := beq_iff_eq.mpr c4
    have c4b1 : (t126 != 0) = false := bne_eq_false_iff_eq.mpr c4
    clear c4
    replace H := Option.bind_eq_some_iff.mp H
    obtain ⟨t127, A50, H⟩ := H
    replace H : (if t127 = true then (some (0, 4)) else (some (t125, 0))) = some (r1, r2) := H
    have A5 := Aside0.mk A50
    clear A50
    by_cases c6 : t127 = true
    · subst c6
      have H1 : (some (0, 4)) = some (r1, r2) := by rw [if_pos rfl] at H; exact H
      clear H
      have H := H1
      clear H1
      simp only [Option.some.injEq, Prod.mk.injEq] at H
      obtain ⟨rfl, rfl⟩ := H
      go_enter Try.func29, Try.ntmps29
      go_wp2_with (first | ((with_reducible refine gate_dst (N := 2) rfl ?_); refine box_event ?hg (N := 2) ?hd (cs := #[.int .u32 a0_0, .int .i64 a0_1, .slice A0_2 l0_2.length c0_2, .int .i64 a0_3, .int .i64 a0_4, .int .i64 a0_5, .int .i64 a0_6]) (t := 27) ?hr ?_; (case hd => rfl); (case hg => rfl); (case hr => first | (go_simp; done) | (go_simp; rfl)); intro gb124 hg w7 hbox hb; have n0_ := Aside0.mk (below_step (by repeat (first | (with_reducible first | exact HB.out | apply below_alloc | apply pw_below_drewN | apply below_drew1) | exact HB.out)) hb); have n1_ := Aside0.mk (hbox); have n2_ := Aside0.mk ((by rw [hg]; exact (below_size (by repeat (first | (with_reducible first | exact HB.out | apply below_alloc | apply pw_below_drewN | apply below_drew1) | exact HB.out))) : w.heap.size ≤ gb124)); have n3_ := Aside0.mk ((by rw [hg]; exact (below_size (by repeat (first | (with_reducible first | exact HB.out | apply below_alloc | apply pw_below_drewN | apply below_drew1) | exact HB.out))) : w.heap.size ≤ gb124)); clear HB; have HB := n0_; have BK124 := n1_; have GW124 := n2_; have GE124 := n3_; clear n0_ n1_ n2_ n3_; clear hb hbox hg; have hcz8_0 : w7.cell? ⟨gb124, 0, none⟩ = some (.int .u32 a0_0) := (blk_cell BK124.out 0).trans rfl; have hcz8_1 : w7.cell? ⟨gb124, 1, none⟩ = some (.int .i64 a0_1) := (blk_cell BK124.out 1).trans rfl; have hcz8_2 : w7.cell? ⟨gb124, 2, none⟩ = some (.slice A0_2 l0_2.length c0_2) := (blk_cell BK124.out 2).trans rfl; have hcz8_3 : w7.cell? ⟨gb124, 3, none⟩ = some (.int .i64 a0_3) := (blk_cell BK124.out 3).trans rfl; have hcz8_4 : w7.cell? ⟨gb124, 4, none⟩ = some (.int .i64 a0_4) := (blk_cell BK124.out 4).trans rfl; have hcz8_5 : w7.cell? ⟨gb124, 5, none⟩ = some (.int .i64 a0_5) := (blk_cell BK124.out 5).trans rfl; have hcz8_6 : w7.cell? ⟨gb124, 6, none⟩ = some (.int .i64 a0_6) := (blk_cell BK124.out 6).trans rfl; have hfz8_0 := blk_frozen BK124.out 0; have hfz8_1 := blk_frozen BK124.out 1; have hfz8_2 := blk_frozen BK124.out 2; have hfz8_3 := blk_frozen BK124.out 3; have hfz8_4 := blk_frozen BK124.out 4; have hfz8_5 := blk_frozen BK124.out 5; have hfz8_6 := blk_frozen BK124.out 6) | ((with_reducible refine gate_callee (f := 27) rfl ?_); refine goesL_ (some 12) rfl rfl Try.func27 (by kernel_rfl) rfl #[.agg #[.int .u32 a0_0, .int .i64 a0_1], .int .u32 a1] rfl (by (try simp only [List.map_toArray, List.map_cons, List.map_nil]); first | done | rfl | (simp only [List.length_drop, List.length_take]; rfl)) ?_; (with_reducible refine (block_Offset.calls a0_0 a0_1 a1 t125 t126 _ A3.out).mono ?_); rintro e w9 ⟨rfl, hb⟩; refine ⟨_, rfl, ?_⟩; have n0_ := Aside0.mk (blk_below (g := gb124) (o := .cells #[.int .u32 a0_0, .int .i64 a0_1, .slice A0_2 l0_2.length c0_2, .int .i64 a0_3, .int .i64 a0_4, .int .i64 a0_5, .int .i64 a0_6] 27 (0, 0)) (by (with_reducible repeat (first | refine blk_drewN ?_ _ | refine blk_drew ?_ | refine blk_alloc ?_ _)); exact BK124.out) hb); have n1_ := Aside0.mk (below_step (by repeat (first | (with_reducible first | exact HB.out | apply below_alloc | apply pw_below_drewN | apply below_drew1 | refine below_set ?_ GE124.out) | exact HB.out)) hb); clear BK124; clear HB; have BK124 := n0_; have HB := n1_; clear n0_ n1_; (try clear hb); (try clear hb2); (try clear hk); (try clear hi); have hcz10_0 : w9.cell? ⟨gb124, 0, none⟩ = some (.int .u32 a0_0) := (blk_cell BK124.out 0).trans rfl; have hcz10_1 : w9.cell? ⟨gb124, 1, none⟩ = some (.int .i64 a0_1) := (blk_cell BK124.out 1).trans rfl; have hcz10_2 : w9.cell? ⟨gb124, 2, none⟩ = some (.slice A0_2 l0_2.length c0_2) := (blk_cell BK124.out 2).trans rfl; have hcz10_3 : w9.cell? ⟨gb124, 3, none⟩ = some (.int .i64 a0_3) := (blk_cell BK124.out 3).trans rfl; have hcz10_4 : w9.cell? ⟨gb124, 4, none⟩ = some (.int .i64 a0_4) := (blk_cell BK124.out 4).trans rfl; have hcz10_5 : w9.cell? ⟨gb124, 5, none⟩ = some (.int .i64 a0_5) := (blk_cell BK124.out 5).trans rfl; have hcz10_6 : w9.cell? ⟨gb124, 6, none⟩ = some (.int .i64 a0_6) := (blk_cell BK124.out 6).trans rfl; have hfz10_0 := blk_frozen BK124.out 0; have hfz10_1 := blk_frozen BK124.out 1; have hfz10_2 := blk_frozen BK124.out 2; have hfz10_3 := blk_frozen BK124.out 3; have hfz10_4 := blk_frozen BK124.out 4; have hfz10_5 := blk_frozen BK124.out 5; have hfz10_6 := blk_frozen BK124.out 6) | ((with_reducible refine gate_callee (f := 33) rfl ?_); refine goesL_ (some 22) rfl rfl Try.func33 (by kernel_rfl) rfl #[.agg #[.int .u32 a0_0, .int .i64 a0_1, .slice A0_2 l0_2.length c0_2, .int .i64 a0_3, .int .i64 a0_4, .int .i64 a0_5, .int .i64 a0_6], .int .i64 t125] rfl (by (try simp only [List.map_toArray, List.map_cons, List.map_nil]); first | done | rfl | (simp only [List.length_drop, List.length_take]; rfl)) ?_; (with_reducible refine (block_Held.calls k a0_0 a0_1 _ _ l0_2 a0_3 a0_4 a0_5 a0_6 t125 true _ ?side1 ?side2 A5.out).mono ?_); (case side1 => repeat (first | exact (Kd.C_below HR0_2.out HB.out) | (with_reducible refine Kd.C_alloc ?_ _) | (with_reducible refine Kd.C_drewN ?_ _) | (with_reducible refine Kd.C_drew ?_))); (case side2 => exact HC0_2.out); rintro e w11 ⟨rfl, hb⟩; refine ⟨_, rfl, ?_⟩; have n0_ := Aside0.mk (blk_below (g := gb124) (o := .cells #[.int .u32 a0_0, .int .i64 a0_1, .slice A0_2 l0_2.length c0_2, .int .i64 a0_3, .int .i64 a0_4, .int .i64 a0_5, .int .i64 a0_6] 27 (0, 0)) (by (with_reducible repeat (first | refine blk_drewN ?_ _ | refine blk_drew ?_ | refine blk_alloc ?_ _)); exact BK124.out) hb); have n1_ := Aside0.mk (below_step (by repeat (first | (with_reducible first | exact HB.out | apply below_alloc | apply pw_below_drewN | apply below_drew1 | refine below_set ?_ GE124.out) | exact HB.out)) hb); clear BK124; clear HB; have BK124 := n0_; have HB := n1_; clear n0_ n1_; (try clear hb); (try clear hb2); (try clear hk); (try clear hi)))
      go_ret2
      exact ⟨by first | rfl | (simp [errW_none, errW_some] <;> rfl) | (simp [*, errW_none, errW_some] <;> rfl), by repeat (first | (with_reducible first | exact HB.out | apply below_alloc | apply pw_below_drewN | apply below_drew1 | refine below_set ?_ GE124.out) | exact HB.out)⟩
    · replace c6 := Bool.eq_false_iff.mpr c6
      subst c6
      have H1 : (some (t125, 0)) = some (r1, r2) := by rw [if_neg (show ¬ (false = true) by decide)] at H; exact H
      clear H
      have H := H1
      clear H1
      simp only [Option.some.injEq, Prod.mk.injEq] at H
      obtain ⟨rfl, rfl⟩ := H
      go_enter Try.func29, Try.ntmps29
      go_wp2_with (first | ((with_reducible refine gate_dst (N := 2) rfl ?_); refine box_event ?hg (N := 2) ?hd (cs := #[.int .u32 a0_0, .int .i64 a0_1, .slice A0_2 l0_2.length c0_2, .int .i64 a0_3, .int .i64 a0_4, .int .i64 a0_5, .int .i64 a0_6]) (t := 27) ?hr ?_; (case hd => rfl); (case hg => rfl); (case hr => first | (go_simp; done) | (go_simp; rfl)); intro gb124 hg w12 hbox hb; have n0_ := Aside0.mk (below_step (by repeat (first | (with_reducible first | exact HB.out | apply below_alloc | apply pw_below_drewN | apply below_drew1) | exact HB.out)) hb); have n1_ := Aside0.mk (hbox); have n2_ := Aside0.mk ((by rw [hg]; exact (below_size (by repeat (first | (with_reducible first | exact HB.out | apply below_alloc | apply pw_below_drewN | apply below_drew1) | exact HB.out))) : w.heap.size ≤ gb124)); have n3_ := Aside0.mk ((by rw [hg]; exact (below_size (by repeat (first | (with_reducible first | exact HB.out | apply below_alloc | apply pw_below_drewN | apply below_drew1) | exact HB.out))) : w.heap.size ≤ gb124)); clear HB; have HB := n0_; have BK124 := n1_; have GW124 := n2_; have GE124 := n3_; clear n0_ n1_ n2_ n3_; clear hb hbox hg; have hcz13_0 : w12.cell? ⟨gb124, 0, none⟩ = some (.int .u32 a0_0) := (blk_cell BK124.out 0).trans rfl; have hcz13_1 : w12.cell? ⟨gb124, 1, none⟩ = some (.int .i64 a0_1) := (blk_cell BK124.out 1).trans rfl; have hcz13_2 : w12.cell? ⟨gb124, 2, none⟩ = some (.slice A0_2 l0_2.length c0_2) := (blk_cell BK124.out 2).trans rfl; have hcz13_3 : w12.cell? ⟨gb124, 3, none⟩ = some (.int .i64 a0_3) := (blk_cell BK124.out 3).trans rfl; have hcz13_4 : w12.cell? ⟨gb124, 4, none⟩ = some (.int .i64 a0_4) := (blk_cell BK124.out 4).trans rfl; have hcz13_5 : w12.cell? ⟨gb124, 5, none⟩ = some (.int .i64 a0_5) := (blk_cell BK124.out 5).trans rfl; have hcz13_6 : w12.cell? ⟨gb124, 6, none⟩ = some (.int .i64 a0_6) := (blk_cell BK124.out 6).trans rfl; have hfz13_0 := blk_frozen BK124.out 0; have hfz13_1 := blk_frozen BK124.out 1; have hfz13_2 := blk_frozen BK124.out 2; have hfz13_3 := blk_frozen BK124.out 3; have hfz13_4 := blk_frozen BK124.out 4; have hfz13_5 := blk_frozen BK124.out 5; have hfz13_6 := blk_frozen BK124.out 6) | ((with_reducible refine gate_callee (f := 27) rfl ?_); refine goesL_ (some 12) rfl rfl Try.func27 (by kernel_rfl) rfl #[.agg #[.int .u32 a0_0, .int .i64 a0_1], .int .u32 a1] rfl (by (try simp only [List.map_toArray, List.map_cons, List.map_nil]); first | done | rfl | (simp only [List.length_drop, List.length_take]; rfl)) ?_; (with_reducible refine (block_Offset.calls a0_0 a0_1 a1 t125 t126 _ A3.out).mono ?_); rintro e w14 ⟨rfl, hb⟩; refine ⟨_, rfl, ?_⟩; have n0_ := Aside0.mk (blk_below (g := gb124) (o := .cells #[.int .u32 a0_0, .int .i64 a0_1, .slice A0_2 l0_2.length c0_2, .int .i64 a0_3, .int .i64 a0_4, .int .i64 a0_5, .int .i64 a0_6] 27 (0, 0)) (by (with_reducible repeat (first | refine blk_drewN ?_ _ | refine blk_drew ?_ | refine blk_alloc ?_ _)); exact BK124.out) hb); have n1_ := Aside0.mk (below_step (by repeat (first | (with_reducible first | exact HB.out | apply below_alloc | apply pw_below_drewN | apply below_drew1 | refine below_set ?_ GE124.out) | exact HB.out)) hb); clear BK124; clear HB; have BK124 := n0_; have HB := n1_; clear n0_ n1_; (try clear hb); (try clear hb2); (try clear hk); (try clear hi); have hcz15_0 : w14.cell? ⟨gb124, 0, none⟩ = some (.int .u32 a0_0) := (blk_cell BK124.out 0).trans rfl; have hcz15_1 : w14.cell? ⟨gb124, 1, none⟩ = some (.int .i64 a0_1) := (blk_cell BK124.out 1).trans rfl; have hcz15_2 : w14.cell? ⟨gb124, 2, none⟩ = some (.slice A0_2 l0_2.length c0_2) := (blk_cell BK124.out 2).trans rfl; have hcz15_3 : w14.cell? ⟨gb124, 3, none⟩ = some (.int .i64 a0_3) := (blk_cell BK124.out 3).trans rfl; have hcz15_4 : w14.cell? ⟨gb124, 4, none⟩ = some (.int .i64 a0_4) := (blk_cell BK124.out 4).trans rfl; have hcz15_5 : w14.cell? ⟨gb124, 5, none⟩ = some (.int .i64 a0_5) := (blk_cell BK124.out 5).trans rfl; have hcz15_6 : w14.cell? ⟨gb124, 6, none⟩ = some (.int .i64 a0_6) := (blk_cell BK124.out 6).trans rfl; have hfz15_0 := blk_frozen BK124.out 0; have hfz15_1 := blk_frozen BK124.out 1; have hfz15_2 := blk_frozen BK124.out 2; have hfz15_3 := blk_frozen BK124.out 3; have hfz15_4 := blk_frozen BK124.out 4; have hfz15_5 := blk_frozen BK124.out 5; have hfz15_6 := blk_frozen BK124.out 6) | ((with_reducible refine gate_callee (f := 33) rfl ?_); refine goesL_ (some 22) rfl rfl Try.func33 (by kernel_rfl) rfl #[.agg #[.int .u32 a0_0, .int .i64 a0_1, .slice A0_2 l0_2.length c0_2, .int .i64 a0_3, .int .i64 a0_4, .int .i64 a0_5, .int .i64 a0_6], .int .i64 t125] rfl (by (try simp only [List.map_toArray, List.map_cons, List.map_nil]); first | done | rfl | (simp only [List.length_drop, List.length_take]; rfl)) ?_; (with_reducible refine (block_Held.calls k a0_0 a0_1 _ _ l0_2 a0_3 a0_4 a0_5 a0_6 t125 false _ ?side1 ?side2 A5.out).mono ?_); (case side1 => repeat (first | exact (Kd.C_below HR0_2.out HB.out) | (with_reducible refine Kd.C_alloc ?_ _) | (with_reducible refine Kd.C_drewN ?_ _) | (with_reducible refine Kd.C_drew ?_))); (case side2 => exact HC0_2.out); rintro e w16 ⟨rfl, hb⟩; refine ⟨_, rfl, ?_⟩; have n0_ := Aside0.mk (blk_below (g := gb124) (o := .cells #[.int .u32 a0_0, .int .i64 a0_1, .slice A0_2 l0_2.length c0_2, .int .i64 a0_3, .int .i64 a0_4, .int .i64 a0_5, .int .i64 a0_6] 27 (0, 0)) (by (with_reducible repeat (first | refine blk_drewN ?_ _ | refine blk_drew ?_ | refine blk_alloc ?_ _)); exact BK124.out) hb); have n1_ := Aside0.mk (below_step (by repeat (first | (with_reducible first | exact HB.out | apply below_alloc | apply pw_below_drewN | apply below_drew1 | refine below_set ?_ GE124.out) | exact HB.out)) hb); clear BK124; clear HB; have BK124 := n0_; have HB := n1_; clear n0_ n1_; (try clear hb); (try clear hb2); (try clear hk); (try clear hi)))
      go_ret2
      exact ⟨by first | rfl | (simp [errW_none, errW_some] <;> rfl) | (simp [*, errW_none, errW_some] <;> rfl), by repeat (first | (with_reducible first | exact HB.out | apply below_alloc | apply pw_below_drewN | apply below_drew1 | refine below_set ?_ GE124.out) | exact HB.out)⟩
  · rw [if_neg c4] at H
    have c4b0 : (t126 == 0) = false := beq_eq_false_iff_ne.mpr c4
    have c4b1 : (t126 != 0) = true := bne_iff_ne.mpr c4
    simp only [Option.some.injEq, Prod.mk.injEq] at H
    obtain ⟨rfl, rfl⟩ := H
    go_enter Try.func29, Try.ntmps29
    go_wp2_with (first | ((with_reducible refine gate_dst (N := 2) rfl ?_); refine box_event ?hg (N := 2) ?hd (cs := #[.int .u32 a0_0, .int .i64 a0_1, .slice A0_2 l0_2.length c0_2, .int .i64 a0_3, .int .i64 a0_4, .int .i64 a0_5, .int .i64 a0_6]) (t := 27) ?hr ?_; (case hd => rfl); (case hg => rfl); (case hr => first | (go_simp; done) | (go_simp; rfl)); intro gb124 hg w17 hbox hb; have n0_ := Aside0.mk (below_step (by repeat (first | (with_reducible first | exact HB.out | apply below_alloc | apply pw_below_drewN | apply below_drew1) | exact HB.out)) hb); have n1_ := Aside0.mk (hbox); have n2_ := Aside0.mk ((by rw [hg]; exact (below_size (by repeat (first | (with_reducible first | exact HB.out | apply below_alloc | apply pw_below_drewN | apply below_drew1) | exact HB.out))) : w.heap.size ≤ gb124)); have n3_ := Aside0.mk ((by rw [hg]; exact (below_size (by repeat (first | (with_reducible first | exact HB.out | apply below_alloc | apply pw_below_drewN | apply below_drew1) | exact HB.out))) : w.heap.size ≤ gb124)); clear HB; have HB := n0_; have BK124 := n1_; have GW124 := n2_; have GE124 := n3_; clear n0_ n1_ n2_ n3_; clear hb hbox hg; have hcz18_0 : w17.cell? ⟨gb124, 0, none⟩ = some (.int .u32 a0_0) := (blk_cell BK124.out 0).trans rfl; have hcz18_1 : w17.cell? ⟨gb124, 1, none⟩ = some (.int .i64 a0_1) := (blk_cell BK124.out 1).trans rfl; have hcz18_2 : w17.cell? ⟨gb124, 2, none⟩ = some (.slice A0_2 l0_2.length c0_2) := (blk_cell BK124.out 2).trans rfl; have hcz18_3 : w17.cell? ⟨gb124, 3, none⟩ = some (.int .i64 a0_3) := (blk_cell BK124.out 3).trans rfl; have hcz18_4 : w17.cell? ⟨gb124, 4, none⟩ = some (.int .i64 a0_4) := (blk_cell BK124.out 4).trans rfl; have hcz18_5 : w17.cell? ⟨gb124, 5, none⟩ = some (.int .i64 a0_5) := (blk_cell BK124.out 5).trans rfl; have hcz18_6 : w17.cell? ⟨gb124, 6, none⟩ = some (.int .i64 a0_6) := (blk_cell BK124.out 6).trans rfl; have hfz18_0 := blk_frozen BK124.out 0; have hfz18_1 := blk_frozen BK124.out 1; have hfz18_2 := blk_frozen BK124.out 2; have hfz18_3 := blk_frozen BK124.out 3; have hfz18_4 := blk_frozen BK124.out 4; have hfz18_5 := blk_frozen BK124.out 5; have hfz18_6 := blk_frozen BK124.out 6) | ((with_reducible refine gate_callee (f := 27) rfl ?_); refine goesL_ (some 12) rfl rfl Try.func27 (by kernel_rfl) rfl #[.agg #[.int .u32 a0_0, .int .i64 a0_1], .int .u32 a1] rfl (by (try simp only [List.map_toArray, List.map_cons, List.map_nil]); first | done | rfl | (simp only [List.length_drop, List.length_take]; rfl)) ?_; (with_reducible refine (block_Offset.calls a0_0 a0_1 a1 t125 t126 _ A3.out).mono ?_); rintro e w19 ⟨rfl, hb⟩; refine ⟨_, rfl, ?_⟩; have n0_ := Aside0.mk (blk_below (g := gb124) (o := .cells #[.int .u32 a0_0, .int .i64 a0_1, .slice A0_2 l0_2.length c0_2, .int .i64 a0_3, .int .i64 a0_4, .int .i64 a0_5, .int .i64 a0_6] 27 (0, 0)) (by (with_reducible repeat (first | refine blk_drewN ?_ _ | refine blk_drew ?_ | refine blk_alloc ?_ _)); exact BK124.out) hb); have n1_ := Aside0.mk (below_step (by repeat (first | (with_reducible first | exact HB.out | apply below_alloc | apply pw_below_drewN | apply below_drew1 | refine below_set ?_ GE124.out) | exact HB.out)) hb); clear BK124; clear HB; have BK124 := n0_; have HB := n1_; clear n0_ n1_; (try clear hb); (try clear hb2); (try clear hk); (try clear hi)))
    go_ret2
    exact ⟨by first | rfl | (simp [errW_none, errW_some] <;> rfl) | (simp [*, errW_none, errW_some] <;> rfl), by repeat (first | (with_reducible first | exact HB.out | apply below_alloc | apply pw_below_drewN | apply below_drew1 | refine below_set ?_ GE124.out) | exact HB.out)⟩

/-! ### block_Usable: function 35 -/
def block_Usable.f (a0_0 : Int) (a0_1 : Int) (l0_2 : List Int) (a0_3 : Int) (a0_4 : Int) (a0_5 : Int) (a0_6 : Int) : Option (Int) := (block_Many.f a0_0 a0_1).bind fun t129 => (some (wrap64 (t129 - (l0_2.length : Int))))
def block_Usable.T1 : Bool × List (List Nat × List Nat) := (true, [([], []), ([0], [0]), ([1], [1]), ([], []), ([3], [3]), ([4], [4]), ([2, 5], [2, 5]), ([6, 2, 0, 1, 2, 3, 4, 5, 6], [6])])
def block_Usable.B1 : List Nat := [0, 1, 3, 0, 8, 24, 63, 127]
theorem block_Usable.tab1 : rtab .any (opsOf Try.f35 1) = block_Usable.T1 := by kernel_rfl
theorem block_Usable.bits1 : waitsOk block_Usable.T1.2 block_Usable.B1 = true := by kernel_rfl
set_option maxHeartbeats 8000000 in
set_option maxRecDepth 100000 in
theorem block_Usable.calls (a0_0 : Int) (a0_1 : Int) (A0_2 : Option Addr) (c0_2 : Nat) (l0_2 : List Int) (a0_3 : Int) (a0_4 : Int) (a0_5 : Int) (a0_6 : Int) (r : Int) (w : World) (hr0_2 : Kd.C (Kd.int .i64) w A0_2 l0_2.length l0_2) (hc0_2 : l0_2.length ≤ c0_2) (h : block_Usable.f a0_0 a0_1 l0_2 a0_3 a0_4 a0_5 a0_6 = some r) :
    Calls Try.prog 35 #[.agg #[.int .u32 a0_0, .int .i64 a0_1, .slice A0_2 l0_2.length c0_2, .int .i64 a0_3, .int .i64 a0_4, .int .i64 a0_5, .int .i64 a0_6]] w fun e w' => e = .returned (.int .i64 r) ∧ Below w.heap.size w w' := by
  have hu27 := Try.underlying27
  have hu24 := Try.underlying24
  have HR0_2 := Aside0.mk hr0_2
  have HC0_2 := Aside0.mk hc0_2
  clear hr0_2 hc0_2
  have HB := Aside0.mk (Below.refl w.heap.size w)
  have H : ((block_Many.f a0_0 a0_1).bind fun t129 => (some (wrap64 (t129 - (l0_2.length : Int))))) = some r := h
  clear h
  replace H := Option.bind_eq_some_iff.mp H
  obtain ⟨t129, A20, H⟩ := H
  replace H : (some (wrap64 (t129 - (l0_2.length : Int)))) = some r := H
  have A2 := Aside0.mk A20
  clear A20
  obtain rfl := Option.some.inj H
  go_enter Try.func35, Try.ntmps35
  try go_wp2_with (first | ((with_reducible refine gate_dst (N := 1) rfl ?_); refine box_event ?hg (N := 1) ?hd (cs := #[.int .u32 a0_0, .int .i64 a0_1, .slice A0_2 l0_2.length c0_2, .int .i64 a0_3, .int .i64 a0_4, .int .i64 a0_5, .int .i64 a0_6]) (t := 27) ?hr ?_; (case hd => rfl); (case hg => rfl); (case hr => first | (go_simp; done) | (go_simp; rfl)); intro gb128 hg w3 hbox hb; have n0_ := Aside0.mk (below_step (by repeat (first | (with_reducible first | exact HB.out | apply below_alloc | apply pw_below_drewN | apply below_drew1) | exact HB.out)) hb); have n1_ := Aside0.mk (hbox); have n2_ := Aside0.mk ((by rw [hg]; exact (below_size (by repeat (first | (with_reducible first | exact HB.out | apply below_alloc | apply pw_below_drewN | apply below_drew1) | exact HB.out))) : w.heap.size ≤ gb128)); have n3_ := Aside0.mk ((by rw [hg]; exact (below_size (by repeat (first | (with_reducible first | exact HB.out | apply below_alloc | apply pw_below_drewN | apply below_drew1) | exact HB.out))) : w.heap.size ≤ gb128)); clear HB; have HB := n0_; have BK128 := n1_; have GW128 := n2_; have GE128 := n3_; clear n0_ n1_ n2_ n3_; clear hb hbox hg))
  have n0_ := Aside0.mk (blk_drew BK128.out)
  have n1_ := Aside0.mk (below_drew1 HB.out)
  clear BK128
  clear HB
  have BK128 := n0_
  have HB := n1_
  clear n0_ n1_
  refine start_ (n := 8) (S := fun w' => w'.cell? ⟨gb128, 0, none⟩ = some (.int .u32 a0_0) ∧ w'.cell? ⟨gb128, 1, none⟩ = some (.int .i64 a0_1) ∧ w'.cell? ⟨gb128, 2, none⟩ = some (.slice A0_2 l0_2.length c0_2) ∧ w'.cell? ⟨gb128, 3, none⟩ = some (.int .i64 a0_3) ∧ w'.cell? ⟨gb128, 4, none⟩ = some (.int .i64 a0_4) ∧ w'.cell? ⟨gb128, 5, none⟩ = some (.int .i64 a0_5) ∧ w'.cell? ⟨gb128, 6, none⟩ = some (.int .i64 a0_6)) (ds := []) #[false, false, false, false, false, false, false, false] (by kernel_rfl) rfl rfl ⟨(blk_cell BK128.out 0).trans rfl, (blk_cell BK128.out 1).trans rfl, (blk_cell BK128.out 2).trans rfl, (blk_cell BK128.out 3).trans rfl, (blk_cell BK128.out 4).trans rfl, (blk_cell BK128.out 5).trans rfl, (blk_cell BK128.out 6).trans rfl⟩ (fun hHeld => ?_); refine with_tabW block_Usable.tab1 block_Usable.bits1 (fun HT_ HW_ => ?_)
  generalize w3.drew = w4 at BK128 HB hHeld ⊢
  refine pure_ (i := 0) (N := some 3) (v := ?_) (a' := ?_) #[true, false, false, false, false, false, false, false] rfl rfl (any_of HT_.out (by kernel_rfl)) (fun _ _ _ h => h) (Or.inl ⟨by rfl, ?_⟩) ?_ ?_
  rotate_left
  · intro w'
    go_simp
    with_reducible rfl
  rotate_left
  · simp only [Act.put, List.setIfInBounds_toArray, List.set_cons_zero, List.set_cons_succ, i64_w, i32_w]
    rfl
  refine pure_ (i := 3) (N := some 6) (v := ?_) (a' := ?_) #[true, false, false, true, false, false, false, false] rfl rfl (any_of HT_.out (by kernel_rfl)) (fun _ _ _ h => h) (Or.inl ⟨by rfl, ?_⟩) ?_ ?_
  rotate_left
  · intro w'
    go_simp
    with_reducible rfl
  rotate_left
  · simp only [Act.put, List.setIfInBounds_toArray, List.set_cons_zero, List.set_cons_succ, i64_w, i32_w]
    rfl
  refine take_ (i := 1) (N := some 4) (v := ?_) (a' := ?_) #[true, true, false, true, false, false, false, false] rfl rfl (take_ofW HT_.out HW_.out (by kernel_rfl)) (fun _ _ _ h => h) (Or.inl ⟨by rfl, ?_⟩) hHeld ?_ ?_
  rotate_left
  · rintro w' ⟨s0, s1, s2, s3, s4, s5, s6⟩
    go_simp
    with_reducible rfl
  rotate_left
  · simp only [Act.put, List.setIfInBounds_toArray, List.set_cons_zero, List.set_cons_succ, i64_w, i32_w]
    rfl
  refine take_ (i := 4) (N := some 7) (v := ?_) (a' := ?_) #[true, true, false, true, true, false, false, false] rfl rfl (take_ofW HT_.out HW_.out (by kernel_rfl)) (fun _ _ _ h => h) (Or.inl ⟨by rfl, ?_⟩) hHeld ?_ ?_
  rotate_left
  · rintro w' ⟨s0, s1, s2, s3, s4, s5, s6⟩
    go_simp
    with_reducible rfl
  rotate_left
  · simp only [Act.put, List.setIfInBounds_toArray, List.set_cons_zero, List.set_cons_succ, i64_w, i32_w]
    rfl
  refine pure_ (i := 5) (N := some 8) (v := ?_) (a' := ?_) #[true, true, false, true, true, true, false, false] rfl rfl (any_of HT_.out (by kernel_rfl)) (fun _ _ _ h => h) (Or.inl ⟨by rfl, ?_⟩) ?_ ?_
  rotate_left
  · intro w'
    go_simp
    with_reducible rfl
  rotate_left
  · simp only [Act.put, List.setIfInBounds_toArray, List.set_cons_zero, List.set_cons_succ, i64_w, i32_w]
    rfl
  refine one_ (i := 2) (N := some 5) #[true, true, true, true, true, true, false, false] rfl rfl (one_of HT_.out (by kernel_rfl)) (by decide) (fun K hK => ?_)
  refine goes_ Try.func31 (by kernel_rfl) rfl #[.agg #[.int .u32 a0_0, .int .i64 a0_1]] (by rfl) rfl rfl (by (try simp only [List.map_toArray, List.map_cons, List.map_nil]); first | done | rfl | (simp only [List.length_drop, List.length_take]; rfl)) ?_
  with_reducible refine (block_Many.calls a0_0 a0_1 t129 _ A2.out).mono ?_
  rintro e w5 ⟨rfl, hb⟩
  refine ⟨_, rfl, ?_⟩
  have n0_ := Aside0.mk (blk_below (g := gb128) (o := .cells #[.int .u32 a0_0, .int .i64 a0_1, .slice A0_2 l0_2.length c0_2, .int .i64 a0_3, .int .i64 a0_4, .int .i64 a0_5, .int .i64 a0_6] 27 (0, 0)) (by (with_reducible repeat (first | refine blk_drewN ?_ _ | refine blk_drew ?_ | refine blk_alloc ?_ _)); exact BK128.out) hb)
  have n1_ := Aside0.mk (below_step (by repeat (first | (with_reducible first | exact HB.out | apply below_alloc | apply pw_below_drewN | apply below_drew1 | refine below_set ?_ GE128.out) | exact HB.out)) hb)
  clear BK128
  clear HB
  have BK128 := n0_
  have HB := n1_
  clear n0_ n1_
  (try clear hb)
  (try clear hb2)
  (try clear hk)
  (try clear hi)
  refine hK.out _ _ ⟨(blk_cell BK128.out 0).trans rfl, (blk_cell BK128.out 1).trans rfl, (blk_cell BK128.out 2).trans rfl, (blk_cell BK128.out 3).trans rfl, (blk_cell BK128.out 4).trans rfl, (blk_cell BK128.out 5).trans rfl, (blk_cell BK128.out 6).trans rfl⟩ (fun hHeld => ?_)
  clear hK K
  refine norm_ (a' := ?_) ?_ ?_
  rotate_left
  · show Act.put _ (some 5) _ = _
    simp only [Act.put, List.setIfInBounds_toArray, List.set_cons_zero, List.set_cons_succ, i64_w, i32_w]
    rfl
  refine pure_ (i := 6) (N := some 9) (v := ?_) (a' := ?_) #[true, true, true, true, true, true, true, false] rfl rfl (any_of HT_.out (by kernel_rfl)) (fun _ _ _ h => h) (Or.inl ⟨by rfl, ?_⟩) ?_ ?_
  rotate_left
  · intro w'
    go_simp
    with_reducible rfl
  rotate_left
  · simp only [Act.put, List.setIfInBounds_toArray, List.set_cons_zero, List.set_cons_succ, i64_w, i32_w]
    rfl
  refine pure_ (i := 7) (N := some 2) (v := ?_) (a' := ?_) #[true, true, true, true, true, true, true, true] rfl rfl (any_of HT_.out (by kernel_rfl)) (fun _ _ _ h => h) (Or.inl ⟨by rfl, ?_⟩) ?_ ?_
  rotate_left
  · intro w'
    go_simp
    with_reducible rfl
  rotate_left
  · simp only [Act.put, List.setIfInBounds_toArray, List.set_cons_zero, List.set_cons_succ, i64_w, i32_w]
    rfl
  refine done_ (done_of HT_.out (by kernel_rfl)) ?_
  try go_wp2
  go_ret
  exact ⟨by first | rfl | (simp [errW_none, errW_some] <;> rfl) | (simp [*, errW_none, errW_some] <;> rfl), by repeat (first | (with_reducible first | exact HB.out | apply below_alloc | apply pw_below_drewN | apply below_drew1 | refine below_set ?_ GE128.out) | exact HB.out)⟩

/-! ### block_Address: function 36 -/
def block_Address.f (a0_0 : Int) (a0_1 : Int) (a1 : Int) : Option (Int) := some ((a0_0 + (a1)) % 4294967296)
set_option maxHeartbeats 8000000 in
set_option maxRecDepth 100000 in
theorem block_Address.calls (a0_0 : Int) (a0_1 : Int) (a1 : Int) (r : Int) (w : World) (h : block_Address.f a0_0 a0_1 a1 = some r) :
    Calls Try.prog 36 #[.agg #[.int .u32 a0_0, .int .i64 a0_1], .int .i64 a1] w fun e w' => e = .returned (.int .u32 r) ∧ Below w.heap.size w w' := by
  have hu24 := Try.underlying24
  have HB := Aside0.mk (Below.refl w.heap.size w)
  have H : (some ((a0_0 + (a1)) % 4294967296)) = some r := h
  clear h
  obtain rfl := Option.some.inj H
  go_enter Try.func36, Try.ntmps36
  go_wp2_with (first | ((with_reducible refine gate_dst (N := 2) rfl ?_); refine box_event ?hg (N := 2) ?hd (cs := #[.int .u32 a0_0, .int .i64 a0_1]) (t := 24) ?hr ?_; (case hd => rfl); (case hg => rfl); (case hr => first | (go_simp; done) | (go_simp; rfl)); intro gb130 hg w3 hbox hb; have n0_ := Aside0.mk (below_step (by repeat (first | (with_reducible first | exact HB.out | apply below_alloc | apply pw_below_drewN | apply below_drew1) | exact HB.out)) hb); have n1_ := Aside0.mk (hbox); have n2_ := Aside0.mk ((by rw [hg]; exact (below_size (by repeat (first | (with_reducible first | exact HB.out | apply below_alloc | apply pw_below_drewN | apply below_drew1) | exact HB.out))) : w.heap.size ≤ gb130)); have n3_ := Aside0.mk ((by rw [hg]; exact (below_size (by repeat (first | (with_reducible first | exact HB.out | apply below_alloc | apply pw_below_drewN | apply below_drew1) | exact HB.out))) : w.heap.size ≤ gb130)); clear HB; have HB := n0_; have BK130 := n1_; have GW130 := n2_; have GE130 := n3_; clear n0_ n1_ n2_ n3_; clear hb hbox hg; have hcz4_0 : w3.cell? ⟨gb130, 0, none⟩ = some (.int .u32 a0_0) := (blk_cell BK130.out 0).trans rfl; have hcz4_1 : w3.cell? ⟨gb130, 1, none⟩ = some (.int .i64 a0_1) := (blk_cell BK130.out 1).trans rfl; have hfz4_0 := blk_frozen BK130.out 0; have hfz4_1 := blk_frozen BK130.out 1))
  go_ret
  exact ⟨by first | rfl | (simp [errW_none, errW_some] <;> rfl) | (simp [*, errW_none, errW_some] <;> rfl), by repeat (first | (with_reducible first | exact HB.out | apply below_alloc | apply pw_below_drewN | apply below_drew1 | refine below_set ?_ GE130.out) | exact HB.out)⟩

/-! ### lodgerlaw05_awake: function 24 -/
def lodgerlaw05_awake.f (k : Nat)  : Option (Bool) := (some (([0, 3] : List Int) : List Int)).bind fun y132 => ((block_Offset.f 167772164 30 167772167).bind fun bt136 => ((block_Offset.f 167772164 30 167772168).bind fun bt138 => ((block_Find.f k 167772164 30 y132 1 1 1 1 167772167).bind fun bt140 => ((block_Find.f k 167772164 30 y132 1 1 1 1 167772165).bind fun bt142 => (if bt136.1 = 3 then (if bt136.2 = 0 then (if bt138.2 = 3 then (if bt140.2 = 4 then (if bt142.1 = 1 then (if bt142.2 = 0 then ((block_Many.f 167772164 30).bind fun t144 => (if t144 = 4 then ((block_Usable.f 167772164 30 y132 1 1 1 1).bind fun t145 => (if t145 = 2 then ((block_Held.f k 167772164 30 y132 1 1 1 1 3).bind fun t146 => (if t146 = true then ((block_Held.f k 167772164 30 y132 1 1 1 1 1).bind fun t147 => (if t147 = true then (some false) else ((block_Address.f 167772164 30 3).bind fun t148 => (if t148 = 167772167 then ((block_May.f k 167772164 30 y132 1 1 1 1).bind fun t149 => (if t149 = true then ((block_May.f k 0 0 ([] : List Int) 0 0 0 0).bind fun t150 => (some (!t150))) else (some false))) else (some false))))) else (some false))) else (some false))) else (some false))) else (some false)) else (some false)) else (some false)) else (some false)) else (some false)) else (some false))))))
theorem lodgerlaw05_awake.mono : ∀ k, LeO (lodgerlaw05_awake.f k ) (lodgerlaw05_awake.f (k + 1) ) := by
  intro  k
  unfold lodgerlaw05_awake.f
  repeat' first
      | (with_reducible exact block_Find.mono _ _ _ _ _ _ _ _ _)
      | (with_reducible exact block_Held.mono _ _ _ _ _ _ _ _ _)
      | (with_reducible exact block_May.mono _ _ _ _ _ _ _ _)
      | (with_reducible exact LeO.refl _)
      | (with_reducible exact LeO.none _)
      | (with_reducible refine LeO.ite ?_ ?_)
      | (with_reducible refine LeO.bind ?_ (fun _ => ?_))
      | exact block_Find.mono _ _ _ _ _ _ _ _ _
      | exact block_Held.mono _ _ _ _ _ _ _ _ _
      | exact block_May.mono _ _ _ _ _ _ _ _
      | exact LeO.none _
      | refine LeO.ite ?_ ?_
      | refine LeO.bind ?_ (fun _ => ?_)
set_option maxHeartbeats 8000000 in
set_option maxRecDepth 100000 in
theorem lodgerlaw05_awake.only {k : Nat} {r : Bool} (h : lodgerlaw05_awake.f k = some r) : r = true := by
  have e : lodgerlaw05_awake.f 500 = some true := by decide +kernel
  have h1 := at_rounds lodgerlaw05_awake.mono (Nat.le_max_left k 500) h
  rw [at_rounds lodgerlaw05_awake.mono (Nat.le_max_right k 500) e] at h1
  exact (Option.some.inj h1).symm
theorem lodgerlaw05_awake.calls (k : Nat)  (r : Bool) (w : World) (h : lodgerlaw05_awake.f k  = some r) :
    Calls Try.prog 24 #[] w fun e w' => e = .returned (.bool r) ∧ Below w.heap.size w w' := by
  have hu24 := Try.underlying24
  have hu27 := Try.underlying27
  have HB := Aside0.mk (Below.refl w.heap.size w)
  have hr_ := Aside0.mk (lodgerlaw05_awake.only h)
  have H : ((some (([0, 3] : List Int) : List Int)).bind fun y132 => ((block_Offset.f 167772164 30 167772167).bind fun bt136 => ((block_Offset.f 167772164 30 167772168).bind fun bt138 => ((block_Find.f k 167772164 30 y132 1 1 1 1 167772167).bind fun bt140 => ((block_Find.f k 167772164 30 y132 1 1 1 1 167772165).bind fun bt142 => (if bt136.1 = 3 then (if bt136.2 = 0 then (if bt138.2 = 3 then (if bt140.2 = 4 then (if bt142.1 = 1 then (if bt142.2 = 0 then ((block_Many.f 167772164 30).bind fun t144 => (if t144 = 4 then ((block_Usable.f 167772164 30 y132 1 1 1 1).bind fun t145 => (if t145 = 2 then ((block_Held.f k 167772164 30 y132 1 1 1 1 3).bind fun t146 => (if t146 = true then ((block_Held.f k 167772164 30 y132 1 1 1 1 1).bind fun t147 => (if t147 = true then (some false) else ((block_Address.f 167772164 30 3).bind fun t148 => (if t148 = 167772167 then ((block_May.f k 167772164 30 y132 1 1 1 1).bind fun t149 => (if t149 = true then ((block_May.f k 0 0 ([] : List Int) 0 0 0 0).bind fun t150 => (some (!t150))) else (some false))) else (some false))))) else (some false))) else (some false))) else (some false))) else (some false)) else (some false)) else (some false)) else (some false)) else (some false)) else (some false))))))) = some r := h
  clear h
  obtain ⟨y132, hy132⟩ : ∃ y_ : List Int, y_ = (([0, 3] : List Int)) := ⟨_, rfl⟩
  replace H : ((block_Offset.f 167772164 30 167772167).bind fun bt136 => ((block_Offset.f 167772164 30 167772168).bind fun bt138 => ((block_Find.f k 167772164 30 y132 1 1 1 1 167772167).bind fun bt140 => ((block_Find.f k 167772164 30 y132 1 1 1 1 167772165).bind fun bt142 => (if bt136.1 = 3 then (if bt136.2 = 0 then (if bt138.2 = 3 then (if bt140.2 = 4 then (if bt142.1 = 1 then (if bt142.2 = 0 then ((block_Many.f 167772164 30).bind fun t144 => (if t144 = 4 then ((block_Usable.f 167772164 30 y132 1 1 1 1).bind fun t145 => (if t145 = 2 then ((block_Held.f k 167772164 30 y132 1 1 1 1 3).bind fun t146 => (if t146 = true then ((block_Held.f k 167772164 30 y132 1 1 1 1 1).bind fun t147 => (if t147 = true then (some false) else ((block_Address.f 167772164 30 3).bind fun t148 => (if t148 = 167772167 then ((block_May.f k 167772164 30 y132 1 1 1 1).bind fun t149 => (if t149 = true then ((block_May.f k 0 0 ([] : List Int) 0 0 0 0).bind fun t150 => (some (!t150))) else (some false))) else (some false))))) else (some false))) else (some false))) else (some false))) else (some false)) else (some false)) else (some false)) else (some false)) else (some false)) else (some false)))))) = some r := by first | (rw [hy132]; with_reducible exact H) | (have H2_ := (Option.bind_some _ _).symm.trans H; rw [hy132]; with_reducible exact H2_) | (have H2_ := (Option.bind_some _ _).symm.trans H; with_reducible exact H2_) | with_reducible exact H | (rw [hy132]; exact H) | exact H
  have Ny132 := Aside0.mk hy132
  clear hy132
  replace H := Option.bind_eq_some_iff.mp H
  obtain ⟨⟨t136, t137⟩, A10, H⟩ := H
  replace H : ((block_Offset.f 167772164 30 167772168).bind fun bt138 => ((block_Find.f k 167772164 30 y132 1 1 1 1 167772167).bind fun bt140 => ((block_Find.f k 167772164 30 y132 1 1 1 1 167772165).bind fun bt142 => (if t136 = 3 then (if t137 = 0 then (if bt138.2 = 3 then (if bt140.2 = 4 then (if bt142.1 = 1 then (if bt142.2 = 0 then ((block_Many.f 167772164 30).bind fun t144 => (if t144 = 4 then ((block_Usable.f 167772164 30 y132 1 1 1 1).bind fun t145 => (if t145 = 2 then ((block_Held.f k 167772164 30 y132 1 1 1 1 3).bind fun t146 => (if t146 = true then ((block_Held.f k 167772164 30 y132 1 1 1 1 1).bind fun t147 => (if t147 = true then (some false) else ((block_Address.f 167772164 30 3).bind fun t148 => (if t148 = 167772167 then ((block_May.f k 167772164 30 y132 1 1 1 1).bind fun t149 => (if t149 = true then ((block_May.f k 0 0 ([] : List Int) 0 0 0 0).bind fun t150 => (some (!t150))) else (some false))) else (some false))))) else (some false))) else (some false))) else (some false))) else (some false)) else (some false)) else (some false)) else (some false)) else (some false)) else (some false))))) = some r := H
  have A1 := Aside0.mk A10
  clear A10
  replace H := Option.bind_eq_some_iff.mp H
  obtain ⟨⟨t138, t139⟩, A20, H⟩ := H
  replace H : ((block_Find.f k 167772164 30 y132 1 1 1 1 167772167).bind fun bt140 => ((block_Find.f k 167772164 30 y132 1 1 1 1 167772165).bind fun bt142 => (if t136 = 3 then (if t137 = 0 then (if t139 = 3 then (if bt140.2 = 4 then (if bt142.1 = 1 then (if bt142.2 = 0 then ((block_Many.f 167772164 30).bind fun t144 => (if t144 = 4 then ((block_Usable.f 167772164 30 y132 1 1 1 1).bind fun t145 => (if t145 = 2 then ((block_Held.f k 167772164 30 y132 1 1 1 1 3).bind fun t146 => (if t146 = true then ((block_Held.f k 167772164 30 y132 1 1 1 1 1).bind fun t147 => (if t147 = true then (some false) else ((block_Address.f 167772164 30 3).bind fun t148 => (if t148 = 167772167 then ((block_May.f k 167772164 30 y132 1 1 1 1).bind fun t149 => (if t149 = true then ((block_May.f k 0 0 ([] : List Int) 0 0 0 0).bind fun t150 => (some (!t150))) else (some false))) else (some false))))) else (some false))) else (some false))) else (some false))) else (some false)) else (some false)) else (some false)) else (some false)) else (some false)) else (some false)))) = some r := H
  have A2 := Aside0.mk A20
  clear A20
  replace H := Option.bind_eq_some_iff.mp H
  obtain ⟨⟨t140, t141⟩, A30, H⟩ := H
  replace H : ((block_Find.f k 167772164 30 y132 1 1 1 1 167772165).bind fun bt142 => (if t136 = 3 then (if t137 = 0 then (if t139 = 3 then (if t141 = 4 then (if bt142.1 = 1 then (if bt142.2 = 0 then ((block_Many.f 167772164 30).bind fun t144 => (if t144 = 4 then ((block_Usable.f 167772164 30 y132 1 1 1 1).bind fun t145 => (if t145 = 2 then ((block_Held.f k 167772164 30 y132 1 1 1 1 3).bind fun t146 => (if t146 = true then ((block_Held.f k 167772164 30 y132 1 1 1 1 1).bind fun t147 => (if t147 = true then (some false) else ((block_Address.f 167772164 30 3).bind fun t148 => (if t148 = 167772167 then ((block_May.f k 167772164 30 y132 1 1 1 1).bind fun t149 => (if t149 = true then ((block_May.f k 0 0 ([] : List Int) 0 0 0 0).bind fun t150 => (some (!t150))) else (some false))) else (some false))))) else (some false))) else (some false))) else (some false))) else (some false)) else (some false)) else (some false)) else (some false)) else (some false)) else (some false))) = some r := H
  have A3 := Aside0.mk A30
  clear A30
  replace H := Option.bind_eq_some_iff.mp H
  obtain ⟨⟨t142, t143⟩, A40, H⟩ := H
  replace H : (if t136 = 3 then (if t137 = 0 then (if t139 = 3 then (if t141 = 4 then (if t142 = 1 then (if t143 = 0 then ((block_Many.f 167772164 30).bind fun t144 => (if t144 = 4 then ((block_Usable.f 167772164 30 y132 1 1 1 1).bind fun t145 => (if t145 = 2 then ((block_Held.f k 167772164 30 y132 1 1 1 1 3).bind fun t146 => (if t146 = true then ((block_Held.f k 167772164 30 y132 1 1 1 1 1).bind fun t147 => (if t147 = true then (some false) else ((block_Address.f 167772164 30 3).bind fun t148 => (if t148 = 167772167 then ((block_May.f k 167772164 30 y132 1 1 1 1).bind fun t149 => (if t149 = true then ((block_May.f k 0 0 ([] : List Int) 0 0 0 0).bind fun t150 => (some (!t150))) else (some false))) else (some false))))) else (some false))) else (some false))) else (some false))) else (some false)) else (some false)) else (some false)) else (some false)) else (some false)) else (some false)) = some r := H
  have A4 := Aside0.mk A40
  clear A40
  by_cases c5 : t136 = 3
  · rw [if_pos c5] at H
    have c5b0 : (t136 == 3) = true := beq_iff_eq.mpr c5
    have c5b1 : (t136 != 3) = false := bne_eq_false_iff_eq.mpr c5
    clear c5
    by_cases c6 : t137 = 0
    · rw [if_pos c6] at H
      have c6b0 : (t137 == 0) = true := beq_iff_eq.mpr c6
      have c6b1 : (t137 != 0) = false := bne_eq_false_iff_eq.mpr c6
      clear c6
      by_cases c7 : t139 = 3
      · rw [if_pos c7] at H
        have c7b0 : (t139 == 3) = true := beq_iff_eq.mpr c7
        have c7b1 : (t139 != 3) = false := bne_eq_false_iff_eq.mpr c7
        clear c7
        by_cases c8 : t141 = 4
        · rw [if_pos c8] at H
          have c8b0 : (t141 == 4) = true := beq_iff_eq.mpr c8
          have c8b1 : (t141 != 4) = false := bne_eq_false_iff_eq.mpr c8
          clear c8
          by_cases c9 : t142 = 1
          · rw [if_pos c9] at H
            have c9b0 : (t142 == 1) = true := beq_iff_eq.mpr c9
            have c9b1 : (t142 != 1) = false := bne_eq_false_iff_eq.mpr c9
            clear c9
            by_cases c10 : t143 = 0
            · rw [if_pos c10] at H
              have c10b0 : (t143 == 0) = true := beq_iff_eq.mpr c10
              have c10b1 : (t143 != 0) = false := bne_eq_false_iff_eq.mpr c10
              clear c10
              replace H := Option.bind_eq_some_iff.mp H
              obtain ⟨t144, A110, H⟩ := H
              replace H : (if t144 = 4 then ((block_Usable.f 167772164 30 y132 1 1 1 1).bind fun t145 => (if t145 = 2 then ((block_Held.f k 167772164 30 y132 1 1 1 1 3).bind fun t146 => (if t146 = true then ((block_Held.f k 167772164 30 y132 1 1 1 1 1).bind fun t147 => (if t147 = true then (some false) else ((block_Address.f 167772164 30 3).bind fun t148 => (if t148 = 167772167 then ((block_May.f k 167772164 30 y132 1 1 1 1).bind fun t149 => (if t149 = true then ((block_May.f k 0 0 ([] : List Int) 0 0 0 0).bind fun t150 => (some (!t150))) else (some false))) else (some false))))) else (some false))) else (some false))) else (some false)) = some r := H
              have A11 := Aside0.mk A110
              clear A110
              by_cases c12 : t144 = 4
              · rw [if_pos c12] at H
                have c12b0 : (t144 == 4) = true := beq_iff_eq.mpr c12
                have c12b1 : (t144 != 4) = false := bne_eq_false_iff_eq.mpr c12
                clear c12
                replace H := Option.bind_eq_some_iff.mp H
                obtain ⟨t145, A130, H⟩ := H
                replace H : (if t145 = 2 then ((block_Held.f k 167772164 30 y132 1 1 1 1 3).bind fun t146 => (if t146 = true then ((block_Held.f k 167772164 30 y132 1 1 1 1 1).bind fun t147 => (if t147 = true then (some false) else ((block_Address.f 167772164 30 3).bind fun t148 => (if t148 = 167772167 then ((block_May.f k 167772164 30 y132 1 1 1 1).bind fun t149 => (if t149 = true then ((block_May.f k 0 0 ([] : List Int) 0 0 0 0).bind fun t150 => (some (!t150))) else (some false))) else (some false))))) else (some false))) else (some false)) = some r := H
                have A13 := Aside0.mk A130
                clear A130
                by_cases c14 : t145 = 2
                · rw [if_pos c14] at H
                  have c14b0 : (t145 == 2) = true := beq_iff_eq.mpr c14
                  have c14b1 : (t145 != 2) = false := bne_eq_false_iff_eq.mpr c14
                  clear c14
                  replace H := Option.bind_eq_some_iff.mp H
                  obtain ⟨t146, A150, H⟩ := H
                  replace H : (if t146 = true then ((block_Held.f k 167772164 30 y132 1 1 1 1 1).bind fun t147 => (if t147 = true then (some false) else ((block_Address.f 167772164 30 3).bind fun t148 => (if t148 = 167772167 then ((block_May.f k 167772164 30 y132 1 1 1 1).bind fun t149 => (if t149 = true then ((block_May.f k 0 0 ([] : List Int) 0 0 0 0).bind fun t150 => (some (!t150))) else (some false))) else (some false))))) else (some false)) = some r := H
                  have A15 := Aside0.mk A150
                  clear A150
                  by_cases c16 : t146 = true
                  · subst c16
                    have H1 : ((block_Held.f k 167772164 30 y132 1 1 1 1 1).bind fun t147 => (if t147 = true then (some false) else ((block_Address.f 167772164 30 3).bind fun t148 => (if t148 = 167772167 then ((block_May.f k 167772164 30 y132 1 1 1 1).bind fun t149 => (if t149 = true then ((block_May.f k 0 0 ([] : List Int) 0 0 0 0).bind fun t150 => (some (!t150))) else (some false))) else (some false))))) = some r := by rw [if_pos rfl] at H; exact H
                    clear H
                    have H := H1
                    clear H1
                    replace H := Option.bind_eq_some_iff.mp H
                    obtain ⟨t147, A170, H⟩ := H
                    replace H : (if t147 = true then (some false) else ((block_Address.f 167772164 30 3).bind fun t148 => (if t148 = 167772167 then ((block_May.f k 167772164 30 y132 1 1 1 1).bind fun t149 => (if t149 = true then ((block_May.f k 0 0 ([] : List Int) 0 0 0 0).bind fun t150 => (some (!t150))) else (some false))) else (some false)))) = some r := H
                    have A17 := Aside0.mk A170
                    clear A170
                    by_cases c18 : t147 = true
                    · subst c18
                      have H1 : (some false) = some r := by rw [if_pos rfl] at H; exact H
                      rw [hr_.out] at H1
                      exact absurd (Option.some.inj H1) (by decide)
                    · replace c18 := Bool.eq_false_iff.mpr c18
                      subst c18
                      have H1 : ((block_Address.f 167772164 30 3).bind fun t148 => (if t148 = 167772167 then ((block_May.f k 167772164 30 y132 1 1 1 1).bind fun t149 => (if t149 = true then ((block_May.f k 0 0 ([] : List Int) 0 0 0 0).bind fun t150 => (some (!t150))) else (some false))) else (some false))) = some r := by rw [if_neg (show ¬ (false = true) by decide)] at H; exact H
                      clear H
                      have H := H1
                      clear H1
                      replace H := Option.bind_eq_some_iff.mp H
                      obtain ⟨t148, A430, H⟩ := H
                      replace H : (if t148 = 167772167 then ((block_May.f k 167772164 30 y132 1 1 1 1).bind fun t149 => (if t149 = true then ((block_May.f k 0 0 ([] : List Int) 0 0 0 0).bind fun t150 => (some (!t150))) else (some false))) else (some false)) = some r := H
                      have A43 := Aside0.mk A430
                      clear A430
                      by_cases c44 : t148 = 167772167
                      · rw [if_pos c44] at H
                        have c44b0 : (t148 == 167772167) = true := beq_iff_eq.mpr c44
                        have c44b1 : (t148 != 167772167) = false := bne_eq_false_iff_eq.mpr c44
                        clear c44
                        replace H := Option.bind_eq_some_iff.mp H
                        obtain ⟨t149, A450, H⟩ := H
                        replace H : (if t149 = true then ((block_May.f k 0 0 ([] : List Int) 0 0 0 0).bind fun t150 => (some (!t150))) else (some false)) = some r := H
                        have A45 := Aside0.mk A450
                        clear A450
                        by_cases c46 : t149 = true
                        · subst c46
                          have H1 : ((block_May.f k 0 0 ([] : List Int) 0 0 0 0).bind fun t150 => (some (!t150))) = some r := by rw [if_pos rfl] at H; exact H
                          clear H
                          have H := H1
                          clear H1
                          replace H := Option.bind_eq_some_iff.mp H
                          obtain ⟨t150, A470, H⟩ := H
                          replace H : (some (!t150)) = some r := H
                          have A47 := Aside0.mk A470
                          clear A470
                          first | (exfalso; rw [hr_.out] at H; exact absurd (Option.some.inj H) (by decide)) | (try clear hr_)
                          all_goals
                            obtain rfl := Option.some.inj H
                            go_enter Try.func24, Try.ntmps24
                            go_wp2_with (first | ((with_reducible refine gate_dst (N := 1) rfl ?_); refine box_event ?hg (N := 1) ?hd (cs := #[.int .u32 0, .int .i64 0]) (t := 24) ?hr ?_; (case hd => rfl); (case hg => rfl); (case hr => first | (go_simp; done) | (go_simp; rfl)); intro gb131 hg w48 hbox hb; have n0_ := Aside0.mk (below_step (by repeat (first | (with_reducible first | exact HB.out | apply below_alloc | apply pw_below_drewN | apply below_drew1) | exact HB.out)) hb); have n1_ := Aside0.mk (hbox); have n2_ := Aside0.mk ((by rw [hg]; exact (below_size (by repeat (first | (with_reducible first | exact HB.out | apply below_alloc | apply pw_below_drewN | apply below_drew1) | exact HB.out))) : w.heap.size ≤ gb131)); have n3_ := Aside0.mk ((by rw [hg]; exact (below_size (by repeat (first | (with_reducible first | exact HB.out | apply below_alloc | apply pw_below_drewN | apply below_drew1) | exact HB.out))) : w.heap.size ≤ gb131)); clear HB; have HB := n0_; have BK131 := n1_; have GW131 := n2_; have GE131 := n3_; clear n0_ n1_ n2_ n3_; clear hb hbox hg; have hcz49_0 : w48.cell? ⟨gb131, 0, none⟩ = some (.int .u32 0) := (blk_cell BK131.out 0).trans rfl; have hcz49_1 : w48.cell? ⟨gb131, 1, none⟩ = some (.int .i64 0) := (blk_cell BK131.out 1).trans rfl; have hfz49_0 := blk_frozen BK131.out 0; have hfz49_1 := blk_frozen BK131.out 1) | ((with_reducible refine gate_dst (N := 13) rfl ?_); refine Kd.R_lit (Kd.int .i64) _ 3 ?hg (N := 13) ?hd (xs := ([0, 3] : List Int)) (inner := [.int .i64 0, .int .i64 3]) (ok := fun _ => True) (okp := fun _ => True) ?hr ?hp (fun _ hk => hk) trivial (Below.refl _ _) (Nat.le_refl _) (by simp) ?_; (case hd => rfl); (case hg => rfl); (case hr => first | (go_simp; done) | (go_simp; rfl)); (case hp => exact (Reps.one (show Kd.M (Kd.int .i64) _ _ _ 0 [.int .i64 0] from rfl) (Reps.one (show Kd.M (Kd.int .i64) _ _ _ 3 [.int .i64 3] from rfl) (Reps.none _ _)))); intro v133 w50 ho51 hb hg_ hnew_; clear hg_ hnew_; (first | rw [← Ny132.out] at ho51 | (simp only [Int.reduceToNat] at ho51; rw [← Ny132.out] at ho51)); have n0_ := Aside0.mk (Kd.R_lower ho51 (below_size (by repeat (first | (with_reducible first | exact HB.out | apply below_alloc | apply pw_below_drewN | apply below_drew1 | refine below_set ?_ GE131.out) | exact HB.out)))); have n1_ := Aside0.mk (blk_below (g := gb131) (o := .cells #[.int .u32 167772164, .int .i64 30] 24 (0, 0)) (by (with_reducible repeat (first | refine blk_drewN ?_ _ | refine blk_drew ?_ | refine blk_alloc ?_ _)); refine blk_put (cs := #[.int .u32 167772164, .int .i64 0]) ?_ 1 _ rfl; (with_reducible repeat (first | refine blk_drewN ?_ _ | refine blk_drew ?_ | refine blk_alloc ?_ _)); refine blk_put (cs := #[.int .u32 0, .int .i64 0]) ?_ 0 _ rfl; (with_reducible repeat (first | refine blk_drewN ?_ _ | refine blk_drew ?_ | refine blk_alloc ?_ _)); exact BK131.out) hb); have n2_ := Aside0.mk (below_step (by repeat (first | (with_reducible first | exact HB.out | apply below_alloc | apply pw_below_drewN | apply below_drew1 | refine below_set ?_ GE131.out) | exact HB.out)) hb); clear BK131; clear HB; have HO134 := n0_; have BK131 := n1_; have HB := n2_; clear n0_ n1_ n2_; clear hb ho51; obtain ⟨Ao52, co52, eo52⟩ := Kd.R_slice HO134.out; subst eo52) | ((with_reducible refine gate_dst (N := 2) rfl ?_); refine box_event ?hg (N := 2) ?hd (cs := #[.int .u32 0, .int .i64 0, .slice none 0 0, .int .i64 0, .int .i64 0, .int .i64 0, .int .i64 0]) (t := 27) ?hr ?_; (case hd => rfl); (case hg => rfl); (case hr => first | (go_simp; done) | (go_simp; rfl)); intro gb135 hg w53 hbox hb; have n0_ := Aside0.mk (Kd.R_below (by (with_reducible repeat (first | apply Kd.R_alloc | apply Kd.R_drewN | apply Kd.R_drew)); exact HO134.out) hb); have n1_ := Aside0.mk (blk_below (g := gb131) (o := .cells #[.int .u32 167772164, .int .i64 30] 24 (0, 0)) (by (with_reducible repeat (first | refine blk_drewN ?_ _ | refine blk_drew ?_ | refine blk_alloc ?_ _)); exact BK131.out) hb); have n2_ := Aside0.mk (below_step (by repeat (first | (with_reducible first | exact HB.out | apply below_alloc | apply pw_below_drewN | apply below_drew1 | refine below_set ?_ GE131.out) | exact HB.out)) hb); have n3_ := Aside0.mk (hbox); have n4_ := Aside0.mk ((by rw [hg]; exact (below_size (by repeat (first | (with_reducible first | exact HB.out | apply below_alloc | apply pw_below_drewN | apply below_drew1 | refine below_set ?_ GE131.out) | exact HB.out))) : w.heap.size ≤ gb135)); have n5_ := Aside0.mk ((by rw [hg]; exact (below_size (by repeat (first | (with_reducible first | exact HB.out | apply below_alloc | apply pw_below_drewN | apply below_drew1 | refine below_set ?_ GE131.out) | exact HB.out))) : w.heap.size ≤ gb135)); have n6_ := Aside0.mk ((by rw [hg]; exact Nat.ne_of_lt (blk_lt (g := gb131) (o := .cells #[.int .u32 167772164, .int .i64 30] 24 (0, 0)) (by (with_reducible repeat (first | refine blk_drewN ?_ _ | refine blk_drew ?_ | refine blk_alloc ?_ _)); exact BK131.out)) : gb131 ≠ gb135)); have n7_ := Aside0.mk ((by rw [hg]; exact Nat.ne_of_gt (blk_lt (g := gb131) (o := .cells #[.int .u32 167772164, .int .i64 30] 24 (0, 0)) (by (with_reducible repeat (first | refine blk_drewN ?_ _ | refine blk_drew ?_ | refine blk_alloc ?_ _)); exact BK131.out)) : gb135 ≠ gb131)); clear HO134; clear BK131; clear HB; have HO134 := n0_; have BK131 := n1_; have HB := n2_; have BK135 := n3_; have GW135 := n4_; have GE135 := n5_; have NB131_135 := n6_; have NB135_131 := n7_; clear n0_ n1_ n2_ n3_ n4_ n5_ n6_ n7_; clear hb hbox hg; have hnb54 := NB135_131.out; have hnc54 := NB131_135.out; have hcz55_0 : w53.cell? ⟨gb135, 0, none⟩ = some (.int .u32 0) := (blk_cell BK135.out 0).trans rfl; have hcz55_1 : w53.cell? ⟨gb135, 1, none⟩ = some (.int .i64 0) := (blk_cell BK135.out 1).trans rfl; have hcz55_2 : w53.cell? ⟨gb135, 2, none⟩ = some (.slice none 0 0) := (blk_cell BK135.out 2).trans rfl; have hcz55_3 : w53.cell? ⟨gb135, 3, none⟩ = some (.int .i64 0) := (blk_cell BK135.out 3).trans rfl; have hcz55_4 : w53.cell? ⟨gb135, 4, none⟩ = some (.int .i64 0) := (blk_cell BK135.out 4).trans rfl; have hcz55_5 : w53.cell? ⟨gb135, 5, none⟩ = some (.int .i64 0) := (blk_cell BK135.out 5).trans rfl; have hcz55_6 : w53.cell? ⟨gb135, 6, none⟩ = some (.int .i64 0) := (blk_cell BK135.out 6).trans rfl; have hfz55_0 := blk_frozen BK135.out 0; have hfz55_1 := blk_frozen BK135.out 1; have hfz55_2 := blk_frozen BK135.out 2; have hfz55_3 := blk_frozen BK135.out 3; have hfz55_4 := blk_frozen BK135.out 4; have hfz55_5 := blk_frozen BK135.out 5; have hfz55_6 := blk_frozen BK135.out 6; have hcz56_0 : w53.cell? ⟨gb131, 0, none⟩ = some (.int .u32 167772164) := (blk_cell BK131.out 0).trans rfl; have hcz56_1 : w53.cell? ⟨gb131, 1, none⟩ = some (.int .i64 30) := (blk_cell BK131.out 1).trans rfl; have hfz56_0 := blk_frozen BK131.out 0; have hfz56_1 := blk_frozen BK131.out 1) | ((with_reducible refine gate_callee (f := 27) rfl ?_); refine goesL_ (some 17) rfl rfl Try.func27 (by kernel_rfl) rfl #[.agg #[.int .u32 167772164, .int .i64 30], .int .u32 167772167] rfl (by (try simp only [List.map_toArray, List.map_cons, List.map_nil]); first | done | rfl | (simp only [List.length_drop, List.length_take]; rfl)) ?_; (with_reducible refine (block_Offset.calls 167772164 30 167772167 t136 t137 _ A1.out).mono ?_); rintro e w57 ⟨rfl, hb⟩; refine ⟨_, rfl, ?_⟩; have n0_ := Aside0.mk (Kd.R_below (by (with_reducible repeat (first | apply Kd.R_alloc | apply Kd.R_drewN | apply Kd.R_drew)); exact (Kd.R_mono (Kd.R_far (p := ⟨gb135, 6, none⟩) (Kd.R_far (p := ⟨gb135, 5, none⟩) (Kd.R_far (p := ⟨gb135, 4, none⟩) (Kd.R_far (p := ⟨gb135, 3, none⟩) (Kd.R_far (p := ⟨gb135, 2, none⟩) (Kd.R_far (p := ⟨gb135, 1, none⟩) (Kd.R_far (p := ⟨gb135, 0, none⟩) (Kd.R_types HO134.out BK135.out (by decide)) (fun _ hk => hk.2) (.int .u32 167772164)) (fun _ hk => hk.2) (.int .i64 30)) (fun _ hk => hk.2) (.slice Ao52 y132.length co52)) (fun _ hk => hk.2) (.int .i64 1)) (fun _ hk => hk.2) (.int .i64 1)) (fun _ hk => hk.2) (.int .i64 1)) (fun _ hk => hk.2) (.int .i64 1)) (fun _ h_ => h_.1))) hb); have n1_ := Aside0.mk (blk_below (g := gb131) (o := .cells #[.int .u32 167772164, .int .i64 30] 24 (0, 0)) (by (with_reducible repeat (first | refine blk_drewN ?_ _ | refine blk_drew ?_ | refine blk_alloc ?_ _)); refine blk_far ?_ NB131_135.out _; (with_reducible repeat (first | refine blk_drewN ?_ _ | refine blk_drew ?_ | refine blk_alloc ?_ _)); refine blk_far ?_ NB131_135.out _; (with_reducible repeat (first | refine blk_drewN ?_ _ | refine blk_drew ?_ | refine blk_alloc ?_ _)); refine blk_far ?_ NB131_135.out _; (with_reducible repeat (first | refine blk_drewN ?_ _ | refine blk_drew ?_ | refine blk_alloc ?_ _)); refine blk_far ?_ NB131_135.out _; (with_reducible repeat (first | refine blk_drewN ?_ _ | refine blk_drew ?_ | refine blk_alloc ?_ _)); refine blk_far ?_ NB131_135.out _; (with_reducible repeat (first | refine blk_drewN ?_ _ | refine blk_drew ?_ | refine blk_alloc ?_ _)); refine blk_far ?_ NB131_135.out _; (with_reducible repeat (first | refine blk_drewN ?_ _ | refine blk_drew ?_ | refine blk_alloc ?_ _)); refine blk_far ?_ NB131_135.out _; (with_reducible repeat (first | refine blk_drewN ?_ _ | refine blk_drew ?_ | refine blk_alloc ?_ _)); exact BK131.out) hb); have n2_ := Aside0.mk (blk_below (g := gb135) (o := .cells #[.int .u32 167772164, .int .i64 30, .slice Ao52 y132.length co52, .int .i64 1, .int .i64 1, .int .i64 1, .int .i64 1] 27 (0, 0)) (by (with_reducible repeat (first | refine blk_drewN ?_ _ | refine blk_drew ?_ | refine blk_alloc ?_ _)); refine blk_put (cs := #[.int .u32 167772164, .int .i64 30, .slice Ao52 y132.length co52, .int .i64 1, .int .i64 1, .int .i64 1, .int .i64 0]) ?_ 6 _ rfl; (with_reducible repeat (first | refine blk_drewN ?_ _ | refine blk_drew ?_ | refine blk_alloc ?_ _)); refine blk_put (cs := #[.int .u32 167772164, .int .i64 30, .slice Ao52 y132.length co52, .int .i64 1, .int .i64 1, .int .i64 0, .int .i64 0]) ?_ 5 _ rfl; (with_reducible repeat (first | refine blk_drewN ?_ _ | refine blk_drew ?_ | refine blk_alloc ?_ _)); refine blk_put (cs := #[.int .u32 167772164, .int .i64 30, .slice Ao52 y132.length co52, .int .i64 1, .int .i64 0, .int .i64 0, .int .i64 0]) ?_ 4 _ rfl; (with_reducible repeat (first | refine blk_drewN ?_ _ | refine blk_drew ?_ | refine blk_alloc ?_ _)); refine blk_put (cs := #[.int .u32 167772164, .int .i64 30, .slice Ao52 y132.length co52, .int .i64 0, .int .i64 0, .int .i64 0, .int .i64 0]) ?_ 3 _ rfl; (with_reducible repeat (first | refine blk_drewN ?_ _ | refine blk_drew ?_ | refine blk_alloc ?_ _)); refine blk_put (cs := #[.int .u32 167772164, .int .i64 30, .slice none 0 0, .int .i64 0, .int .i64 0, .int .i64 0, .int .i64 0]) ?_ 2 _ rfl; (with_reducible repeat (first | refine blk_drewN ?_ _ | refine blk_drew ?_ | refine blk_alloc ?_ _)); refine blk_put (cs := #[.int .u32 167772164, .int .i64 0, .slice none 0 0, .int .i64 0, .int .i64 0, .int .i64 0, .int .i64 0]) ?_ 1 _ rfl; (with_reducible repeat (first | refine blk_drewN ?_ _ | refine blk_drew ?_ | refine blk_alloc ?_ _)); refine blk_put (cs := #[.int .u32 0, .int .i64 0, .slice none 0 0, .int .i64 0, .int .i64 0, .int .i64 0, .int .i64 0]) ?_ 0 _ rfl; (with_reducible repeat (first | refine blk_drewN ?_ _ | refine blk_drew ?_ | refine blk_alloc ?_ _)); exact BK135.out) hb); have n3_ := Aside0.mk (below_step (by repeat (first | (with_reducible first | exact HB.out | apply below_alloc | apply pw_below_drewN | apply below_drew1 | refine below_set ?_ GE131.out | refine below_set ?_ GE135.out) | exact HB.out)) hb); clear HO134; clear BK131; clear BK135; clear HB; have HO134 := n0_; have BK131 := n1_; have BK135 := n2_; have HB := n3_; clear n0_ n1_ n2_ n3_; (try clear hb); (try clear hb2); (try clear hk); (try clear hi); have hcz58_0 : w57.cell? ⟨gb131, 0, none⟩ = some (.int .u32 167772164) := (blk_cell BK131.out 0).trans rfl; have hcz58_1 : w57.cell? ⟨gb131, 1, none⟩ = some (.int .i64 30) := (blk_cell BK131.out 1).trans rfl; have hfz58_0 := blk_frozen BK131.out 0; have hfz58_1 := blk_frozen BK131.out 1) | ((with_reducible refine gate_callee (f := 27) rfl ?_); refine goesL_ (some 22) rfl rfl Try.func27 (by kernel_rfl) rfl #[.agg #[.int .u32 167772164, .int .i64 30], .int .u32 167772168] rfl (by (try simp only [List.map_toArray, List.map_cons, List.map_nil]); first | done | rfl | (simp only [List.length_drop, List.length_take]; rfl)) ?_; (with_reducible refine (block_Offset.calls 167772164 30 167772168 t138 t139 _ A2.out).mono ?_); rintro e w59 ⟨rfl, hb⟩; refine ⟨_, rfl, ?_⟩; have n0_ := Aside0.mk (Kd.R_below (by (with_reducible repeat (first | apply Kd.R_alloc | apply Kd.R_drewN | apply Kd.R_drew)); exact HO134.out) hb); have n1_ := Aside0.mk (blk_below (g := gb131) (o := .cells #[.int .u32 167772164, .int .i64 30] 24 (0, 0)) (by (with_reducible repeat (first | refine blk_drewN ?_ _ | refine blk_drew ?_ | refine blk_alloc ?_ _)); exact BK131.out) hb); have n2_ := Aside0.mk (blk_below (g := gb135) (o := .cells #[.int .u32 167772164, .int .i64 30, .slice Ao52 y132.length co52, .int .i64 1, .int .i64 1, .int .i64 1, .int .i64 1] 27 (0, 0)) (by (with_reducible repeat (first | refine blk_drewN ?_ _ | refine blk_drew ?_ | refine blk_alloc ?_ _)); exact BK135.out) hb); have n3_ := Aside0.mk (below_step (by repeat (first | (with_reducible first | exact HB.out | apply below_alloc | apply pw_below_drewN | apply below_drew1 | refine below_set ?_ GE131.out | refine below_set ?_ GE135.out) | exact HB.out)) hb); clear HO134; clear BK131; clear BK135; clear HB; have HO134 := n0_; have BK131 := n1_; have BK135 := n2_; have HB := n3_; clear n0_ n1_ n2_ n3_; (try clear hb); (try clear hb2); (try clear hk); (try clear hi); have hcz60_0 : w59.cell? ⟨gb135, 0, none⟩ = some (.int .u32 167772164) := (blk_cell BK135.out 0).trans rfl; have hcz60_1 : w59.cell? ⟨gb135, 1, none⟩ = some (.int .i64 30) := (blk_cell BK135.out 1).trans rfl; have hcz60_2 : w59.cell? ⟨gb135, 2, none⟩ = some (.slice Ao52 y132.length co52) := (blk_cell BK135.out 2).trans rfl; have hcz60_3 : w59.cell? ⟨gb135, 3, none⟩ = some (.int .i64 1) := (blk_cell BK135.out 3).trans rfl; have hcz60_4 : w59.cell? ⟨gb135, 4, none⟩ = some (.int .i64 1) := (blk_cell BK135.out 4).trans rfl; have hcz60_5 : w59.cell? ⟨gb135, 5, none⟩ = some (.int .i64 1) := (blk_cell BK135.out 5).trans rfl; have hcz60_6 : w59.cell? ⟨gb135, 6, none⟩ = some (.int .i64 1) := (blk_cell BK135.out 6).trans rfl; have hfz60_0 := blk_frozen BK135.out 0; have hfz60_1 := blk_frozen BK135.out 1; have hfz60_2 := blk_frozen BK135.out 2; have hfz60_3 := blk_frozen BK135.out 3; have hfz60_4 := blk_frozen BK135.out 4; have hfz60_5 := blk_frozen BK135.out 5; have hfz60_6 := blk_frozen BK135.out 6) | ((with_reducible refine gate_callee (f := 29) rfl ?_); refine goesL_ (some 27) rfl rfl Try.func29 (by kernel_rfl) rfl #[.agg #[.int .u32 167772164, .int .i64 30, .slice Ao52 y132.length co52, .int .i64 1, .int .i64 1, .int .i64 1, .int .i64 1], .int .u32 167772167] rfl (by (try simp only [List.map_toArray, List.map_cons, List.map_nil]); first | done | rfl | (simp only [List.length_drop, List.length_take]; rfl)) ?_; (with_reducible refine (block_Find.calls k 167772164 30 _ _ y132 1 1 1 1 167772167 t140 t141 _ ?side1 ?side2 A3.out).mono ?_); (case side1 => repeat (first | exact (Kd.R_reads' HO134.out).2.2 | (with_reducible refine Kd.C_alloc ?_ _) | (with_reducible refine Kd.C_drewN ?_ _) | (with_reducible refine Kd.C_drew ?_))); (case side2 => exact (Kd.R_reads' HO134.out).2.1); rintro e w61 ⟨rfl, hb⟩; refine ⟨_, rfl, ?_⟩; have n0_ := Aside0.mk (Kd.R_below (by (with_reducible repeat (first | apply Kd.R_alloc | apply Kd.R_drewN | apply Kd.R_drew)); exact HO134.out) hb); have n1_ := Aside0.mk (blk_below (g := gb131) (o := .cells #[.int .u32 167772164, .int .i64 30] 24 (0, 0)) (by (with_reducible repeat (first | refine blk_drewN ?_ _ | refine blk_drew ?_ | refine blk_alloc ?_ _)); exact BK131.out) hb); have n2_ := Aside0.mk (blk_below (g := gb135) (o := .cells #[.int .u32 167772164, .int .i64 30, .slice Ao52 y132.length co52, .int .i64 1, .int .i64 1, .int .i64 1, .int .i64 1] 27 (0, 0)) (by (with_reducible repeat (first | refine blk_drewN ?_ _ | refine blk_drew ?_ | refine blk_alloc ?_ _)); exact BK135.out) hb); have n3_ := Aside0.mk (below_step (by repeat (first | (with_reducible first | exact HB.out | apply below_alloc | apply pw_below_drewN | apply below_drew1 | refine below_set ?_ GE131.out | refine below_set ?_ GE135.out) | exact HB.out)) hb); clear HO134; clear BK131; clear BK135; clear HB; have HO134 := n0_; have BK131 := n1_; have BK135 := n2_; have HB := n3_; clear n0_ n1_ n2_ n3_; (try clear hb); (try clear hb2); (try clear hk); (try clear hi); have hcz62_0 : w61.cell? ⟨gb135, 0, none⟩ = some (.int .u32 167772164) := (blk_cell BK135.out 0).trans rfl; have hcz62_1 : w61.cell? ⟨gb135, 1, none⟩ = some (.int .i64 30) := (blk_cell BK135.out 1).trans rfl; have hcz62_2 : w61.cell? ⟨gb135, 2, none⟩ = some (.slice Ao52 y132.length co52) := (blk_cell BK135.out 2).trans rfl; have hcz62_3 : w61.cell? ⟨gb135, 3, none⟩ = some (.int .i64 1) := (blk_cell BK135.out 3).trans rfl; have hcz62_4 : w61.cell? ⟨gb135, 4, none⟩ = some (.int .i64 1) := (blk_cell BK135.out 4).trans rfl; have hcz62_5 : w61.cell? ⟨gb135, 5, none⟩ = some (.int .i64 1) := (blk_cell BK135.out 5).trans rfl; have hcz62_6 : w61.cell? ⟨gb135, 6, none⟩ = some (.int .i64 1) := (blk_cell BK135.out 6).trans rfl; have hfz62_0 := blk_frozen BK135.out 0; have hfz62_1 := blk_frozen BK135.out 1; have hfz62_2 := blk_frozen BK135.out 2; have hfz62_3 := blk_frozen BK135.out 3; have hfz62_4 := blk_frozen BK135.out 4; have hfz62_5 := blk_frozen BK135.out 5; have hfz62_6 := blk_frozen BK135.out 6) | ((with_reducible refine gate_callee (f := 29) rfl ?_); refine goesL_ (some 32) rfl rfl Try.func29 (by kernel_rfl) rfl #[.agg #[.int .u32 167772164, .int .i64 30, .slice Ao52 y132.length co52, .int .i64 1, .int .i64 1, .int .i64 1, .int .i64 1], .int .u32 167772165] rfl (by (try simp only [List.map_toArray, List.map_cons, List.map_nil]); first | done | rfl | (simp only [List.length_drop, List.length_take]; rfl)) ?_; (with_reducible refine (block_Find.calls k 167772164 30 _ _ y132 1 1 1 1 167772165 t142 t143 _ ?side1 ?side2 A4.out).mono ?_); (case side1 => repeat (first | exact (Kd.R_reads' HO134.out).2.2 | (with_reducible refine Kd.C_alloc ?_ _) | (with_reducible refine Kd.C_drewN ?_ _) | (with_reducible refine Kd.C_drew ?_))); (case side2 => exact (Kd.R_reads' HO134.out).2.1); rintro e w63 ⟨rfl, hb⟩; refine ⟨_, rfl, ?_⟩; have n0_ := Aside0.mk (Kd.R_below (by (with_reducible repeat (first | apply Kd.R_alloc | apply Kd.R_drewN | apply Kd.R_drew)); exact HO134.out) hb); have n1_ := Aside0.mk (blk_below (g := gb131) (o := .cells #[.int .u32 167772164, .int .i64 30] 24 (0, 0)) (by (with_reducible repeat (first | refine blk_drewN ?_ _ | refine blk_drew ?_ | refine blk_alloc ?_ _)); exact BK131.out) hb); have n2_ := Aside0.mk (blk_below (g := gb135) (o := .cells #[.int .u32 167772164, .int .i64 30, .slice Ao52 y132.length co52, .int .i64 1, .int .i64 1, .int .i64 1, .int .i64 1] 27 (0, 0)) (by (with_reducible repeat (first | refine blk_drewN ?_ _ | refine blk_drew ?_ | refine blk_alloc ?_ _)); exact BK135.out) hb); have n3_ := Aside0.mk (below_step (by repeat (first | (with_reducible first | exact HB.out | apply below_alloc | apply pw_below_drewN | apply below_drew1 | refine below_set ?_ GE131.out | refine below_set ?_ GE135.out) | exact HB.out)) hb); clear HO134; clear BK131; clear BK135; clear HB; have HO134 := n0_; have BK131 := n1_; have BK135 := n2_; have HB := n3_; clear n0_ n1_ n2_ n3_; (try clear hb); (try clear hb2); (try clear hk); (try clear hi); have hcz64_0 : w63.cell? ⟨gb131, 0, none⟩ = some (.int .u32 167772164) := (blk_cell BK131.out 0).trans rfl; have hcz64_1 : w63.cell? ⟨gb131, 1, none⟩ = some (.int .i64 30) := (blk_cell BK131.out 1).trans rfl; have hfz64_0 := blk_frozen BK131.out 0; have hfz64_1 := blk_frozen BK131.out 1) | (go_at_call 31; (with_reducible refine (block_Many.calls 167772164 30 t144 _ A11.out).mono ?_); rintro e w65 ⟨rfl, hb⟩; have n0_ := Aside0.mk (Kd.R_below (by (with_reducible repeat (first | apply Kd.R_alloc | apply Kd.R_drewN | apply Kd.R_drew)); exact HO134.out) hb); have n1_ := Aside0.mk (blk_below (g := gb131) (o := .cells #[.int .u32 167772164, .int .i64 30] 24 (0, 0)) (by (with_reducible repeat (first | refine blk_drewN ?_ _ | refine blk_drew ?_ | refine blk_alloc ?_ _)); exact BK131.out) hb); have n2_ := Aside0.mk (blk_below (g := gb135) (o := .cells #[.int .u32 167772164, .int .i64 30, .slice Ao52 y132.length co52, .int .i64 1, .int .i64 1, .int .i64 1, .int .i64 1] 27 (0, 0)) (by (with_reducible repeat (first | refine blk_drewN ?_ _ | refine blk_drew ?_ | refine blk_alloc ?_ _)); exact BK135.out) hb); have n3_ := Aside0.mk (below_step (by repeat (first | (with_reducible first | exact HB.out | apply below_alloc | apply pw_below_drewN | apply below_drew1 | refine below_set ?_ GE131.out | refine below_set ?_ GE135.out) | exact HB.out)) hb); clear HO134; clear BK131; clear BK135; clear HB; have HO134 := n0_; have BK131 := n1_; have BK135 := n2_; have HB := n3_; clear n0_ n1_ n2_ n3_; (try clear hb); (try clear hb2); (try clear hk); (try clear hi); have hcz66_0 : w65.cell? ⟨gb135, 0, none⟩ = some (.int .u32 167772164) := (blk_cell BK135.out 0).trans rfl; have hcz66_1 : w65.cell? ⟨gb135, 1, none⟩ = some (.int .i64 30) := (blk_cell BK135.out 1).trans rfl; have hcz66_2 : w65.cell? ⟨gb135, 2, none⟩ = some (.slice Ao52 y132.length co52) := (blk_cell BK135.out 2).trans rfl; have hcz66_3 : w65.cell? ⟨gb135, 3, none⟩ = some (.int .i64 1) := (blk_cell BK135.out 3).trans rfl; have hcz66_4 : w65.cell? ⟨gb135, 4, none⟩ = some (.int .i64 1) := (blk_cell BK135.out 4).trans rfl; have hcz66_5 : w65.cell? ⟨gb135, 5, none⟩ = some (.int .i64 1) := (blk_cell BK135.out 5).trans rfl; have hcz66_6 : w65.cell? ⟨gb135, 6, none⟩ = some (.int .i64 1) := (blk_cell BK135.out 6).trans rfl; have hfz66_0 := blk_frozen BK135.out 0; have hfz66_1 := blk_frozen BK135.out 1; have hfz66_2 := blk_frozen BK135.out 2; have hfz66_3 := blk_frozen BK135.out 3; have hfz66_4 := blk_frozen BK135.out 4; have hfz66_5 := blk_frozen BK135.out 5; have hfz66_6 := blk_frozen BK135.out 6) | (go_at_call 35; (with_reducible refine (block_Usable.calls 167772164 30 _ _ y132 1 1 1 1 t145 _ ?side1 ?side2 A13.out).mono ?_); (case side1 => repeat (first | exact (Kd.R_reads' HO134.out).2.2 | (with_reducible refine Kd.C_alloc ?_ _) | (with_reducible refine Kd.C_drewN ?_ _) | (with_reducible refine Kd.C_drew ?_))); (case side2 => exact (Kd.R_reads' HO134.out).2.1); rintro e w67 ⟨rfl, hb⟩; have n0_ := Aside0.mk (Kd.R_below (by (with_reducible repeat (first | apply Kd.R_alloc | apply Kd.R_drewN | apply Kd.R_drew)); exact HO134.out) hb); have n1_ := Aside0.mk (blk_below (g := gb131) (o := .cells #[.int .u32 167772164, .int .i64 30] 24 (0, 0)) (by (with_reducible repeat (first | refine blk_drewN ?_ _ | refine blk_drew ?_ | refine blk_alloc ?_ _)); exact BK131.out) hb); have n2_ := Aside0.mk (blk_below (g := gb135) (o := .cells #[.int .u32 167772164, .int .i64 30, .slice Ao52 y132.length co52, .int .i64 1, .int .i64 1, .int .i64 1, .int .i64 1] 27 (0, 0)) (by (with_reducible repeat (first | refine blk_drewN ?_ _ | refine blk_drew ?_ | refine blk_alloc ?_ _)); exact BK135.out) hb); have n3_ := Aside0.mk (below_step (by repeat (first | (with_reducible first | exact HB.out | apply below_alloc | apply pw_below_drewN | apply below_drew1 | refine below_set ?_ GE131.out | refine below_set ?_ GE135.out) | exact HB.out)) hb); clear HO134; clear BK131; clear BK135; clear HB; have HO134 := n0_; have BK131 := n1_; have BK135 := n2_; have HB := n3_; clear n0_ n1_ n2_ n3_; (try clear hb); (try clear hb2); (try clear hk); (try clear hi); have hcz68_0 : w67.cell? ⟨gb135, 0, none⟩ = some (.int .u32 167772164) := (blk_cell BK135.out 0).trans rfl; have hcz68_1 : w67.cell? ⟨gb135, 1, none⟩ = some (.int .i64 30) := (blk_cell BK135.out 1).trans rfl; have hcz68_2 : w67.cell? ⟨gb135, 2, none⟩ = some (.slice Ao52 y132.length co52) := (blk_cell BK135.out 2).trans rfl; have hcz68_3 : w67.cell? ⟨gb135, 3, none⟩ = some (.int .i64 1) := (blk_cell BK135.out 3).trans rfl; have hcz68_4 : w67.cell? ⟨gb135, 4, none⟩ = some (.int .i64 1) := (blk_cell BK135.out 4).trans rfl; have hcz68_5 : w67.cell? ⟨gb135, 5, none⟩ = some (.int .i64 1) := (blk_cell BK135.out 5).trans rfl; have hcz68_6 : w67.cell? ⟨gb135, 6, none⟩ = some (.int .i64 1) := (blk_cell BK135.out 6).trans rfl; have hfz68_0 := blk_frozen BK135.out 0; have hfz68_1 := blk_frozen BK135.out 1; have hfz68_2 := blk_frozen BK135.out 2; have hfz68_3 := blk_frozen BK135.out 3; have hfz68_4 := blk_frozen BK135.out 4; have hfz68_5 := blk_frozen BK135.out 5; have hfz68_6 := blk_frozen BK135.out 6) | (go_at_call 33; (with_reducible refine (block_Held.calls k 167772164 30 _ _ y132 1 1 1 1 3 true _ ?side1 ?side2 A15.out).mono ?_); (case side1 => repeat (first | exact (Kd.R_reads' HO134.out).2.2 | (with_reducible refine Kd.C_alloc ?_ _) | (with_reducible refine Kd.C_drewN ?_ _) | (with_reducible refine Kd.C_drew ?_))); (case side2 => exact (Kd.R_reads' HO134.out).2.1); rintro e w69 ⟨rfl, hb⟩; have n0_ := Aside0.mk (Kd.R_below (by (with_reducible repeat (first | apply Kd.R_alloc | apply Kd.R_drewN | apply Kd.R_drew)); exact HO134.out) hb); have n1_ := Aside0.mk (blk_below (g := gb131) (o := .cells #[.int .u32 167772164, .int .i64 30] 24 (0, 0)) (by (with_reducible repeat (first | refine blk_drewN ?_ _ | refine blk_drew ?_ | refine blk_alloc ?_ _)); exact BK131.out) hb); have n2_ := Aside0.mk (blk_below (g := gb135) (o := .cells #[.int .u32 167772164, .int .i64 30, .slice Ao52 y132.length co52, .int .i64 1, .int .i64 1, .int .i64 1, .int .i64 1] 27 (0, 0)) (by (with_reducible repeat (first | refine blk_drewN ?_ _ | refine blk_drew ?_ | refine blk_alloc ?_ _)); exact BK135.out) hb); have n3_ := Aside0.mk (below_step (by repeat (first | (with_reducible first | exact HB.out | apply below_alloc | apply pw_below_drewN | apply below_drew1 | refine below_set ?_ GE131.out | refine below_set ?_ GE135.out) | exact HB.out)) hb); clear HO134; clear BK131; clear BK135; clear HB; have HO134 := n0_; have BK131 := n1_; have BK135 := n2_; have HB := n3_; clear n0_ n1_ n2_ n3_; (try clear hb); (try clear hb2); (try clear hk); (try clear hi); have hcz70_0 : w69.cell? ⟨gb135, 0, none⟩ = some (.int .u32 167772164) := (blk_cell BK135.out 0).trans rfl; have hcz70_1 : w69.cell? ⟨gb135, 1, none⟩ = some (.int .i64 30) := (blk_cell BK135.out 1).trans rfl; have hcz70_2 : w69.cell? ⟨gb135, 2, none⟩ = some (.slice Ao52 y132.length co52) := (blk_cell BK135.out 2).trans rfl; have hcz70_3 : w69.cell? ⟨gb135, 3, none⟩ = some (.int .i64 1) := (blk_cell BK135.out 3).trans rfl; have hcz70_4 : w69.cell? ⟨gb135, 4, none⟩ = some (.int .i64 1) := (blk_cell BK135.out 4).trans rfl; have hcz70_5 : w69.cell? ⟨gb135, 5, none⟩ = some (.int .i64 1) := (blk_cell BK135.out 5).trans rfl; have hcz70_6 : w69.cell? ⟨gb135, 6, none⟩ = some (.int .i64 1) := (blk_cell BK135.out 6).trans rfl; have hfz70_0 := blk_frozen BK135.out 0; have hfz70_1 := blk_frozen BK135.out 1; have hfz70_2 := blk_frozen BK135.out 2; have hfz70_3 := blk_frozen BK135.out 3; have hfz70_4 := blk_frozen BK135.out 4; have hfz70_5 := blk_frozen BK135.out 5; have hfz70_6 := blk_frozen BK135.out 6) | (go_at_call 33; (with_reducible refine (block_Held.calls k 167772164 30 _ _ y132 1 1 1 1 1 false _ ?side1 ?side2 A17.out).mono ?_); (case side1 => repeat (first | exact (Kd.R_reads' HO134.out).2.2 | (with_reducible refine Kd.C_alloc ?_ _) | (with_reducible refine Kd.C_drewN ?_ _) | (with_reducible refine Kd.C_drew ?_))); (case side2 => exact (Kd.R_reads' HO134.out).2.1); rintro e w71 ⟨rfl, hb⟩; have n0_ := Aside0.mk (Kd.R_below (by (with_reducible repeat (first | apply Kd.R_alloc | apply Kd.R_drewN | apply Kd.R_drew)); exact HO134.out) hb); have n1_ := Aside0.mk (blk_below (g := gb131) (o := .cells #[.int .u32 167772164, .int .i64 30] 24 (0, 0)) (by (with_reducible repeat (first | refine blk_drewN ?_ _ | refine blk_drew ?_ | refine blk_alloc ?_ _)); exact BK131.out) hb); have n2_ := Aside0.mk (blk_below (g := gb135) (o := .cells #[.int .u32 167772164, .int .i64 30, .slice Ao52 y132.length co52, .int .i64 1, .int .i64 1, .int .i64 1, .int .i64 1] 27 (0, 0)) (by (with_reducible repeat (first | refine blk_drewN ?_ _ | refine blk_drew ?_ | refine blk_alloc ?_ _)); exact BK135.out) hb); have n3_ := Aside0.mk (below_step (by repeat (first | (with_reducible first | exact HB.out | apply below_alloc | apply pw_below_drewN | apply below_drew1 | refine below_set ?_ GE131.out | refine below_set ?_ GE135.out) | exact HB.out)) hb); clear HO134; clear BK131; clear BK135; clear HB; have HO134 := n0_; have BK131 := n1_; have BK135 := n2_; have HB := n3_; clear n0_ n1_ n2_ n3_; (try clear hb); (try clear hb2); (try clear hk); (try clear hi); have hcz72_0 : w71.cell? ⟨gb131, 0, none⟩ = some (.int .u32 167772164) := (blk_cell BK131.out 0).trans rfl; have hcz72_1 : w71.cell? ⟨gb131, 1, none⟩ = some (.int .i64 30) := (blk_cell BK131.out 1).trans rfl; have hfz72_0 := blk_frozen BK131.out 0; have hfz72_1 := blk_frozen BK131.out 1) | (go_at_call 36; (with_reducible refine (block_Address.calls 167772164 30 3 t148 _ A43.out).mono ?_); rintro e w73 ⟨rfl, hb⟩; have n0_ := Aside0.mk (Kd.R_below (by (with_reducible repeat (first | apply Kd.R_alloc | apply Kd.R_drewN | apply Kd.R_drew)); exact HO134.out) hb); have n1_ := Aside0.mk (blk_below (g := gb131) (o := .cells #[.int .u32 167772164, .int .i64 30] 24 (0, 0)) (by (with_reducible repeat (first | refine blk_drewN ?_ _ | refine blk_drew ?_ | refine blk_alloc ?_ _)); exact BK131.out) hb); have n2_ := Aside0.mk (blk_below (g := gb135) (o := .cells #[.int .u32 167772164, .int .i64 30, .slice Ao52 y132.length co52, .int .i64 1, .int .i64 1, .int .i64 1, .int .i64 1] 27 (0, 0)) (by (with_reducible repeat (first | refine blk_drewN ?_ _ | refine blk_drew ?_ | refine blk_alloc ?_ _)); exact BK135.out) hb); have n3_ := Aside0.mk (below_step (by repeat (first | (with_reducible first | exact HB.out | apply below_alloc | apply pw_below_drewN | apply below_drew1 | refine below_set ?_ GE131.out | refine below_set ?_ GE135.out) | exact HB.out)) hb); clear HO134; clear BK131; clear BK135; clear HB; have HO134 := n0_; have BK131 := n1_; have BK135 := n2_; have HB := n3_; clear n0_ n1_ n2_ n3_; (try clear hb); (try clear hb2); (try clear hk); (try clear hi); have hcz74_0 : w73.cell? ⟨gb135, 0, none⟩ = some (.int .u32 167772164) := (blk_cell BK135.out 0).trans rfl; have hcz74_1 : w73.cell? ⟨gb135, 1, none⟩ = some (.int .i64 30) := (blk_cell BK135.out 1).trans rfl; have hcz74_2 : w73.cell? ⟨gb135, 2, none⟩ = some (.slice Ao52 y132.length co52) := (blk_cell BK135.out 2).trans rfl; have hcz74_3 : w73.cell? ⟨gb135, 3, none⟩ = some (.int .i64 1) := (blk_cell BK135.out 3).trans rfl; have hcz74_4 : w73.cell? ⟨gb135, 4, none⟩ = some (.int .i64 1) := (blk_cell BK135.out 4).trans rfl; have hcz74_5 : w73.cell? ⟨gb135, 5, none⟩ = some (.int .i64 1) := (blk_cell BK135.out 5).trans rfl; have hcz74_6 : w73.cell? ⟨gb135, 6, none⟩ = some (.int .i64 1) := (blk_cell BK135.out 6).trans rfl; have hfz74_0 := blk_frozen BK135.out 0; have hfz74_1 := blk_frozen BK135.out 1; have hfz74_2 := blk_frozen BK135.out 2; have hfz74_3 := blk_frozen BK135.out 3; have hfz74_4 := blk_frozen BK135.out 4; have hfz74_5 := blk_frozen BK135.out 5; have hfz74_6 := blk_frozen BK135.out 6) | (go_at_call 25; (with_reducible refine (block_May.calls k 167772164 30 _ _ y132 1 1 1 1 true _ ?side1 ?side2 A45.out).mono ?_); (case side1 => repeat (first | exact (Kd.R_reads' HO134.out).2.2 | (with_reducible refine Kd.C_alloc ?_ _) | (with_reducible refine Kd.C_drewN ?_ _) | (with_reducible refine Kd.C_drew ?_))); (case side2 => exact (Kd.R_reads' HO134.out).2.1); rintro e w75 ⟨rfl, hb⟩; have n0_ := Aside0.mk (Kd.R_below (by (with_reducible repeat (first | apply Kd.R_alloc | apply Kd.R_drewN | apply Kd.R_drew)); exact HO134.out) hb); have n1_ := Aside0.mk (blk_below (g := gb131) (o := .cells #[.int .u32 167772164, .int .i64 30] 24 (0, 0)) (by (with_reducible repeat (first | refine blk_drewN ?_ _ | refine blk_drew ?_ | refine blk_alloc ?_ _)); exact BK131.out) hb); have n2_ := Aside0.mk (blk_below (g := gb135) (o := .cells #[.int .u32 167772164, .int .i64 30, .slice Ao52 y132.length co52, .int .i64 1, .int .i64 1, .int .i64 1, .int .i64 1] 27 (0, 0)) (by (with_reducible repeat (first | refine blk_drewN ?_ _ | refine blk_drew ?_ | refine blk_alloc ?_ _)); exact BK135.out) hb); have n3_ := Aside0.mk (below_step (by repeat (first | (with_reducible first | exact HB.out | apply below_alloc | apply pw_below_drewN | apply below_drew1 | refine below_set ?_ GE131.out | refine below_set ?_ GE135.out) | exact HB.out)) hb); clear HO134; clear BK131; clear BK135; clear HB; have HO134 := n0_; have BK131 := n1_; have BK135 := n2_; have HB := n3_; clear n0_ n1_ n2_ n3_; (try clear hb); (try clear hb2); (try clear hk); (try clear hi)) | (go_at_call 25; (refine (block_May.calls k 0 0 _ _ ([] : List Int) 0 0 0 0 t150 _ ?side1 ?side2 A47.out).mono ?_); (case side1 => exact Kd.C_nil _ _); (case side2 => exact Nat.le_refl _); rintro e w76 ⟨rfl, hb⟩; have n0_ := Aside0.mk (Kd.R_below (by (with_reducible repeat (first | apply Kd.R_alloc | apply Kd.R_drewN | apply Kd.R_drew)); exact HO134.out) hb); have n1_ := Aside0.mk (blk_below (g := gb131) (o := .cells #[.int .u32 167772164, .int .i64 30] 24 (0, 0)) (by (with_reducible repeat (first | refine blk_drewN ?_ _ | refine blk_drew ?_ | refine blk_alloc ?_ _)); exact BK131.out) hb); have n2_ := Aside0.mk (blk_below (g := gb135) (o := .cells #[.int .u32 167772164, .int .i64 30, .slice Ao52 y132.length co52, .int .i64 1, .int .i64 1, .int .i64 1, .int .i64 1] 27 (0, 0)) (by (with_reducible repeat (first | refine blk_drewN ?_ _ | refine blk_drew ?_ | refine blk_alloc ?_ _)); exact BK135.out) hb); have n3_ := Aside0.mk (below_step (by repeat (first | (with_reducible first | exact HB.out | apply below_alloc | apply pw_below_drewN | apply below_drew1 | refine below_set ?_ GE131.out | refine below_set ?_ GE135.out) | exact HB.out)) hb); clear HO134; clear BK131; clear BK135; clear HB; have HO134 := n0_; have BK131 := n1_; have BK135 := n2_; have HB := n3_; clear n0_ n1_ n2_ n3_; (try clear hb); (try clear hb2); (try clear hk); (try clear hi)))
                            go_ret
                            exact ⟨by first | rfl | (simp [errW_none, errW_some] <;> rfl) | (simp [*, errW_none, errW_some] <;> rfl), by repeat (first | (with_reducible first | exact HB.out | apply below_alloc | apply pw_below_drewN | apply below_drew1 | refine below_set ?_ GE131.out | refine below_set ?_ GE135.out) | exact HB.out)⟩
                        · replace c46 := Bool.eq_false_iff.mpr c46
                          subst c46
                          have H1 : (some false) = some r := by rw [if_neg (show ¬ (false = true) by decide)] at H; exact H
                          rw [hr_.out] at H1
                          exact absurd (Option.some.inj H1) (by decide)
                      · rw [if_neg c44] at H
                        rw [hr_.out] at H
                        exact absurd (Option.some.inj H) (by decide)
                  · replace c16 := Bool.eq_false_iff.mpr c16
                    subst c16
                    have H1 : (some false) = some r := by rw [if_neg (show ¬ (false = true) by decide)] at H; exact H
                    rw [hr_.out] at H1
                    exact absurd (Option.some.inj H1) (by decide)
                · rw [if_neg c14] at H
                  rw [hr_.out] at H
                  exact absurd (Option.some.inj H) (by decide)
              · rw [if_neg c12] at H
                rw [hr_.out] at H
                exact absurd (Option.some.inj H) (by decide)
            · rw [if_neg c10] at H
              rw [hr_.out] at H
              exact absurd (Option.some.inj H) (by decide)
          · rw [if_neg c9] at H
            rw [hr_.out] at H
            exact absurd (Option.some.inj H) (by decide)
        · rw [if_neg c8] at H
          rw [hr_.out] at H
          exact absurd (Option.some.inj H) (by decide)
      · rw [if_neg c7] at H
        rw [hr_.out] at H
        exact absurd (Option.some.inj H) (by decide)
    · rw [if_neg c6] at H
      rw [hr_.out] at H
      exact absurd (Option.some.inj H) (by decide)
  · rw [if_neg c5] at H
    rw [hr_.out] at H
    exact absurd (Option.some.inj H) (by decide)

/-! ### lodgerref04_Many: function 45 -/
def lodgerref04_Many.l0 : Nat → Int → Int → Option (Int)
  | 0, _, _ => none
  | k + 1, x3, x4 => if x4 < 32 then (lodgerref04_Many.l0 k (wrap64 (2 * x3)) (wrap64 (x4 + 1))) else (some x3)
def lodgerref04_Many.f (k : Nat) (a0 : Int) : Option (Int) := lodgerref04_Many.l0 k 1 a0
theorem lodgerref04_Many.mono_l : ∀ k, (∀ y0 y1, LeO (lodgerref04_Many.l0 k y0 y1) (lodgerref04_Many.l0 (k + 1) y0 y1))
  | 0 => fun _ _ r h => by simp [lodgerref04_Many.l0] at h
  | k + 1 => by
    have ih0 := lodgerref04_Many.mono_l k
    · intro y0 y1
      unfold lodgerref04_Many.l0
      repeat' first
      | (with_reducible exact ih0 _ _)
      | (with_reducible exact LeO.refl _)
      | (with_reducible exact LeO.none _)
      | (with_reducible refine LeO.ite ?_ ?_)
      | (with_reducible refine LeO.bind ?_ (fun _ => ?_))
      | exact ih0 _ _
      | exact LeO.none _
      | refine LeO.ite ?_ ?_
      | refine LeO.bind ?_ (fun _ => ?_)
theorem lodgerref04_Many.mono : ∀ a0 k, LeO (lodgerref04_Many.f k a0) (lodgerref04_Many.f (k + 1) a0) := by
  intro a0 k
  have ih0 := lodgerref04_Many.mono_l k
  unfold lodgerref04_Many.f
  repeat' first
      | (with_reducible exact ih0 _ _)
      | (with_reducible exact LeO.refl _)
      | (with_reducible exact LeO.none _)
      | (with_reducible refine LeO.ite ?_ ?_)
      | (with_reducible refine LeO.bind ?_ (fun _ => ?_))
      | exact ih0 _ _
      | exact LeO.none _
      | refine LeO.ite ?_ ?_
      | refine LeO.bind ?_ (fun _ => ?_)
set_option maxHeartbeats 8000000 in
set_option maxRecDepth 100000 in
theorem lodgerref04_Many.calls (k : Nat) (a0 : Int) (r : Int) (w : World) (h : lodgerref04_Many.f k a0 = some r) :
    Calls Try.prog 45 #[.int .i64 a0] w fun e w' => e = .returned (.int .i64 r) ∧ Drawn0 w w' := by
  have H : (lodgerref04_Many.l0 k 1 a0) = some r := h
  clear h
  have H' := Aside0.mk H
  clear H
  go_enter Try.func45, Try.ntmps45
  go_wp2
  go_loopg [3, 4] k (fun kq v3 v4 w' => ∃ (x3_1 : Int) (x4_1 : Int), v3 = .int .i64 x3_1 ∧ v4 = .int .i64 x4_1 ∧ Aside0 (lodgerref04_Many.l0 kq x3_1 x4_1 = some r) ∧ Aside0 (kq ≤ k) ∧ Drawn0 w w')
  case atStart => exact ⟨(1), (a0), (by first | rfl | (simp; done) | (simp [*]; done)), (by first | rfl | (simp; done) | (simp [*]; done)), H', ⟨Nat.le_refl _⟩, by repeat (first | exact Drawn0.refl _ | apply Drawn0.step)⟩
  case round =>
    clear H'
    obtain ⟨x3_1, x4_1, rfl, rfl, HA, HK1, ⟨m1, rfl⟩⟩ := hrel
    cases gk with
    | zero => exact absurd HA.out (by simp [lodgerref04_Many.l0])
    | succ k1 =>
      have H := HA.out
      clear HA
      simp only [lodgerref04_Many.l0] at H
      by_cases c2 : x4_1 < 32
      · rw [if_pos c2] at H
        have c2b0 : decide (x4_1 < 32) = true := decide_eq_true c2
        clear c2
        have H' := Aside0.mk H
        clear H
        go_wp2
        go_roundg k1
        case measure => have := HK1.out; omega
        case rel => exact ⟨(wrap64 (2 * x3_1)), (wrap64 (x4_1 + 1)), (by first | rfl | (simp; done) | (simp [*]; done)), (by first | rfl | (simp; done) | (simp [*]; done)), H', ⟨by have := HK1.out; omega⟩, by repeat (first | exact Drawn0.refl _ | apply Drawn0.step)⟩
      · rw [if_neg c2] at H
        have c2b0 : decide (x4_1 < 32) = false := decide_eq_false c2
        clear c2
        obtain rfl := Option.some.inj H
        go_wp2
        go_ret
        exact ⟨by first | rfl | (simp; done) | (simp [*]; done), by repeat (first | exact Drawn0.refl _ | apply Drawn0.step)⟩

/-! ### lodgerref04_May: function 37 -/
def lodgerref04_May.f (k : Nat) (a0_0 : Int) (a0_1 : Int) : Option (Bool) := if a0_1 ≥ 16 then (if a0_1 ≤ 32 then ((lodgerref04_Many.f k a0_1).bind fun t152 => (if t152 = 0 then (none) else (some ((Int.tmod (wrap64 (a0_0)) t152) == 0)))) else (some false)) else (some false)
theorem lodgerref04_May.mono : ∀ a0 a1 k, LeO (lodgerref04_May.f k a0 a1) (lodgerref04_May.f (k + 1) a0 a1) := by
  intro a0 a1 k
  unfold lodgerref04_May.f
  repeat' first
      | (with_reducible exact lodgerref04_Many.mono _ _)
      | (with_reducible exact LeO.refl _)
      | (with_reducible exact LeO.none _)
      | (with_reducible refine LeO.ite ?_ ?_)
      | (with_reducible refine LeO.bind ?_ (fun _ => ?_))
      | exact lodgerref04_Many.mono _ _
      | exact LeO.none _
      | refine LeO.ite ?_ ?_
      | refine LeO.bind ?_ (fun _ => ?_)
set_option maxHeartbeats 8000000 in
set_option maxRecDepth 100000 in
theorem lodgerref04_May.calls (k : Nat) (a0_0 : Int) (a0_1 : Int) (r : Bool) (w : World) (h : lodgerref04_May.f k a0_0 a0_1 = some r) :
    Calls Try.prog 37 #[.agg #[.int .u32 a0_0, .int .i64 a0_1]] w fun e w' => e = .returned (.bool r) ∧ Below w.heap.size w w' := by
  have hu24 := Try.underlying24
  have HB := Aside0.mk (Below.refl w.heap.size w)
  have H : (if a0_1 ≥ 16 then (if a0_1 ≤ 32 then ((lodgerref04_Many.f k a0_1).bind fun t152 => (if t152 = 0 then (none) else (some ((Int.tmod (wrap64 (a0_0)) t152) == 0)))) else (some false)) else (some false)) = some r := h
  clear h
  by_cases c2 : a0_1 ≥ 16
  · rw [if_pos c2] at H
    have c2b0 : decide (16 ≤ a0_1) = true := decide_eq_true c2
    clear c2
    by_cases c3 : a0_1 ≤ 32
    · rw [if_pos c3] at H
      have c3b0 : decide (a0_1 ≤ 32) = true := decide_eq_true c3
      clear c3
      replace H := Option.bind_eq_some_iff.mp H
      obtain ⟨t152, A40, H⟩ := H
      replace H : (if t152 = 0 then (none) else (some ((Int.tmod (wrap64 (a0_0)) t152) == 0))) = some r := H
      have A4 := Aside0.mk A40
      clear A40
      by_cases c5 : t152 = 0
      · rw [if_pos c5] at H
        exact absurd H (by simp)
      · rw [if_neg c5] at H
        have c5b0 : (t152 == 0) = false := beq_eq_false_iff_ne.mpr c5
        have c5b1 : (t152 != 0) = true := bne_iff_ne.mpr c5
        obtain rfl := Option.some.inj H
        go_enter Try.func37, Try.ntmps37
        go_wp2_with (first | ((with_reducible refine gate_dst (N := 1) rfl ?_); refine box_event ?hg (N := 1) ?hd (cs := #[.int .u32 a0_0, .int .i64 a0_1]) (t := 24) ?hr ?_; (case hd => rfl); (case hg => rfl); (case hr => first | (go_simp; done) | (go_simp; rfl)); intro gb151 hg w6 hbox hb; have n0_ := Aside0.mk (below_step (by repeat (first | (with_reducible first | exact HB.out | apply below_alloc | apply pw_below_drewN | apply below_drew1) | exact HB.out)) hb); have n1_ := Aside0.mk (hbox); have n2_ := Aside0.mk ((by rw [hg]; exact (below_size (by repeat (first | (with_reducible first | exact HB.out | apply below_alloc | apply pw_below_drewN | apply below_drew1) | exact HB.out))) : w.heap.size ≤ gb151)); have n3_ := Aside0.mk ((by rw [hg]; exact (below_size (by repeat (first | (with_reducible first | exact HB.out | apply below_alloc | apply pw_below_drewN | apply below_drew1) | exact HB.out))) : w.heap.size ≤ gb151)); clear HB; have HB := n0_; have BK151 := n1_; have GW151 := n2_; have GE151 := n3_; clear n0_ n1_ n2_ n3_; clear hb hbox hg; have hcz7_0 : w6.cell? ⟨gb151, 0, none⟩ = some (.int .u32 a0_0) := (blk_cell BK151.out 0).trans rfl; have hcz7_1 : w6.cell? ⟨gb151, 1, none⟩ = some (.int .i64 a0_1) := (blk_cell BK151.out 1).trans rfl; have hfz7_0 := blk_frozen BK151.out 0; have hfz7_1 := blk_frozen BK151.out 1) | (go_at_call 45; (with_reducible refine (lodgerref04_Many.calls k a0_1 t152 _ A4.out).mono ?_); rintro e w' ⟨rfl, ⟨nd, rfl⟩⟩; (try first | exact ⟨rfl, _, World.drewN_drewN _ _ _⟩ | exact ⟨rfl, _, Eq.trans (World.drewN_drewN _ _ _) (congrArg (World.drewN _) (Nat.add_assoc _ _ _))⟩)))
        repeat (go_quiet (first | ((with_reducible refine gate_dst (N := 1) rfl ?_); refine box_event ?hg (N := 1) ?hd (cs := #[.int .u32 a0_0, .int .i64 a0_1]) (t := 24) ?hr ?_; (case hd => rfl); (case hg => rfl); (case hr => first | (go_simp; done) | (go_simp; rfl)); intro gb151 hg w6 hbox hb; have n0_ := Aside0.mk (below_step (by repeat (first | (with_reducible first | exact HB.out | apply below_alloc | apply pw_below_drewN | apply below_drew1) | exact HB.out)) hb); have n1_ := Aside0.mk (hbox); have n2_ := Aside0.mk ((by rw [hg]; exact (below_size (by repeat (first | (with_reducible first | exact HB.out | apply below_alloc | apply pw_below_drewN | apply below_drew1) | exact HB.out))) : w.heap.size ≤ gb151)); have n3_ := Aside0.mk ((by rw [hg]; exact (below_size (by repeat (first | (with_reducible first | exact HB.out | apply below_alloc | apply pw_below_drewN | apply below_drew1) | exact HB.out))) : w.heap.size ≤ gb151)); clear HB; have HB := n0_; have BK151 := n1_; have GW151 := n2_; have GE151 := n3_; clear n0_ n1_ n2_ n3_; clear hb hbox hg; have hcz7_0 : w6.cell? ⟨gb151, 0, none⟩ = some (.int .u32 a0_0) := (blk_cell BK151.out 0).trans rfl; have hcz7_1 : w6.cell? ⟨gb151, 1, none⟩ = some (.int .i64 a0_1) := (blk_cell BK151.out 1).trans rfl; have hfz7_0 := blk_frozen BK151.out 0; have hfz7_1 := blk_frozen BK151.out 1) | (go_at_call 45; (with_reducible refine (lodgerref04_Many.calls k a0_1 t152 _ A4.out).mono ?_); rintro e w' ⟨rfl, ⟨nd, rfl⟩⟩; (try first | exact ⟨rfl, _, World.drewN_drewN _ _ _⟩ | exact ⟨rfl, _, Eq.trans (World.drewN_drewN _ _ _) (congrArg (World.drewN _) (Nat.add_assoc _ _ _))⟩))); try go_wp2_with (first | ((with_reducible refine gate_dst (N := 1) rfl ?_); refine box_event ?hg (N := 1) ?hd (cs := #[.int .u32 a0_0, .int .i64 a0_1]) (t := 24) ?hr ?_; (case hd => rfl); (case hg => rfl); (case hr => first | (go_simp; done) | (go_simp; rfl)); intro gb151 hg w6 hbox hb; have n0_ := Aside0.mk (below_step (by repeat (first | (with_reducible first | exact HB.out | apply below_alloc | apply pw_below_drewN | apply below_drew1) | exact HB.out)) hb); have n1_ := Aside0.mk (hbox); have n2_ := Aside0.mk ((by rw [hg]; exact (below_size (by repeat (first | (with_reducible first | exact HB.out | apply below_alloc | apply pw_below_drewN | apply below_drew1) | exact HB.out))) : w.heap.size ≤ gb151)); have n3_ := Aside0.mk ((by rw [hg]; exact (below_size (by repeat (first | (with_reducible first | exact HB.out | apply below_alloc | apply pw_below_drewN | apply below_drew1) | exact HB.out))) : w.heap.size ≤ gb151)); clear HB; have HB := n0_; have BK151 := n1_; have GW151 := n2_; have GE151 := n3_; clear n0_ n1_ n2_ n3_; clear hb hbox hg; have hcz7_0 : w6.cell? ⟨gb151, 0, none⟩ = some (.int .u32 a0_0) := (blk_cell BK151.out 0).trans rfl; have hcz7_1 : w6.cell? ⟨gb151, 1, none⟩ = some (.int .i64 a0_1) := (blk_cell BK151.out 1).trans rfl; have hfz7_0 := blk_frozen BK151.out 0; have hfz7_1 := blk_frozen BK151.out 1) | (go_at_call 45; (with_reducible refine (lodgerref04_Many.calls k a0_1 t152 _ A4.out).mono ?_); rintro e w' ⟨rfl, ⟨nd, rfl⟩⟩; (try first | exact ⟨rfl, _, World.drewN_drewN _ _ _⟩ | exact ⟨rfl, _, Eq.trans (World.drewN_drewN _ _ _) (congrArg (World.drewN _) (Nat.add_assoc _ _ _))⟩))))
        go_ret
        exact ⟨by first | rfl | (simp [errW_none, errW_some] <;> rfl) | (simp [*, errW_none, errW_some] <;> rfl), by repeat (first | (with_reducible first | exact HB.out | apply below_alloc | apply pw_below_drewN | apply below_drew1 | refine below_set ?_ GE151.out) | exact HB.out)⟩
    · rw [if_neg c3] at H
      have c3b0 : decide (a0_1 ≤ 32) = false := decide_eq_false c3
      clear c3
      obtain rfl := Option.some.inj H
      go_enter Try.func37, Try.ntmps37
      go_wp2_with (first | ((with_reducible refine gate_dst (N := 1) rfl ?_); refine box_event ?hg (N := 1) ?hd (cs := #[.int .u32 a0_0, .int .i64 a0_1]) (t := 24) ?hr ?_; (case hd => rfl); (case hg => rfl); (case hr => first | (go_simp; done) | (go_simp; rfl)); intro gb151 hg w8 hbox hb; have n0_ := Aside0.mk (below_step (by repeat (first | (with_reducible first | exact HB.out | apply below_alloc | apply pw_below_drewN | apply below_drew1) | exact HB.out)) hb); have n1_ := Aside0.mk (hbox); have n2_ := Aside0.mk ((by rw [hg]; exact (below_size (by repeat (first | (with_reducible first | exact HB.out | apply below_alloc | apply pw_below_drewN | apply below_drew1) | exact HB.out))) : w.heap.size ≤ gb151)); have n3_ := Aside0.mk ((by rw [hg]; exact (below_size (by repeat (first | (with_reducible first | exact HB.out | apply below_alloc | apply pw_below_drewN | apply below_drew1) | exact HB.out))) : w.heap.size ≤ gb151)); clear HB; have HB := n0_; have BK151 := n1_; have GW151 := n2_; have GE151 := n3_; clear n0_ n1_ n2_ n3_; clear hb hbox hg; have hcz9_0 : w8.cell? ⟨gb151, 0, none⟩ = some (.int .u32 a0_0) := (blk_cell BK151.out 0).trans rfl; have hcz9_1 : w8.cell? ⟨gb151, 1, none⟩ = some (.int .i64 a0_1) := (blk_cell BK151.out 1).trans rfl; have hfz9_0 := blk_frozen BK151.out 0; have hfz9_1 := blk_frozen BK151.out 1))
      repeat (go_quiet (first | ((with_reducible refine gate_dst (N := 1) rfl ?_); refine box_event ?hg (N := 1) ?hd (cs := #[.int .u32 a0_0, .int .i64 a0_1]) (t := 24) ?hr ?_; (case hd => rfl); (case hg => rfl); (case hr => first | (go_simp; done) | (go_simp; rfl)); intro gb151 hg w8 hbox hb; have n0_ := Aside0.mk (below_step (by repeat (first | (with_reducible first | exact HB.out | apply below_alloc | apply pw_below_drewN | apply below_drew1) | exact HB.out)) hb); have n1_ := Aside0.mk (hbox); have n2_ := Aside0.mk ((by rw [hg]; exact (below_size (by repeat (first | (with_reducible first | exact HB.out | apply below_alloc | apply pw_below_drewN | apply below_drew1) | exact HB.out))) : w.heap.size ≤ gb151)); have n3_ := Aside0.mk ((by rw [hg]; exact (below_size (by repeat (first | (with_reducible first | exact HB.out | apply below_alloc | apply pw_below_drewN | apply below_drew1) | exact HB.out))) : w.heap.size ≤ gb151)); clear HB; have HB := n0_; have BK151 := n1_; have GW151 := n2_; have GE151 := n3_; clear n0_ n1_ n2_ n3_; clear hb hbox hg; have hcz9_0 : w8.cell? ⟨gb151, 0, none⟩ = some (.int .u32 a0_0) := (blk_cell BK151.out 0).trans rfl; have hcz9_1 : w8.cell? ⟨gb151, 1, none⟩ = some (.int .i64 a0_1) := (blk_cell BK151.out 1).trans rfl; have hfz9_0 := blk_frozen BK151.out 0; have hfz9_1 := blk_frozen BK151.out 1)); try go_wp2_with (first | ((with_reducible refine gate_dst (N := 1) rfl ?_); refine box_event ?hg (N := 1) ?hd (cs := #[.int .u32 a0_0, .int .i64 a0_1]) (t := 24) ?hr ?_; (case hd => rfl); (case hg => rfl); (case hr => first | (go_simp; done) | (go_simp; rfl)); intro gb151 hg w8 hbox hb; have n0_ := Aside0.mk (below_step (by repeat (first | (with_reducible first | exact HB.out | apply below_alloc | apply pw_below_drewN | apply below_drew1) | exact HB.out)) hb); have n1_ := Aside0.mk (hbox); have n2_ := Aside0.mk ((by rw [hg]; exact (below_size (by repeat (first | (with_reducible first | exact HB.out | apply below_alloc | apply pw_below_drewN | apply below_drew1) | exact HB.out))) : w.heap.size ≤ gb151)); have n3_ := Aside0.mk ((by rw [hg]; exact (below_size (by repeat (first | (with_reducible first | exact HB.out | apply below_alloc | apply pw_below_drewN | apply below_drew1) | exact HB.out))) : w.heap.size ≤ gb151)); clear HB; have HB := n0_; have BK151 := n1_; have GW151 := n2_; have GE151 := n3_; clear n0_ n1_ n2_ n3_; clear hb hbox hg; have hcz9_0 : w8.cell? ⟨gb151, 0, none⟩ = some (.int .u32 a0_0) := (blk_cell BK151.out 0).trans rfl; have hcz9_1 : w8.cell? ⟨gb151, 1, none⟩ = some (.int .i64 a0_1) := (blk_cell BK151.out 1).trans rfl; have hfz9_0 := blk_frozen BK151.out 0; have hfz9_1 := blk_frozen BK151.out 1)))
      go_ret
      exact ⟨by first | rfl | (simp [errW_none, errW_some] <;> rfl) | (simp [*, errW_none, errW_some] <;> rfl), by repeat (first | (with_reducible first | exact HB.out | apply below_alloc | apply pw_below_drewN | apply below_drew1 | refine below_set ?_ GE151.out) | exact HB.out)⟩
  · rw [if_neg c2] at H
    have c2b0 : decide (16 ≤ a0_1) = false := decide_eq_false c2
    clear c2
    obtain rfl := Option.some.inj H
    go_enter Try.func37, Try.ntmps37
    go_wp2_with (first | ((with_reducible refine gate_dst (N := 1) rfl ?_); refine box_event ?hg (N := 1) ?hd (cs := #[.int .u32 a0_0, .int .i64 a0_1]) (t := 24) ?hr ?_; (case hd => rfl); (case hg => rfl); (case hr => first | (go_simp; done) | (go_simp; rfl)); intro gb151 hg w10 hbox hb; have n0_ := Aside0.mk (below_step (by repeat (first | (with_reducible first | exact HB.out | apply below_alloc | apply pw_below_drewN | apply below_drew1) | exact HB.out)) hb); have n1_ := Aside0.mk (hbox); have n2_ := Aside0.mk ((by rw [hg]; exact (below_size (by repeat (first | (with_reducible first | exact HB.out | apply below_alloc | apply pw_below_drewN | apply below_drew1) | exact HB.out))) : w.heap.size ≤ gb151)); have n3_ := Aside0.mk ((by rw [hg]; exact (below_size (by repeat (first | (with_reducible first | exact HB.out | apply below_alloc | apply pw_below_drewN | apply below_drew1) | exact HB.out))) : w.heap.size ≤ gb151)); clear HB; have HB := n0_; have BK151 := n1_; have GW151 := n2_; have GE151 := n3_; clear n0_ n1_ n2_ n3_; clear hb hbox hg; have hcz11_0 : w10.cell? ⟨gb151, 0, none⟩ = some (.int .u32 a0_0) := (blk_cell BK151.out 0).trans rfl; have hcz11_1 : w10.cell? ⟨gb151, 1, none⟩ = some (.int .i64 a0_1) := (blk_cell BK151.out 1).trans rfl; have hfz11_0 := blk_frozen BK151.out 0; have hfz11_1 := blk_frozen BK151.out 1))
    repeat (go_quiet (first | ((with_reducible refine gate_dst (N := 1) rfl ?_); refine box_event ?hg (N := 1) ?hd (cs := #[.int .u32 a0_0, .int .i64 a0_1]) (t := 24) ?hr ?_; (case hd => rfl); (case hg => rfl); (case hr => first | (go_simp; done) | (go_simp; rfl)); intro gb151 hg w10 hbox hb; have n0_ := Aside0.mk (below_step (by repeat (first | (with_reducible first | exact HB.out | apply below_alloc | apply pw_below_drewN | apply below_drew1) | exact HB.out)) hb); have n1_ := Aside0.mk (hbox); have n2_ := Aside0.mk ((by rw [hg]; exact (below_size (by repeat (first | (with_reducible first | exact HB.out | apply below_alloc | apply pw_below_drewN | apply below_drew1) | exact HB.out))) : w.heap.size ≤ gb151)); have n3_ := Aside0.mk ((by rw [hg]; exact (below_size (by repeat (first | (with_reducible first | exact HB.out | apply below_alloc | apply pw_below_drewN | apply below_drew1) | exact HB.out))) : w.heap.size ≤ gb151)); clear HB; have HB := n0_; have BK151 := n1_; have GW151 := n2_; have GE151 := n3_; clear n0_ n1_ n2_ n3_; clear hb hbox hg; have hcz11_0 : w10.cell? ⟨gb151, 0, none⟩ = some (.int .u32 a0_0) := (blk_cell BK151.out 0).trans rfl; have hcz11_1 : w10.cell? ⟨gb151, 1, none⟩ = some (.int .i64 a0_1) := (blk_cell BK151.out 1).trans rfl; have hfz11_0 := blk_frozen BK151.out 0; have hfz11_1 := blk_frozen BK151.out 1)); try go_wp2_with (first | ((with_reducible refine gate_dst (N := 1) rfl ?_); refine box_event ?hg (N := 1) ?hd (cs := #[.int .u32 a0_0, .int .i64 a0_1]) (t := 24) ?hr ?_; (case hd => rfl); (case hg => rfl); (case hr => first | (go_simp; done) | (go_simp; rfl)); intro gb151 hg w10 hbox hb; have n0_ := Aside0.mk (below_step (by repeat (first | (with_reducible first | exact HB.out | apply below_alloc | apply pw_below_drewN | apply below_drew1) | exact HB.out)) hb); have n1_ := Aside0.mk (hbox); have n2_ := Aside0.mk ((by rw [hg]; exact (below_size (by repeat (first | (with_reducible first | exact HB.out | apply below_alloc | apply pw_below_drewN | apply below_drew1) | exact HB.out))) : w.heap.size ≤ gb151)); have n3_ := Aside0.mk ((by rw [hg]; exact (below_size (by repeat (first | (with_reducible first | exact HB.out | apply below_alloc | apply pw_below_drewN | apply below_drew1) | exact HB.out))) : w.heap.size ≤ gb151)); clear HB; have HB := n0_; have BK151 := n1_; have GW151 := n2_; have GE151 := n3_; clear n0_ n1_ n2_ n3_; clear hb hbox hg; have hcz11_0 : w10.cell? ⟨gb151, 0, none⟩ = some (.int .u32 a0_0) := (blk_cell BK151.out 0).trans rfl; have hcz11_1 : w10.cell? ⟨gb151, 1, none⟩ = some (.int .i64 a0_1) := (blk_cell BK151.out 1).trans rfl; have hfz11_0 := blk_frozen BK151.out 0; have hfz11_1 := blk_frozen BK151.out 1)))
    go_ret
    exact ⟨by first | rfl | (simp [errW_none, errW_some] <;> rfl) | (simp [*, errW_none, errW_some] <;> rfl), by repeat (first | (with_reducible first | exact HB.out | apply below_alloc | apply pw_below_drewN | apply below_drew1 | refine below_set ?_ GE151.out) | exact HB.out)⟩

end Go.Proofs.Ytibfbbeippamaaa.PBlockParts
