/- The walk of WordUsable, part of it: what the Go functions answer; no condition. -/
import Derived.Test.YtdbpdpdpabhfbaaQWordUsablex0
import Derived.Test.YtdbpdpdpabhfbaaQWordUsablex1
import Derived.Test.YtdbpdpdpabhfbaaQWordUsablex2
namespace Go.Proofs.Ytdbpdpdpabhfbaa.PWordUsable
open Go.RowKit Go.Proofs.YtdbpdpdpabhfbaaW.PrintWords Go.Proofs.YtdbpdpdpabhfbaaW.PrintLast Go.Proofs.YtdbpdpdpabhfbaaW.PrintMore
attribute [local go_sem] max2_int min2_int max_two min_two max_three min_three max_four min_four   -- for this text's walks alone
set_option linter.unusedVariables false
set_option linter.unusedSimpArgs false
theorem cell_put_drew {w : World} {a b : Addr} {v : Value} {x} (h : (w.setCell a v).cell? b = x) (m : Nat) : ((w.drewN m).setCell a v).cell? b = x := by
  rw [← h]; rfl
theorem frozen_put {w : World} {a b : Addr} {v : Value} {x} (h : (w.setCell a v).frozen? b = x) : w.frozen? b = x := by
  rw [← h]; simp

/-! ### word_Cells: function 26 -/
mutual
def word_Cells.l0 : Nat → Int → List Int → Int → Int → Int → Int → List Int → Int → Int → Int → Int → Option (List Int)
  | 0, _, _, _, _, _, _, _, _, _, _, _ => none
  | k + 1, x3, x4, x19, x20, x126000, x126001, x126002, x126003, x126004, x126005, x126006 => if x20 < x19 then ((place_Leaves.f x3).bind fun t132 => ((bits_Mask.f 64).bind fun t133 => (if 0 ≤ (wrap64 (t132 + x20)) then (if (wrap64 (t132 + x20)) < (x4.length : Int) then (word_Cells.l0 k x3 (x4.set ((wrap64 (t132 + x20)) : Int).toNat t133) x19 (wrap64 (x20 + 1)) x126000 x126001 x126002 x126003 x126004 x126005 x126006) else (none)) else (none)))) else ((place_Cells.f x3).bind fun t135 => ((bits_Mask.f 64).bind fun t136 => (if 0 ≤ (wrap64 (t135 - 1)) then (if (wrap64 (t135 - 1)) < (x4.length : Int) then ((place_Leaves.f x3).bind fun t138 => (word_Cells.l1 k x3 (x4.set ((wrap64 (t135 - 1)) : Int).toNat t136) (wrap64 (t135 - 1)) t138 0 x126000 x126001 x126002 x126003 x126004 x126005 x126006)) else (none)) else (none))))
def word_Cells.l1 : Nat → Int → List Int → Int → Int → Int → Int → Int → List Int → Int → Int → Int → Int → Option (List Int)
  | 0, _, _, _, _, _, _, _, _, _, _, _, _ => none
  | k + 1, x3, x4, x6, x39, x40, x126000, x126001, x126002, x126003, x126004, x126005, x126006 => if x40 < x39 then ((word_New.f k x126000 x126001 x126002 x126003 x126004 x126005 x126006 x40).bind fun t139 => (if 0 ≤ x40 then (if x40 < (x4.length : Int) then ((some (x4.set (x40 : Int).toNat t139 : List Int)).bind fun y140 => ((word_Full.f k (rd y140 x40)).bind fun t142 => (if t142 = true then (word_Cells.l1 k x3 y140 x6 x39 (wrap64 (x40 + 1)) x126000 x126001 x126002 x126003 x126004 x126005 x126006) else ((place_Top.f x3 x40).bind fun bt143 => ((place_Root.f x3 x40).bind fun bt145 => (if 0 ≤ bt143.1 then (if bt143.1 < (x4.length : Int) then ((bits_Clear.f (rd y140 bt143.1) bt143.2).bind fun t148 => (if 0 ≤ x6 then (if x6 < (x4.length : Int) then ((bits_Clear.f (rd y140 x6) bt145.2).bind fun t150 => (word_Cells.l1 k x3 ((y140.set (bt143.1 : Int).toNat t148).set (x6 : Int).toNat t150) x6 x39 (wrap64 (x40 + 1)) x126000 x126001 x126002 x126003 x126004 x126005 x126006)) else (none)) else (none))) else (none)) else (none))))))) else (none)) else (none))) else (some x4)
end
def word_Cells.f (k : Nat) (a0_0 : Int) (a0_1 : Int) (l0_2 : List Int) (a0_3 : Int) (a0_4 : Int) (a0_5 : Int) (a0_6 : Int) : Option (List Int) := (block_Many.f a0_0 a0_1).bind fun t126 => ((place_Cells.f t126).bind fun t127 => (if 0 ≤ t127 then (if (t127 : Int).toNat ≤ 35184372088832 then ((place_Tops.f t126).bind fun t131 => (word_Cells.l0 k t126 (List.replicate (t127 : Int).toNat 0) t131 0 a0_0 a0_1 l0_2 a0_3 a0_4 a0_5 a0_6)) else (none)) else (none)))
theorem word_Cells.mono_l : ∀ k, (∀ y0 y1 y2 y3 y4 y5 y6 y7 y8 y9 y10, LeO (word_Cells.l0 k y0 y1 y2 y3 y4 y5 y6 y7 y8 y9 y10) (word_Cells.l0 (k + 1) y0 y1 y2 y3 y4 y5 y6 y7 y8 y9 y10)) ∧ (∀ y0 y1 y2 y3 y4 y5 y6 y7 y8 y9 y10 y11, LeO (word_Cells.l1 k y0 y1 y2 y3 y4 y5 y6 y7 y8 y9 y10 y11) (word_Cells.l1 (k + 1) y0 y1 y2 y3 y4 y5 y6 y7 y8 y9 y10 y11))
  | 0 => ⟨fun _ _ _ _ _ _ _ _ _ _ _ r h => by simp [word_Cells.l0] at h, fun _ _ _ _ _ _ _ _ _ _ _ _ r h => by simp [word_Cells.l1] at h⟩
  | k + 1 => by
    obtain ⟨ih0, ih1⟩ := word_Cells.mono_l k
    refine ⟨?_, ?_⟩
    · intro y0 y1 y2 y3 y4 y5 y6 y7 y8 y9 y10
      unfold word_Cells.l0
      repeat' first
      | (with_reducible exact ih0 _ _ _ _ _ _ _ _ _ _ _)
      | (with_reducible exact ih1 _ _ _ _ _ _ _ _ _ _ _ _)
      | (with_reducible exact word_Full.mono _ _)
      | (with_reducible exact word_New.mono _ _ _ _ _ _ _ _ _)
      | (with_reducible exact LeO.refl _)
      | (with_reducible exact LeO.none _)
      | (with_reducible refine LeO.ite ?_ ?_)
      | (with_reducible refine LeO.bind ?_ (fun _ => ?_))
      | exact ih0 _ _ _ _ _ _ _ _ _ _ _
      | exact ih1 _ _ _ _ _ _ _ _ _ _ _ _
      | exact word_Full.mono _ _
      | exact word_New.mono _ _ _ _ _ _ _ _ _
      | exact LeO.none _
      | refine LeO.ite ?_ ?_
      | refine LeO.bind ?_ (fun _ => ?_)
    · intro y0 y1 y2 y3 y4 y5 y6 y7 y8 y9 y10 y11
      unfold word_Cells.l1
      repeat' first
      | (with_reducible exact ih0 _ _ _ _ _ _ _ _ _ _ _)
      | (with_reducible exact ih1 _ _ _ _ _ _ _ _ _ _ _ _)
      | (with_reducible exact word_Full.mono _ _)
      | (with_reducible exact word_New.mono _ _ _ _ _ _ _ _ _)
      | (with_reducible exact LeO.refl _)
      | (with_reducible exact LeO.none _)
      | (with_reducible refine LeO.ite ?_ ?_)
      | (with_reducible refine LeO.bind ?_ (fun _ => ?_))
      | exact ih0 _ _ _ _ _ _ _ _ _ _ _
      | exact ih1 _ _ _ _ _ _ _ _ _ _ _ _
      | exact word_Full.mono _ _
      | exact word_New.mono _ _ _ _ _ _ _ _ _
      | exact LeO.none _
      | refine LeO.ite ?_ ?_
      | refine LeO.bind ?_ (fun _ => ?_)
theorem word_Cells.mono : ∀ a0 a1 a2 a3 a4 a5 a6 k, LeO (word_Cells.f k a0 a1 a2 a3 a4 a5 a6) (word_Cells.f (k + 1) a0 a1 a2 a3 a4 a5 a6) := by
  intro a0 a1 a2 a3 a4 a5 a6 k
  obtain ⟨ih0, ih1⟩ := word_Cells.mono_l k
  unfold word_Cells.f
  repeat' first
      | (with_reducible exact ih0 _ _ _ _ _ _ _ _ _ _ _)
      | (with_reducible exact ih1 _ _ _ _ _ _ _ _ _ _ _ _)
      | (with_reducible exact word_Full.mono _ _)
      | (with_reducible exact word_New.mono _ _ _ _ _ _ _ _ _)
      | (with_reducible exact LeO.refl _)
      | (with_reducible exact LeO.none _)
      | (with_reducible refine LeO.ite ?_ ?_)
      | (with_reducible refine LeO.bind ?_ (fun _ => ?_))
      | exact ih0 _ _ _ _ _ _ _ _ _ _ _
      | exact ih1 _ _ _ _ _ _ _ _ _ _ _ _
      | exact word_Full.mono _ _
      | exact word_New.mono _ _ _ _ _ _ _ _ _
      | exact LeO.none _
      | refine LeO.ite ?_ ?_
      | refine LeO.bind ?_ (fun _ => ?_)
def word_Cells.T17 : Bool × List (List Nat × List Nat) := (true, [([], []), ([], []), ([], []), ([], []), ([], []), ([], []), ([4, 5], [4, 5]), ([6], [6]), ([], []), ([7, 8], [7, 8]), ([], []), ([], []), ([10, 11], [10, 11]), ([12], [12]), ([], []), ([13, 14, 9], [13, 14]), ([0, 1, 0, 1, 4, 5, 6, 7, 8, 9, 13, 15], [0, 1]), ([16, 9, 15, 0, 1, 4, 5, 6, 7, 8, 9, 13, 15], [9, 16]), ([2, 3, 0, 1, 2, 3, 4, 5, 6, 7, 8, 9, 10, 11, 12, 13, 14, 15, 16, 17], [2, 3]), ([18, 15, 17, 0, 1, 2, 3, 4, 5, 6, 7, 8, 9, 10, 11, 12, 13, 14, 15, 16, 17], [15, 18])])
def word_Cells.B17 : List Nat := [0, 0, 0, 0, 0, 0, 48, 112, 0, 496, 0, 0, 3072, 7168, 0, 32752, 65523, 131059, 262143, 524287]
theorem word_Cells.tab17 : rtab .any (opsOf Try.f26 17) = word_Cells.T17 := by kernel_rfl
theorem word_Cells.bits17 : waitsOk word_Cells.T17.2 word_Cells.B17 = true := by kernel_rfl
set_option maxHeartbeats 8000000 in
set_option maxRecDepth 100000 in
theorem word_Cells.calls (k : Nat) (a0_0 : Int) (a0_1 : Int) (A0_2 : Option Addr) (c0_2 : Nat) (l0_2 : List Int) (a0_3 : Int) (a0_4 : Int) (a0_5 : Int) (a0_6 : Int) (r : List Int) (w : World) (hr0_2 : Kd.C (Kd.int .i64) w A0_2 l0_2.length l0_2) (hc0_2 : l0_2.length ≤ c0_2) (h : word_Cells.f k a0_0 a0_1 l0_2 a0_3 a0_4 a0_5 a0_6 = some r) :
    Calls Try.prog 26 #[.agg #[.int .u32 a0_0, .int .i64 a0_1, .slice A0_2 l0_2.length c0_2, .int .i64 a0_3, .int .i64 a0_4, .int .i64 a0_5, .int .i64 a0_6]] w fun e w' => ∃ v0_ : Value, e = .returned (v0_) ∧ Kd.R (Kd.int .u64) 22 w' w.heap.size (fun _ => True) v0_ r ∧ Below w.heap.size w w' := by
  have hu36 := Try.underlying36
  have hu33 := Try.underlying33
  have HR0_2 := Aside0.mk hr0_2
  have HC0_2 := Aside0.mk hc0_2
  clear hr0_2 hc0_2
  have HB := Aside0.mk (Below.refl w.heap.size w)
  have H : ((block_Many.f a0_0 a0_1).bind fun t126 => ((place_Cells.f t126).bind fun t127 => (if 0 ≤ t127 then (if (t127 : Int).toNat ≤ 35184372088832 then ((place_Tops.f t126).bind fun t131 => (word_Cells.l0 k t126 (List.replicate (t127 : Int).toNat 0) t131 0 a0_0 a0_1 l0_2 a0_3 a0_4 a0_5 a0_6)) else (none)) else (none)))) = some r := h
  clear h
  replace H := Option.bind_eq_some_iff.mp H
  obtain ⟨t126, A20, H⟩ := H
  replace H : ((place_Cells.f t126).bind fun t127 => (if 0 ≤ t127 then (if (t127 : Int).toNat ≤ 35184372088832 then ((place_Tops.f t126).bind fun t131 => (word_Cells.l0 k t126 (List.replicate (t127 : Int).toNat 0) t131 0 a0_0 a0_1 l0_2 a0_3 a0_4 a0_5 a0_6)) else (none)) else (none))) = some r := H
  have A2 := Aside0.mk A20
  clear A20
  replace H := Option.bind_eq_some_iff.mp H
  obtain ⟨t127, A30, H⟩ := H
  replace H : (if 0 ≤ t127 then (if (t127 : Int).toNat ≤ 35184372088832 then ((place_Tops.f t126).bind fun t131 => (word_Cells.l0 k t126 (List.replicate (t127 : Int).toNat 0) t131 0 a0_0 a0_1 l0_2 a0_3 a0_4 a0_5 a0_6)) else (none)) else (none)) = some r := H
  have A3 := Aside0.mk A30
  clear A30
  by_cases c4 : 0 ≤ t127
  · rw [if_pos c4] at H
    have c4b0 := eq_true c4
    have c4b1 : decide (0 ≤ t127) = true := decide_eq_true c4
    clear c4
    by_cases c5 : (t127 : Int).toNat ≤ 35184372088832
    · rw [if_pos c5] at H
      have c5b0 := eq_true c5
      have c5b1 : decide ((t127 : Int).toNat ≤ 35184372088832) = true := decide_eq_true c5
      clear c5
      obtain ⟨y128, hy128⟩ : ∃ y_ : List Int, y_ = (List.replicate (t127 : Int).toNat 0) := ⟨_, rfl⟩
      replace H : ((place_Tops.f t126).bind fun t131 => (word_Cells.l0 k t126 y128 t131 0 a0_0 a0_1 l0_2 a0_3 a0_4 a0_5 a0_6)) = some r := by first | (rw [hy128]; with_reducible exact H) | (have H2_ := (Option.bind_some _ _).symm.trans H; rw [hy128]; with_reducible exact H2_) | (have H2_ := (Option.bind_some _ _).symm.trans H; with_reducible exact H2_) | with_reducible exact H | (rw [hy128]; exact H) | exact H
      have Ny128 := Aside0.mk hy128
      clear hy128
      replace H := Option.bind_eq_some_iff.mp H
      obtain ⟨t131, A60, H⟩ := H
      replace H : (word_Cells.l0 k t126 y128 t131 0 a0_0 a0_1 l0_2 a0_3 a0_4 a0_5 a0_6) = some r := H
      have A6 := Aside0.mk A60
      clear A60
      have H' := Aside0.mk H
      clear H
      go_enter Try.func26, Try.ntmps26
      go_wp2_with (first | ((with_reducible refine gate_dst (N := 1) rfl ?_); refine box_event ?hg (N := 1) ?hd (cs := #[.int .u32 a0_0, .int .i64 a0_1, .slice A0_2 l0_2.length c0_2, .int .i64 a0_3, .int .i64 a0_4, .int .i64 a0_5, .int .i64 a0_6]) (t := 36) ?hr ?_; (case hd => rfl); (case hg => rfl); (case hr => first | (go_simp; done) | (go_simp; rfl)); intro gb125 hg w7 hbox hb; have n0_ := Aside0.mk (below_step (by repeat (first | (with_reducible first | exact HB.out | apply below_alloc | apply pw_below_drewN | apply below_drew1) | exact HB.out)) hb); have n1_ := Aside0.mk (hbox); have n2_ := Aside0.mk ((by rw [hg]; exact (below_size (by repeat (first | (with_reducible first | exact HB.out | apply below_alloc | apply pw_below_drewN | apply below_drew1) | exact HB.out))) : w.heap.size ≤ gb125)); have n3_ := Aside0.mk ((by rw [hg]; exact (below_size (by repeat (first | (with_reducible first | exact HB.out | apply below_alloc | apply pw_below_drewN | apply below_drew1) | exact HB.out))) : w.heap.size ≤ gb125)); clear HB; have HB := n0_; have BK125 := n1_; have GW125 := n2_; have GE125 := n3_; clear n0_ n1_ n2_ n3_; clear hb hbox hg; have hcz8_0 : w7.cell? ⟨gb125, 0, none⟩ = some (.int .u32 a0_0) := (blk_cell BK125.out 0).trans rfl; have hcz8_1 : w7.cell? ⟨gb125, 1, none⟩ = some (.int .i64 a0_1) := (blk_cell BK125.out 1).trans rfl; have hcz8_2 : w7.cell? ⟨gb125, 2, none⟩ = some (.slice A0_2 l0_2.length c0_2) := (blk_cell BK125.out 2).trans rfl; have hcz8_3 : w7.cell? ⟨gb125, 3, none⟩ = some (.int .i64 a0_3) := (blk_cell BK125.out 3).trans rfl; have hcz8_4 : w7.cell? ⟨gb125, 4, none⟩ = some (.int .i64 a0_4) := (blk_cell BK125.out 4).trans rfl; have hcz8_5 : w7.cell? ⟨gb125, 5, none⟩ = some (.int .i64 a0_5) := (blk_cell BK125.out 5).trans rfl; have hcz8_6 : w7.cell? ⟨gb125, 6, none⟩ = some (.int .i64 a0_6) := (blk_cell BK125.out 6).trans rfl; have hfz8_0 := blk_frozen BK125.out 0; have hfz8_1 := blk_frozen BK125.out 1; have hfz8_2 := blk_frozen BK125.out 2; have hfz8_3 := blk_frozen BK125.out 3; have hfz8_4 := blk_frozen BK125.out 4; have hfz8_5 := blk_frozen BK125.out 5; have hfz8_6 := blk_frozen BK125.out 6) | ((with_reducible refine gate_callee (f := 45) rfl ?_); refine goesL_ (some 14) rfl rfl Try.func45 (by kernel_rfl) rfl #[.agg #[.int .u32 a0_0, .int .i64 a0_1]] rfl (by (try simp only [List.map_toArray, List.map_cons, List.map_nil]); first | done | rfl | (simp only [List.length_drop, List.length_take]; rfl)) ?_; (with_reducible refine (block_Many.calls a0_0 a0_1 t126 _ A2.out).mono ?_); rintro e w9 ⟨rfl, hb⟩; refine ⟨_, rfl, ?_⟩; have n0_ := Aside0.mk (blk_below (g := gb125) (o := .cells #[.int .u32 a0_0, .int .i64 a0_1, .slice A0_2 l0_2.length c0_2, .int .i64 a0_3, .int .i64 a0_4, .int .i64 a0_5, .int .i64 a0_6] 36 (0, 0)) (by (with_reducible repeat (first | refine blk_drewN ?_ _ | refine blk_drew ?_ | refine blk_alloc ?_ _)); exact BK125.out) hb); have n1_ := Aside0.mk (below_step (by repeat (first | (with_reducible first | exact HB.out | apply below_alloc | apply pw_below_drewN | apply below_drew1 | refine below_set ?_ GE125.out) | exact HB.out)) hb); clear BK125; clear HB; have BK125 := n0_; have HB := n1_; clear n0_ n1_; (try clear hb); (try clear hb2); (try clear hk); (try clear hi)) | ((with_reducible refine gate_callee (f := 48) rfl ?_); refine goesL_ (some 16) rfl rfl Try.func48 (by kernel_rfl) rfl #[.int .i64 t126] rfl (by (try simp only [List.map_toArray, List.map_cons, List.map_nil]); first | done | rfl | (simp only [List.length_drop, List.length_take]; rfl)) ?_; (with_reducible refine (place_Cells.calls t126 t127 _ A3.out).mono ?_); rintro e w' ⟨rfl, ⟨nd, rfl⟩⟩; refine ⟨_, rfl, ?_⟩) | ((with_reducible refine gate_dst (N := 17) rfl ?_); refine Kd.R_make (Kd.int .u64) _ 22 rfl (N := 17) rfl 43 _ _ rfl t127 rfl rfl Try.underlying43 (.int .u64 0) 8 info22 rfl (by decide) (by omega) 0 (ok := fun _ => True) (okp := fun _ => True) rfl (fun _ hk => hk) trivial (of_decide_eq_true (by first | (with_reducible assumption) | assumption)) (Nat.le_trans (Nat.mul_le_mul_right _ (of_decide_eq_true (by first | (with_reducible assumption) | assumption) : t127.toNat ≤ 35184372088832)) (by omega)) (Below.refl _ _) (Nat.le_refl _) ?_; intro v129 w10 ho11 hb hg_ hnew_; clear hg_ hnew_; (first | rw [← Ny128.out] at ho11 | (simp only [Int.reduceToNat] at ho11; rw [← Ny128.out] at ho11)); have n0_ := Aside0.mk (Kd.R_lower ho11 (below_size (by repeat (first | (with_reducible first | exact HB.out | apply below_alloc | apply pw_below_drewN | apply below_drew1 | refine below_set ?_ GE125.out) | exact HB.out)))); have n1_ := Aside0.mk (blk_below (g := gb125) (o := .cells #[.int .u32 a0_0, .int .i64 a0_1, .slice A0_2 l0_2.length c0_2, .int .i64 a0_3, .int .i64 a0_4, .int .i64 a0_5, .int .i64 a0_6] 36 (0, 0)) (by (with_reducible repeat (first | refine blk_drewN ?_ _ | refine blk_drew ?_ | refine blk_alloc ?_ _)); exact BK125.out) hb); have n2_ := Aside0.mk (below_step (by repeat (first | (with_reducible first | exact HB.out | apply below_alloc | apply pw_below_drewN | apply below_drew1 | refine below_set ?_ GE125.out) | exact HB.out)) hb); clear BK125; clear HB; have HO130 := n0_; have BK125 := n1_; have HB := n2_; clear n0_ n1_ n2_; clear hb ho11) | ((with_reducible refine gate_callee (f := 49) rfl ?_); refine goesL_ (some 19) rfl rfl Try.func49 (by kernel_rfl) rfl #[.int .i64 t126] rfl (by (try simp only [List.map_toArray, List.map_cons, List.map_nil]); first | done | rfl | (simp only [List.length_drop, List.length_take]; rfl)) ?_; (with_reducible refine (place_Tops.calls t126 t131 _ A6.out).mono ?_); rintro e w' ⟨rfl, ⟨nd, rfl⟩⟩; refine ⟨_, rfl, ?_⟩) | (go_at_call 45; (with_reducible refine (place_Cells.calls t126 t127 _ A3.out).mono ?_); rintro e w' ⟨rfl, ⟨nd, rfl⟩⟩) | (go_at_call 49; (with_reducible refine (place_Tops.calls t126 t131 _ A6.out).mono ?_); rintro e w' ⟨rfl, ⟨nd, rfl⟩⟩))
      go_loopg [20] k (fun kq v20 w' => ∃ (x4_1 : List Int) (x20_1 : Int), v20 = .int .i64 x20_1 ∧ Aside0 (word_Cells.l0 kq t126 x4_1 t131 x20_1 a0_0 a0_1 l0_2 a0_3 a0_4 a0_5 a0_6 = some r) ∧ Aside0 (kq ≤ k) ∧ Aside0 (Kd.R (Kd.int .u64) 22 w' w.heap.size (fun _ => True) v129 x4_1) ∧ Aside0 (w'.heap[gb125]? = some (.cells #[.int .u32 a0_0, .int .i64 a0_1, (.slice A0_2 l0_2.length c0_2), .int .i64 a0_3, .int .i64 a0_4, .int .i64 a0_5, .int .i64 a0_6] 36 (0, 0))) ∧ Aside0 (Below w.heap.size w w'))
      case atStart => exact ⟨(y128), (0), (by first | rfl | (simp; done) | (simp [*]; done)), H', ⟨Nat.le_refl _⟩, ⟨by (with_reducible repeat (first | apply Kd.R_alloc | apply Kd.R_drewN | apply Kd.R_drew)); exact HO130.out⟩, ⟨by (with_reducible repeat (first | refine blk_drewN ?_ _ | refine blk_drew ?_ | refine blk_alloc ?_ _)); exact BK125.out⟩, ⟨by repeat (first | (with_reducible first | exact HB.out | apply below_alloc | apply pw_below_drewN | apply below_drew1 | refine below_set ?_ GE125.out) | exact HB.out)⟩⟩
      case round =>
        clear H'
        try clear c2
        try clear p2
        try clear c4
        try clear c4b0
        try clear c4b1
        try clear c5
        try clear c5b0
        try clear c5b1
        try clear hcz8_0
        try clear hcz8_1
        try clear hcz8_2
        try clear hcz8_3
        try clear hcz8_4
        try clear hcz8_5
        try clear hcz8_6
        try clear hfz8_0
        try clear hfz8_1
        try clear hfz8_2
        try clear hfz8_3
        try clear hfz8_4
        try clear hfz8_5
        try clear hfz8_6
        obtain ⟨x4_1, x20_1, rfl, HA, HK1, HO_4, BK125, HB⟩ := hrel
        cases gk with
        | zero => exact absurd HA.out (by simp [word_Cells.l0])
        | succ k1 =>
          have H := HA.out
          clear HA
          simp only [word_Cells.l0] at H
          by_cases c12 : x20_1 < t131
          · rw [if_pos c12] at H
            have c12b0 : decide (x20_1 < t131) = true := decide_eq_true c12
            clear c12
            replace H := Option.bind_eq_some_iff.mp H
            obtain ⟨t132, A130, H⟩ := H
            replace H : ((bits_Mask.f 64).bind fun t133 => (if 0 ≤ (wrap64 (t132 + x20_1)) then (if (wrap64 (t132 + x20_1)) < (x4_1.length : Int) then (word_Cells.l0 k1 t126 (x4_1.set ((wrap64 (t132 + x20_1)) : Int).toNat t133) t131 (wrap64 (x20_1 + 1)) a0_0 a0_1 l0_2 a0_3 a0_4 a0_5 a0_6) else (none)) else (none))) = some r := H
            have A13 := Aside0.mk A130
            clear A130
            replace H := Option.bind_eq_some_iff.mp H
            obtain ⟨t133, A140, H⟩ := H
            replace H : (if 0 ≤ (wrap64 (t132 + x20_1)) then (if (wrap64 (t132 + x20_1)) < (x4_1.length : Int) then (word_Cells.l0 k1 t126 (x4_1.set ((wrap64 (t132 + x20_1)) : Int).toNat t133) t131 (wrap64 (x20_1 + 1)) a0_0 a0_1 l0_2 a0_3 a0_4 a0_5 a0_6) else (none)) else (none)) = some r := H
            have A14 := Aside0.mk A140
            clear A140
            obtain ⟨ji15, hji15⟩ : ∃ j_ : Int, (wrap64 (t132 + x20_1)) = j_ := ⟨_, rfl⟩
            replace H : (if 0 ≤ (ji15) then (if (ji15) < (x4_1.length : Int) then (word_Cells.l0 k1 t126 (x4_1.set ((ji15) : Int).toNat t133) t131 (wrap64 (x20_1 + 1)) a0_0 a0_1 l0_2 a0_3 a0_4 a0_5 a0_6) else (none)) else (none)) = some r := by first | (rw [hji15] at H; exact H) | (simp only [hji15] at H ⊢; exact H)
            (try rw [hji15] at A13)
            (try rw [hji15] at A14)
            have hji15w : (IntKind.i64.wrap (t132 + x20_1)) = ji15 := (i64_w _).trans hji15
            by_cases c16 : 0 ≤ (ji15)
            · rw [if_pos c16] at H
              have c16b0 : decide (0 ≤ (ji15)) = true := decide_eq_true c16
              clear c16
              by_cases c17 : (ji15) < (x4_1.length : Int)
              · rw [if_pos c17] at H
                have c17b0 : decide ((ji15) < (x4_1.length : Int)) = true := decide_eq_true c17
                clear c17
                obtain ⟨y134, hy134⟩ : ∃ y_ : List Int, y_ = (x4_1.set ((ji15) : Int).toNat t133) := ⟨_, rfl⟩
                replace H : (word_Cells.l0 k1 t126 y134 t131 (wrap64 (x20_1 + 1)) a0_0 a0_1 l0_2 a0_3 a0_4 a0_5 a0_6) = some r := by first | (rw [hy134]; with_reducible exact H) | (have H2_ := (Option.bind_some _ _).symm.trans H; rw [hy134]; with_reducible exact H2_) | (have H2_ := (Option.bind_some _ _).symm.trans H; with_reducible exact H2_) | with_reducible exact H | (rw [hy134]; exact H) | exact H
                have Ny134 := Aside0.mk hy134
                clear hy134
                have H' := Aside0.mk H
                clear H
                go_wp2_with (first | ((with_reducible refine gate_callee (f := 50) rfl ?_); refine goesL_ (some 25) rfl rfl Try.func50 (by kernel_rfl) rfl #[.int .i64 t126] rfl (by (try simp only [List.map_toArray, List.map_cons, List.map_nil]); first | done | rfl | (simp only [List.length_drop, List.length_take]; rfl)) ?_; (with_reducible refine (place_Leaves.calls t126 t132 _ A13.out).mono ?_); rintro e w' ⟨rfl, ⟨nd, rfl⟩⟩; refine ⟨_, rfl, ?_⟩; (try (rw [drewN_self wr]; generalize hq_ : World.drewN wr _ = wr; have n0_ : Aside0 (Kd.R (Kd.int .u64) 22 wr w.heap.size (fun _ => True) v129 x4_1) := ⟨by rw [← hq_]; exact (by (with_reducible repeat (first | apply Kd.R_alloc | apply Kd.R_drewN | apply Kd.R_drew)); exact HO_4.out)⟩; have n1_ : Aside0 (wr.heap[gb125]? = some (.cells #[.int .u32 a0_0, .int .i64 a0_1, .slice A0_2 l0_2.length c0_2, .int .i64 a0_3, .int .i64 a0_4, .int .i64 a0_5, .int .i64 a0_6] 36 (0, 0))) := ⟨by rw [← hq_]; exact (by (with_reducible repeat (first | refine blk_drewN ?_ _ | refine blk_drew ?_ | refine blk_alloc ?_ _)); exact BK125.out)⟩; have n2_ : Aside0 (Below w.heap.size w wr) := ⟨by rw [← hq_]; exact (by repeat (first | (with_reducible first | exact HB.out | apply below_alloc | apply pw_below_drewN | apply below_drew1 | refine below_set ?_ GE125.out) | exact HB.out))⟩; clear HO_4 BK125 HB hq_; have HO_4 := n0_; have BK125 := n1_; have HB := n2_; clear n0_ n1_ n2_))) | ((with_reducible refine gate_callee (f := 43) rfl ?_); refine goesL_ (some 28) rfl rfl Try.func43 (by kernel_rfl) rfl #[.int .i64 64] rfl (by (try simp only [List.map_toArray, List.map_cons, List.map_nil]); first | done | rfl | (simp only [List.length_drop, List.length_take]; rfl)) ?_; (with_reducible refine (bits_Mask.calls 64 t133 _ A14.out).mono ?_); rintro e w' ⟨rfl, ⟨nd, rfl⟩⟩; refine ⟨_, rfl, ?_⟩; (try (rw [drewN_self wr]; generalize hq_ : World.drewN wr _ = wr; have n0_ : Aside0 (Kd.R (Kd.int .u64) 22 wr w.heap.size (fun _ => True) v129 x4_1) := ⟨by rw [← hq_]; exact (by (with_reducible repeat (first | apply Kd.R_alloc | apply Kd.R_drewN | apply Kd.R_drew)); exact HO_4.out)⟩; have n1_ : Aside0 (wr.heap[gb125]? = some (.cells #[.int .u32 a0_0, .int .i64 a0_1, .slice A0_2 l0_2.length c0_2, .int .i64 a0_3, .int .i64 a0_4, .int .i64 a0_5, .int .i64 a0_6] 36 (0, 0))) := ⟨by rw [← hq_]; exact (by (with_reducible repeat (first | refine blk_drewN ?_ _ | refine blk_drew ?_ | refine blk_alloc ?_ _)); exact BK125.out)⟩; have n2_ : Aside0 (Below w.heap.size w wr) := ⟨by rw [← hq_]; exact (by repeat (first | (with_reducible first | exact HB.out | apply below_alloc | apply pw_below_drewN | apply below_drew1 | refine below_set ?_ GE125.out) | exact HB.out))⟩; clear HO_4 BK125 HB hq_; have HO_4 := n0_; have BK125 := n1_; have HB := n2_; clear n0_ n1_ n2_)); have p18 : 0 ≤ ((ji15) : Int) := of_decide_eq_true (by first | (with_reducible assumption) | assumption); have q18 : ((ji15) : Int) < ((x4_1.length : Int) : Int) := of_decide_eq_true (by first | (with_reducible assumption) | assumption); obtain ⟨go18, co18, eo18, gb18, gl18, cl18, HG18⟩ := Kd.R_form HO_4.out (by omega); (first | cases eo18 | (injection eo18 with ea_ en_ ec_; (first | subst ea_ | (injection ea_ with ea_; subst ea_)); subst ec_; clear en_)); have GB18 := Aside0.mk gb18; have GG18 := Aside0.mk HG18; clear gb18 gl18 HG18; obtain ⟨hx18_0, hf18_0⟩ := Kd.R_celln 0 HO_4.out ((ji15) : Int) p18 q18; replace p18 := eq_true p18; replace q18 := eq_true q18; obtain ⟨hy19_, hz19_⟩ := Kd.R_celln 0 HO_4.out ((ji15) : Int) (of_decide_eq_true (by first | (with_reducible assumption) | assumption)) (of_decide_eq_true (by first | (with_reducible assumption) | assumption)); have HP19 := Kd.R_putg HO_4.out ((ji15) : Int) t133) | ((with_reducible refine gate_store (t := 22) (p := 29) rfl ?_); refine store_event (t := 22) (p := 29) (v := ?vo_w20) (w1 := (wr.setCell ⟨go18, ((ji15) : Int).toNat, none⟩ (.int .u64 t133))) ?hg ?ho ?hn ?hr ?_; (case ho => rfl); (case hg => rfl); (case hn => rfl); (case hr => first | (go_simp; done) | (go_simp; rfl)); intro w20 hw; have hg : wr.grownBy w20 (some go18) := (by rw [hw]; exact HP19.2); have hp_ : Kd.R (Kd.int .u64) 22 w20 w.heap.size (fun _ => True) (.slice (some ⟨go18, 0, none⟩) x4_1.length co18) y134 := (by rw [hw, Ny134.out]; exact HP19.1); clear HP19; have n0_ := Aside0.mk (hp_); have n1_ := Aside0.mk (blk_grown (g := gb125) (o := .cells #[.int .u32 a0_0, .int .i64 a0_1, .slice A0_2 l0_2.length c0_2, .int .i64 a0_3, .int .i64 a0_4, .int .i64 a0_5, .int .i64 a0_6] 36 (0, 0)) (by (with_reducible repeat (first | refine blk_drewN ?_ _ | refine blk_drew ?_ | refine blk_alloc ?_ _)); exact BK125.out) hg (Kd.R_ne HO_4.out BK125.out (by decide))); have n2_ := Aside0.mk ((by rw [hw]; exact below_set (HB.out) GB18.out : Below w.heap.size w w20)); clear HO_4; clear BK125; clear HB; have HO_4 := n0_; have BK125 := n1_; have HB := n2_; clear n0_ n1_ n2_; clear hg hw hp_))
                go_roundg k1
                case measure => have := HK1.out; omega
                case rel => exact ⟨(y134), (wrap64 (x20_1 + 1)), (by first | rfl | (simp; done) | (simp [*]; done)), H', ⟨by have := HK1.out; omega⟩, ⟨by (with_reducible repeat (first | apply Kd.R_alloc | apply Kd.R_drewN | apply Kd.R_drew)); exact HO_4.out⟩, ⟨by (with_reducible repeat (first | refine blk_drewN ?_ _ | refine blk_drew ?_ | refine blk_alloc ?_ _)); exact BK125.out⟩, ⟨by repeat (first | (with_reducible first | exact HB.out | apply below_alloc | apply pw_below_drewN | apply below_drew1 | refine below_set ?_ GE125.out) | exact HB.out)⟩⟩
              · rw [if_neg c17] at H
                exact absurd H (by simp)
            · rw [if_neg c16] at H
              exact absurd H (by simp)
          · rw [if_neg c12] at H
            have c12b0 : decide (x20_1 < t131) = false := decide_eq_false c12
            clear c12
            replace H := Option.bind_eq_some_iff.mp H
            obtain ⟨t135, A210, H⟩ := H
            replace H : ((bits_Mask.f 64).bind fun t136 => (if 0 ≤ (wrap64 (t135 - 1)) then (if (wrap64 (t135 - 1)) < (x4_1.length : Int) then ((place_Leaves.f t126).bind fun t138 => (word_Cells.l1 k1 t126 (x4_1.set ((wrap64 (t135 - 1)) : Int).toNat t136) (wrap64 (t135 - 1)) t138 0 a0_0 a0_1 l0_2 a0_3 a0_4 a0_5 a0_6)) else (none)) else (none))) = some r := H
            have A21 := Aside0.mk A210
            clear A210
            replace H := Option.bind_eq_some_iff.mp H
            obtain ⟨t136, A220, H⟩ := H
            replace H : (if 0 ≤ (wrap64 (t135 - 1)) then (if (wrap64 (t135 - 1)) < (x4_1.length : Int) then ((place_Leaves.f t126).bind fun t138 => (word_Cells.l1 k1 t126 (x4_1.set ((wrap64 (t135 - 1)) : Int).toNat t136) (wrap64 (t135 - 1)) t138 0 a0_0 a0_1 l0_2 a0_3 a0_4 a0_5 a0_6)) else (none)) else (none)) = some r := H
            have A22 := Aside0.mk A220
            clear A220
            obtain ⟨ji23, hji23⟩ : ∃ j_ : Int, (wrap64 (t135 - 1)) = j_ := ⟨_, rfl⟩
            replace H : (if 0 ≤ (ji23) then (if (ji23) < (x4_1.length : Int) then ((place_Leaves.f t126).bind fun t138 => (word_Cells.l1 k1 t126 (x4_1.set ((ji23) : Int).toNat t136) ji23 t138 0 a0_0 a0_1 l0_2 a0_3 a0_4 a0_5 a0_6)) else (none)) else (none)) = some r := by first | (rw [hji23] at H; exact H) | (simp only [hji23] at H ⊢; exact H)
            (try rw [hji23] at A21)
            (try rw [hji23] at A22)
            have hji23w : (IntKind.i64.wrap (t135 - 1)) = ji23 := (i64_w _).trans hji23
            by_cases c24 : 0 ≤ (ji23)
            · rw [if_pos c24] at H
              have c24b0 : decide (0 ≤ (ji23)) = true := decide_eq_true c24
              clear c24
              by_cases c25 : (ji23) < (x4_1.length : Int)
              · rw [if_pos c25] at H
                have c25b0 : decide ((ji23) < (x4_1.length : Int)) = true := decide_eq_true c25
                clear c25
                obtain ⟨y137, hy137⟩ : ∃ y_ : List Int, y_ = (x4_1.set ((ji23) : Int).toNat t136) := ⟨_, rfl⟩
                replace H : ((place_Leaves.f t126).bind fun t138 => (word_Cells.l1 k1 t126 y137 ji23 t138 0 a0_0 a0_1 l0_2 a0_3 a0_4 a0_5 a0_6)) = some r := by first | (rw [hy137]; with_reducible exact H) | (have H2_ := (Option.bind_some _ _).symm.trans H; rw [hy137]; with_reducible exact H2_) | (have H2_ := (Option.bind_some _ _).symm.trans H; with_reducible exact H2_) | with_reducible exact H | (rw [hy137]; exact H) | exact H
                have Ny137 := Aside0.mk hy137
                clear hy137
                replace H := Option.bind_eq_some_iff.mp H
                obtain ⟨t138, A270, H⟩ := H
                replace H : (word_Cells.l1 k1 t126 y137 ji23 t138 0 a0_0 a0_1 l0_2 a0_3 a0_4 a0_5 a0_6) = some r := H
                have A27 := Aside0.mk A270
                clear A270
                have H' := Aside0.mk H
                clear H
                go_wp2_with (first | ((with_reducible refine gate_callee (f := 48) rfl ?_); refine goesL_ (some 32) rfl rfl Try.func48 (by kernel_rfl) rfl #[.int .i64 t126] rfl (by (try simp only [List.map_toArray, List.map_cons, List.map_nil]); first | done | rfl | (simp only [List.length_drop, List.length_take]; rfl)) ?_; (with_reducible refine (place_Cells.calls t126 t135 _ A21.out).mono ?_); rintro e w' ⟨rfl, ⟨nd, rfl⟩⟩; refine ⟨_, rfl, ?_⟩; (try (rw [drewN_self wr]; generalize hq_ : World.drewN wr _ = wr; have n0_ : Aside0 (Kd.R (Kd.int .u64) 22 wr w.heap.size (fun _ => True) v129 x4_1) := ⟨by rw [← hq_]; exact (by (with_reducible repeat (first | apply Kd.R_alloc | apply Kd.R_drewN | apply Kd.R_drew)); exact HO_4.out)⟩; have n1_ : Aside0 (wr.heap[gb125]? = some (.cells #[.int .u32 a0_0, .int .i64 a0_1, .slice A0_2 l0_2.length c0_2, .int .i64 a0_3, .int .i64 a0_4, .int .i64 a0_5, .int .i64 a0_6] 36 (0, 0))) := ⟨by rw [← hq_]; exact (by (with_reducible repeat (first | refine blk_drewN ?_ _ | refine blk_drew ?_ | refine blk_alloc ?_ _)); exact BK125.out)⟩; have n2_ : Aside0 (Below w.heap.size w wr) := ⟨by rw [← hq_]; exact (by repeat (first | (with_reducible first | exact HB.out | apply below_alloc | apply pw_below_drewN | apply below_drew1 | refine below_set ?_ GE125.out) | exact HB.out))⟩; clear HO_4 BK125 HB hq_; have HO_4 := n0_; have BK125 := n1_; have HB := n2_; clear n0_ n1_ n2_))) | ((with_reducible refine gate_callee (f := 43) rfl ?_); refine goesL_ (some 36) rfl rfl Try.func43 (by kernel_rfl) rfl #[.int .i64 64] rfl (by (try simp only [List.map_toArray, List.map_cons, List.map_nil]); first | done | rfl | (simp only [List.length_drop, List.length_take]; rfl)) ?_; (with_reducible refine (bits_Mask.calls 64 t136 _ A22.out).mono ?_); rintro e w' ⟨rfl, ⟨nd, rfl⟩⟩; refine ⟨_, rfl, ?_⟩; (try (rw [drewN_self wr]; generalize hq_ : World.drewN wr _ = wr; have n0_ : Aside0 (Kd.R (Kd.int .u64) 22 wr w.heap.size (fun _ => True) v129 x4_1) := ⟨by rw [← hq_]; exact (by (with_reducible repeat (first | apply Kd.R_alloc | apply Kd.R_drewN | apply Kd.R_drew)); exact HO_4.out)⟩; have n1_ : Aside0 (wr.heap[gb125]? = some (.cells #[.int .u32 a0_0, .int .i64 a0_1, .slice A0_2 l0_2.length c0_2, .int .i64 a0_3, .int .i64 a0_4, .int .i64 a0_5, .int .i64 a0_6] 36 (0, 0))) := ⟨by rw [← hq_]; exact (by (with_reducible repeat (first | refine blk_drewN ?_ _ | refine blk_drew ?_ | refine blk_alloc ?_ _)); exact BK125.out)⟩; have n2_ : Aside0 (Below w.heap.size w wr) := ⟨by rw [← hq_]; exact (by repeat (first | (with_reducible first | exact HB.out | apply below_alloc | apply pw_below_drewN | apply below_drew1 | refine below_set ?_ GE125.out) | exact HB.out))⟩; clear HO_4 BK125 HB hq_; have HO_4 := n0_; have BK125 := n1_; have HB := n2_; clear n0_ n1_ n2_)); have p26 : 0 ≤ ((ji23) : Int) := of_decide_eq_true (by first | (with_reducible assumption) | assumption); have q26 : ((ji23) : Int) < ((x4_1.length : Int) : Int) := of_decide_eq_true (by first | (with_reducible assumption) | assumption); obtain ⟨go26, co26, eo26, gb26, gl26, cl26, HG26⟩ := Kd.R_form HO_4.out (by omega); (first | cases eo26 | (injection eo26 with ea_ en_ ec_; (first | subst ea_ | (injection ea_ with ea_; subst ea_)); subst ec_; clear en_)); have GB26 := Aside0.mk gb26; have GG26 := Aside0.mk HG26; clear gb26 gl26 HG26; obtain ⟨hx26_0, hf26_0⟩ := Kd.R_celln 0 HO_4.out ((ji23) : Int) p26 q26; replace p26 := eq_true p26; replace q26 := eq_true q26; obtain ⟨hy28_, hz28_⟩ := Kd.R_celln 0 HO_4.out ((ji23) : Int) (of_decide_eq_true (by first | (with_reducible assumption) | assumption)) (of_decide_eq_true (by first | (with_reducible assumption) | assumption)); have HP28 := Kd.R_putg HO_4.out ((ji23) : Int) t136) | ((with_reducible refine gate_store (t := 22) (p := 37) rfl ?_); refine store_event (t := 22) (p := 37) (v := ?vo_w29) (w1 := (wr.setCell ⟨go26, ((ji23) : Int).toNat, none⟩ (.int .u64 t136))) ?hg ?ho ?hn ?hr ?_; (case ho => rfl); (case hg => rfl); (case hn => rfl); (case hr => first | (go_simp; done) | (go_simp; rfl)); intro w29 hw; have hg : wr.grownBy w29 (some go26) := (by rw [hw]; exact HP28.2); have hp_ : Kd.R (Kd.int .u64) 22 w29 w.heap.size (fun _ => True) (.slice (some ⟨go26, 0, none⟩) x4_1.length co26) y137 := (by rw [hw, Ny137.out]; exact HP28.1); clear HP28; have n0_ := Aside0.mk (hp_); have n1_ := Aside0.mk (blk_grown (g := gb125) (o := .cells #[.int .u32 a0_0, .int .i64 a0_1, .slice A0_2 l0_2.length c0_2, .int .i64 a0_3, .int .i64 a0_4, .int .i64 a0_5, .int .i64 a0_6] 36 (0, 0)) (by (with_reducible repeat (first | refine blk_drewN ?_ _ | refine blk_drew ?_ | refine blk_alloc ?_ _)); exact BK125.out) hg (Kd.R_ne HO_4.out BK125.out (by decide))); have n2_ := Aside0.mk ((by rw [hw]; exact below_set (HB.out) GB26.out : Below w.heap.size w w29)); clear HO_4; clear BK125; clear HB; have HO_4 := n0_; have BK125 := n1_; have HB := n2_; clear n0_ n1_ n2_; clear hg hw hp_) | ((with_reducible refine gate_callee (f := 50) rfl ?_); refine goesL_ (some 39) rfl rfl Try.func50 (by kernel_rfl) rfl #[.int .i64 t126] rfl (by (try simp only [List.map_toArray, List.map_cons, List.map_nil]); first | done | rfl | (simp only [List.length_drop, List.length_take]; rfl)) ?_; (with_reducible refine (place_Leaves.calls t126 t138 _ A27.out).mono ?_); rintro e w' ⟨rfl, ⟨nd, rfl⟩⟩; refine ⟨_, rfl, ?_⟩) | (go_at_call 48; (with_reducible refine (place_Leaves.calls t126 t138 _ A27.out).mono ?_); rintro e w' ⟨rfl, ⟨nd, rfl⟩⟩))
                go_loopg [40] k1 (fun kq v40 w' => ∃ (x4_2 : List Int) (x40_2 : Int), v40 = .int .i64 x40_2 ∧ Aside0 (word_Cells.l1 kq t126 x4_2 ji23 t138 x40_2 a0_0 a0_1 l0_2 a0_3 a0_4 a0_5 a0_6 = some r) ∧ Aside0 (kq ≤ k1) ∧ Aside0 (Kd.R (Kd.int .u64) 22 w' w.heap.size (fun _ => True) (.slice (some ⟨go26, 0, none⟩) x4_1.length co26) x4_2) ∧ Aside0 (w'.heap[gb125]? = some (.cells #[.int .u32 a0_0, .int .i64 a0_1, (.slice A0_2 l0_2.length c0_2), .int .i64 a0_3, .int .i64 a0_4, .int .i64 a0_5, .int .i64 a0_6] 36 (0, 0))) ∧ Aside0 (Below w.heap.size w w'))
                case atStart => exact ⟨(y137), (0), (by first | rfl | (simp; done) | (simp [*]; done)), H', ⟨Nat.le_refl _⟩, ⟨by (with_reducible repeat (first | apply Kd.R_alloc | apply Kd.R_drewN | apply Kd.R_drew)); exact HO_4.out⟩, ⟨by (with_reducible repeat (first | refine blk_drewN ?_ _ | refine blk_drew ?_ | refine blk_alloc ?_ _)); exact BK125.out⟩, ⟨by repeat (first | (with_reducible first | exact HB.out | apply below_alloc | apply pw_below_drewN | apply below_drew1 | refine below_set ?_ GE125.out) | exact HB.out)⟩⟩
                case round =>
                  clear H'
                  try clear c1
                  try clear p1
                  try clear q1
                  try clear hx1
                  try clear hf1
                  try clear c2
                  try clear p2
                  try clear q2
                  try clear hx2
                  try clear hf2
                  try clear c4
                  try clear c4b0
                  try clear c4b1
                  try clear c5
                  try clear c5b0
                  try clear c5b1
                  try clear p6
                  try clear c12
                  try clear c12b0
                  try clear c16
                  try clear c16b0
                  try clear c17
                  try clear c17b0
                  try clear p18
                  try clear q18
                  try clear hx18
                  try clear hf18
                  try clear c24
                  try clear c24b0
                  try clear c25
                  try clear c25b0
                  try clear c26
                  try clear p26
                  try clear q26
                  try clear hx26
                  try clear hf26
                  try clear hcz8_0
                  try clear hcz8_1
                  try clear hcz8_2
                  try clear hcz8_3
                  try clear hcz8_4
                  try clear hcz8_5
                  try clear hcz8_6
                  try clear hfz8_0
                  try clear hfz8_1
                  try clear hfz8_2
                  try clear hfz8_3
                  try clear hfz8_4
                  try clear hfz8_5
                  try clear hfz8_6
                  try clear hx18_0
                  try clear hx26_0
                  try clear p18
                  try clear p2
                  try clear p26
                  try clear q18
                  try clear q26
                  obtain ⟨x4_2, x40_2, rfl, HA, HK2, HO_4, BK125, HB⟩ := hrel
                  have hl4_2 := (Kd.R_reads' HO_4.out).1
                  rw [hl4_2] at HO_4
                  (try simp only [hl4_2])
                  (try simp only [hl4_2] at BK125)
                  cases gk with
                  | zero => exact absurd HA.out (by simp [word_Cells.l1])
                  | succ k2 =>
                    have H := HA.out
                    clear HA
                    simp only [word_Cells.l1] at H
                    by_cases c30 : x40_2 < t138
                    · rw [if_pos c30] at H
                      have c30b0 : decide (x40_2 < t138) = true := decide_eq_true c30
                      clear c30
                      replace H := Option.bind_eq_some_iff.mp H
                      obtain ⟨t139, A310, H⟩ := H
                      replace H : (if 0 ≤ x40_2 then (if x40_2 < (x4_2.length : Int) then ((some (x4_2.set (x40_2 : Int).toNat t139 : List Int)).bind fun y140 => ((word_Full.f k2 (rd y140 x40_2)).bind fun t142 => (if t142 = true then (word_Cells.l1 k2 t126 y140 ji23 t138 (wrap64 (x40_2 + 1)) a0_0 a0_1 l0_2 a0_3 a0_4 a0_5 a0_6) else ((place_Top.f t126 x40_2).bind fun bt143 => ((place_Root.f t126 x40_2).bind fun bt145 => (if 0 ≤ bt143.1 then (if bt143.1 < (x4_2.length : Int) then ((bits_Clear.f (rd y140 bt143.1) bt143.2).bind fun t148 => (if 0 ≤ ji23 then (if ji23 < (x4_2.length : Int) then ((bits_Clear.f (rd y140 ji23) bt145.2).bind fun t150 => (word_Cells.l1 k2 t126 ((y140.set (bt143.1 : Int).toNat t148).set (ji23 : Int).toNat t150) ji23 t138 (wrap64 (x40_2 + 1)) a0_0 a0_1 l0_2 a0_3 a0_4 a0_5 a0_6)) else (none)) else (none))) else (none)) else (none))))))) else (none)) else (none)) = some r := H
                      have A31 := Aside0.mk A310
                      clear A310
                      by_cases c32 : 0 ≤ x40_2
                      · rw [if_pos c32] at H
                        have c32b0 : decide (0 ≤ x40_2) = true := decide_eq_true c32
                        clear c32
                        by_cases c33 : x40_2 < (x4_2.length : Int)
                        · rw [if_pos c33] at H
                          have c33b0 : decide (x40_2 < (x4_2.length : Int)) = true := decide_eq_true c33
                          clear c33
                          obtain ⟨y140, hy140⟩ : ∃ y_ : List Int, y_ = (x4_2.set (x40_2 : Int).toNat t139) := ⟨_, rfl⟩
                          replace H : ((word_Full.f k2 (rd y140 x40_2)).bind fun t142 => (if t142 = true then (word_Cells.l1 k2 t126 y140 ji23 t138 (wrap64 (x40_2 + 1)) a0_0 a0_1 l0_2 a0_3 a0_4 a0_5 a0_6) else ((place_Top.f t126 x40_2).bind fun bt143 => ((place_Root.f t126 x40_2).bind fun bt145 => (if 0 ≤ bt143.1 then (if bt143.1 < (x4_2.length : Int) then ((bits_Clear.f (rd y140 bt143.1) bt143.2).bind fun t148 => (if 0 ≤ ji23 then (if ji23 < (x4_2.length : Int) then ((bits_Clear.f (rd y140 ji23) bt145.2).bind fun t150 => (word_Cells.l1 k2 t126 ((y140.set (bt143.1 : Int).toNat t148).set (ji23 : Int).toNat t150) ji23 t138 (wrap64 (x40_2 + 1)) a0_0 a0_1 l0_2 a0_3 a0_4 a0_5 a0_6)) else (none)) else (none))) else (none)) else (none)))))) = some r := by first | (rw [hy140]; with_reducible exact H) | (have H2_ := (Option.bind_some _ _).symm.trans H; rw [hy140]; with_reducible exact H2_) | (have H2_ := (Option.bind_some _ _).symm.trans H; with_reducible exact H2_) | with_reducible exact H | (rw [hy140]; exact H) | exact H
                          have Ny140 := Aside0.mk hy140
                          clear hy140
                          replace H := Option.bind_eq_some_iff.mp H
                          obtain ⟨t142, A350, H⟩ := H
                          replace H : (if t142 = true then (word_Cells.l1 k2 t126 y140 ji23 t138 (wrap64 (x40_2 + 1)) a0_0 a0_1 l0_2 a0_3 a0_4 a0_5 a0_6) else ((place_Top.f t126 x40_2).bind fun bt143 => ((place_Root.f t126 x40_2).bind fun bt145 => (if 0 ≤ bt143.1 then (if bt143.1 < (x4_2.length : Int) then ((bits_Clear.f (rd y140 bt143.1) bt143.2).bind fun t148 => (if 0 ≤ ji23 then (if ji23 < (x4_2.length : Int) then ((bits_Clear.f (rd y140 ji23) bt145.2).bind fun t150 => (word_Cells.l1 k2 t126 ((y140.set (bt143.1 : Int).toNat t148).set (ji23 : Int).toNat t150) ji23 t138 (wrap64 (x40_2 + 1)) a0_0 a0_1 l0_2 a0_3 a0_4 a0_5 a0_6)) else (none)) else (none))) else (none)) else (none))))) = some r := H
                          have A35 := Aside0.mk A350
                          clear A350
                          by_cases c36 : t142 = true
                          · subst c36
                            have H1 : (word_Cells.l1 k2 t126 y140 ji23 t138 (wrap64 (x40_2 + 1)) a0_0 a0_1 l0_2 a0_3 a0_4 a0_5 a0_6) = some r := by rw [if_pos rfl] at H; exact H
                            clear H
                            have H := H1
                            clear H1
                            have H' := Aside0.mk H
                            clear H
                            have hcz37_0 : wr.cell? ⟨gb125, 0, none⟩ = some (.int .u32 a0_0) := (blk_cell BK125.out 0).trans rfl
                            have hcz37_1 : wr.cell? ⟨gb125, 1, none⟩ = some (.int .i64 a0_1) := (blk_cell BK125.out 1).trans rfl
                            have hcz37_2 : wr.cell? ⟨gb125, 2, none⟩ = some (.slice A0_2 l0_2.length c0_2) := (blk_cell BK125.out 2).trans rfl
                            have hcz37_3 : wr.cell? ⟨gb125, 3, none⟩ = some (.int .i64 a0_3) := (blk_cell BK125.out 3).trans rfl
                            have hcz37_4 : wr.cell? ⟨gb125, 4, none⟩ = some (.int .i64 a0_4) := (blk_cell BK125.out 4).trans rfl
                            have hcz37_5 : wr.cell? ⟨gb125, 5, none⟩ = some (.int .i64 a0_5) := (blk_cell BK125.out 5).trans rfl
                            have hcz37_6 : wr.cell? ⟨gb125, 6, none⟩ = some (.int .i64 a0_6) := (blk_cell BK125.out 6).trans rfl
                            have hfz37_0 := blk_frozen BK125.out 0
                            have hfz37_1 := blk_frozen BK125.out 1
                            have hfz37_2 := blk_frozen BK125.out 2
                            have hfz37_3 := blk_frozen BK125.out 3
                            have hfz37_4 := blk_frozen BK125.out 4
                            have hfz37_5 := blk_frozen BK125.out 5
                            have hfz37_6 := blk_frozen BK125.out 6
                            go_wp2_with (first | ((with_reducible refine gate_callee (f := 23) rfl ?_); refine goesL_ (some 47) rfl rfl Try.func23 (by kernel_rfl) rfl #[.agg #[.int .u32 a0_0, .int .i64 a0_1, .slice A0_2 l0_2.length c0_2, .int .i64 a0_3, .int .i64 a0_4, .int .i64 a0_5, .int .i64 a0_6], .int .i64 x40_2] rfl (by (try simp only [List.map_toArray, List.map_cons, List.map_nil]); first | done | rfl | (simp only [List.length_drop, List.length_take]; rfl)) ?_; (with_reducible refine (word_New.calls k2 a0_0 a0_1 _ _ l0_2 a0_3 a0_4 a0_5 a0_6 x40_2 t139 _ ?side1 ?side2 A31.out).mono ?_); (case side1 => repeat (first | exact (Kd.C_below HR0_2.out HB.out) | (with_reducible refine Kd.C_alloc ?_ _) | (with_reducible refine Kd.C_drewN ?_ _) | (with_reducible refine Kd.C_drew ?_))); (case side2 => exact HC0_2.out); rintro e w38 ⟨rfl, hb⟩; refine ⟨_, rfl, ?_⟩; have n0_ := Aside0.mk (Kd.R_below (by (with_reducible repeat (first | apply Kd.R_alloc | apply Kd.R_drewN | apply Kd.R_drew)); exact HO_4.out) hb); have n1_ := Aside0.mk (blk_below (g := gb125) (o := .cells #[.int .u32 a0_0, .int .i64 a0_1, .slice A0_2 l0_2.length c0_2, .int .i64 a0_3, .int .i64 a0_4, .int .i64 a0_5, .int .i64 a0_6] 36 (0, 0)) (by (with_reducible repeat (first | refine blk_drewN ?_ _ | refine blk_drew ?_ | refine blk_alloc ?_ _)); exact BK125.out) hb); have n2_ := Aside0.mk (below_step (by repeat (first | (with_reducible first | exact HB.out | apply below_alloc | apply pw_below_drewN | apply below_drew1 | refine below_set ?_ GE125.out) | exact HB.out)) hb); clear HO_4; clear BK125; clear HB; have HO_4 := n0_; have BK125 := n1_; have HB := n2_; clear n0_ n1_ n2_; (try clear hb); (try clear hb2); (try clear hk); (try clear hi); have p34 : 0 ≤ (x40_2 : Int) := of_decide_eq_true (by first | (with_reducible assumption) | assumption); have q34 : (x40_2 : Int) < ((x4_2.length : Int) : Int) := of_decide_eq_true (by first | (with_reducible assumption) | assumption); obtain ⟨hx34_0, hf34_0⟩ := Kd.R_celln 0 HO_4.out (x40_2 : Int) p34 q34; replace p34 := eq_true p34; replace q34 := eq_true q34; obtain ⟨hy39_, hz39_⟩ := Kd.R_celln 0 HO_4.out (x40_2 : Int) (of_decide_eq_true (by first | (with_reducible assumption) | assumption)) (of_decide_eq_true (by first | (with_reducible assumption) | assumption)); have HP39 := Kd.R_putg HO_4.out (x40_2 : Int) t139) | ((with_reducible refine gate_store (t := 22) (p := 48) rfl ?_); refine store_event (t := 22) (p := 48) (v := ?vo_w40) (w1 := (w38.setCell ⟨go26, (x40_2 : Int).toNat, none⟩ (.int .u64 t139))) ?hg ?ho ?hn ?hr ?_; (case ho => rfl); (case hg => rfl); (case hn => rfl); (case hr => first | (go_simp; done) | (go_simp; rfl)); intro w40 hw; have hg : w38.grownBy w40 (some go26) := (by rw [hw]; exact HP39.2); have hp_ : Kd.R (Kd.int .u64) 22 w40 w.heap.size (fun _ => True) (.slice (some ⟨go26, 0, none⟩) x4_2.length co26) y140 := (by rw [hw, Ny140.out]; exact HP39.1); clear HP39; have n0_ := Aside0.mk (hp_); have n1_ := Aside0.mk (blk_grown (g := gb125) (o := .cells #[.int .u32 a0_0, .int .i64 a0_1, .slice A0_2 l0_2.length c0_2, .int .i64 a0_3, .int .i64 a0_4, .int .i64 a0_5, .int .i64 a0_6] 36 (0, 0)) (by (with_reducible repeat (first | refine blk_drewN ?_ _ | refine blk_drew ?_ | refine blk_alloc ?_ _)); exact BK125.out) hg (Kd.R_ne HO_4.out BK125.out (by decide))); have n2_ := Aside0.mk ((by rw [hw]; exact below_set (HB.out) GB26.out : Below w.heap.size w w40)); clear HO_4; clear BK125; clear HB; have HO_4 := n0_; have BK125 := n1_; have HB := n2_; clear n0_ n1_ n2_; clear hg hw hp_; have p141 : 0 ≤ (x40_2 : Int) := of_decide_eq_true (by first | (with_reducible assumption) | assumption); have q141 : x40_2 < (y140.length : Int) := (by have h_ : (x40_2 : Int) < ((x4_2.length : Int) : Int) := of_decide_eq_true (by first | (with_reducible assumption) | assumption); first | (have e_ := (Kd.R_reads' HO_4.out).1; omega) | simpa only [Ny140.out, List.length_set] using h_); have ql141 : ((x40_2 : Int) < ((x4_2.length : Int) : Int)) = True := eq_true (of_decide_eq_true (by first | (with_reducible assumption) | assumption)); obtain ⟨ad141, e141, hx141_0⟩ := Kd.at_int (Kd.R_reads' HO_4.out).2.2 x40_2 p141 q141; obtain rfl : (⟨go26, 0, none⟩ : Addr) = ad141 := (by injection e141); (first | simp only [add_plain] at hx141_0 | simp only [add_at] at hx141_0 | simp only [Addr.add, Nat.zero_add] at hx141_0 | skip); replace p141 := eq_true p141; replace q141 := eq_true q141) | ((with_reducible refine gate_callee (f := 18) rfl ?_); refine goesL_ (some 53) rfl rfl Try.func18 (by kernel_rfl) rfl #[.int .u64 (rd y140 x40_2)] rfl (by (try simp only [List.map_toArray, List.map_cons, List.map_nil]); first | done | rfl | (simp only [List.length_drop, List.length_take]; rfl)) ?_; (with_reducible refine (word_Full.calls k2 (rd y140 x40_2) true _ A35.out).mono ?_); rintro e w' ⟨rfl, ⟨nd, rfl⟩⟩; refine ⟨_, rfl, ?_⟩) | (go_at_call 23; (with_reducible refine (word_Full.calls k2 (rd y140 x40_2) true _ A35.out).mono ?_); rintro e w' ⟨rfl, ⟨nd, rfl⟩⟩))
                            (try simp only [← hl4_2])
                            go_roundg k2
                            case measure => have := HK1.out; have := HK2.out; omega
                            case rel => exact ⟨(y140), (wrap64 (x40_2 + 1)), (by first | rfl | (simp; done) | (simp [*]; done)), H', ⟨by have := HK1.out; have := HK2.out; omega⟩, ⟨by (try simp only [hl4_2]); (with_reducible repeat (first | apply Kd.R_alloc | apply Kd.R_drewN | apply Kd.R_drew)); exact HO_4.out⟩, ⟨by (try simp only [hl4_2]); (with_reducible repeat (first | refine blk_drewN ?_ _ | refine blk_drew ?_ | refine blk_alloc ?_ _)); exact BK125.out⟩, ⟨by repeat (first | (with_reducible first | exact HB.out | apply below_alloc | apply pw_below_drewN | apply below_drew1 | refine below_set ?_ GE125.out) | exact HB.out)⟩⟩
                          · replace c36 := Bool.eq_false_iff.mpr c36
                            subst c36
                            have H1 : ((place_Top.f t126 x40_2).bind fun bt143 => ((place_Root.f t126 x40_2).bind fun bt145 => (if 0 ≤ bt143.1 then (if bt143.1 < (x4_2.length : Int) then ((bits_Clear.f (rd y140 bt143.1) bt143.2).bind fun t148 => (if 0 ≤ ji23 then (if ji23 < (x4_2.length : Int) then ((bits_Clear.f (rd y140 ji23) bt145.2).bind fun t150 => (word_Cells.l1 k2 t126 ((y140.set (bt143.1 : Int).toNat t148).set (ji23 : Int).toNat t150) ji23 t138 (wrap64 (x40_2 + 1)) a0_0 a0_1 l0_2 a0_3 a0_4 a0_5 a0_6)) else (none)) else (none))) else (none)) else (none)))) = some r := by rw [if_neg (show ¬ (false = true) by decide)] at H; exact H
                            clear H
                            have H := H1
                            clear H1
                            replace H := Option.bind_eq_some_iff.mp H
                            obtain ⟨⟨t143, t144⟩, A410, H⟩ := H
                            replace H : ((place_Root.f t126 x40_2).bind fun bt145 => (if 0 ≤ t143 then (if t143 < (x4_2.length : Int) then ((bits_Clear.f (rd y140 t143) t144).bind fun t148 => (if 0 ≤ ji23 then (if ji23 < (x4_2.length : Int) then ((bits_Clear.f (rd y140 ji23) bt145.2).bind fun t150 => (word_Cells.l1 k2 t126 ((y140.set (t143 : Int).toNat t148).set (ji23 : Int).toNat t150) ji23 t138 (wrap64 (x40_2 + 1)) a0_0 a0_1 l0_2 a0_3 a0_4 a0_5 a0_6)) else (none)) else (none))) else (none)) else (none))) = some r := H
                            have A41 := Aside0.mk A410
                            clear A410
                            replace H := Option.bind_eq_some_iff.mp H
                            obtain ⟨⟨t145, t146⟩, A420, H⟩ := H
                            replace H : (if 0 ≤ t143 then (if t143 < (x4_2.length : Int) then ((bits_Clear.f (rd y140 t143) t144).bind fun t148 => (if 0 ≤ ji23 then (if ji23 < (x4_2.length : Int) then ((bits_Clear.f (rd y140 ji23) t146).bind fun t150 => (word_Cells.l1 k2 t126 ((y140.set (t143 : Int).toNat t148).set (ji23 : Int).toNat t150) ji23 t138 (wrap64 (x40_2 + 1)) a0_0 a0_1 l0_2 a0_3 a0_4 a0_5 a0_6)) else (none)) else (none))) else (none)) else (none)) = some r := H
                            have A42 := Aside0.mk A420
                            clear A420
                            by_cases c43 : 0 ≤ t143
                            · rw [if_pos c43] at H
                              have c43b0 : decide (0 ≤ t143) = true := decide_eq_true c43
                              clear c43
                              by_cases c44 : t143 < (x4_2.length : Int)
                              · rw [if_pos c44] at H
                                have c44b0 : decide (t143 < (x4_2.length : Int)) = true := decide_eq_true c44
                                clear c44
                                replace H := Option.bind_eq_some_iff.mp H
                                obtain ⟨t148, A450, H⟩ := H
                                replace H : (if 0 ≤ ji23 then (if ji23 < (x4_2.length : Int) then ((bits_Clear.f (rd y140 ji23) t146).bind fun t150 => (word_Cells.l1 k2 t126 ((y140.set (t143 : Int).toNat t148).set (ji23 : Int).toNat t150) ji23 t138 (wrap64 (x40_2 + 1)) a0_0 a0_1 l0_2 a0_3 a0_4 a0_5 a0_6)) else (none)) else (none)) = some r := H
                                have A45 := Aside0.mk A450
                                clear A450
                                by_cases c46 : 0 ≤ ji23
                                · rw [if_pos c46] at H
                                  have c46b0 : decide (0 ≤ ji23) = true := decide_eq_true c46
                                  clear c46
                                  by_cases c47 : ji23 < (x4_2.length : Int)
                                  · rw [if_pos c47] at H
                                    have c47b0 : decide (ji23 < (x4_2.length : Int)) = true := decide_eq_true c47
                                    clear c47
                                    replace H := Option.bind_eq_some_iff.mp H
                                    obtain ⟨t150, A480, H⟩ := H
                                    replace H : (word_Cells.l1 k2 t126 ((y140.set (t143 : Int).toNat t148).set (ji23 : Int).toNat t150) ji23 t138 (wrap64 (x40_2 + 1)) a0_0 a0_1 l0_2 a0_3 a0_4 a0_5 a0_6) = some r := H
                                    have A48 := Aside0.mk A480
                                    clear A480
                                    obtain ⟨y151, hy151⟩ : ∃ y_ : List Int, y_ = (y140.set (t143 : Int).toNat t148) := ⟨_, rfl⟩
                                    replace H : (word_Cells.l1 k2 t126 (y151.set (ji23 : Int).toNat t150) ji23 t138 (wrap64 (x40_2 + 1)) a0_0 a0_1 l0_2 a0_3 a0_4 a0_5 a0_6) = some r := by first | (rw [hy151]; with_reducible exact H) | (have H2_ := (Option.bind_some _ _).symm.trans H; rw [hy151]; with_reducible exact H2_) | (have H2_ := (Option.bind_some _ _).symm.trans H; with_reducible exact H2_) | with_reducible exact H | (rw [hy151]; exact H) | exact H
                                    have Ny151 := Aside0.mk hy151
                                    clear hy151
                                    obtain ⟨y152, hy152⟩ : ∃ y_ : List Int, y_ = (y151.set (ji23 : Int).toNat t150) := ⟨_, rfl⟩
                                    replace H : (word_Cells.l1 k2 t126 y152 ji23 t138 (wrap64 (x40_2 + 1)) a0_0 a0_1 l0_2 a0_3 a0_4 a0_5 a0_6) = some r := by first | (rw [hy152]; with_reducible exact H) | (have H2_ := (Option.bind_some _ _).symm.trans H; rw [hy152]; with_reducible exact H2_) | (have H2_ := (Option.bind_some _ _).symm.trans H; with_reducible exact H2_) | with_reducible exact H | (rw [hy152]; exact H) | exact H
                                    have Ny152 := Aside0.mk hy152
                                    clear hy152
                                    have H' := Aside0.mk H
                                    clear H
                                    have hcz51_0 : wr.cell? ⟨gb125, 0, none⟩ = some (.int .u32 a0_0) := (blk_cell BK125.out 0).trans rfl
                                    have hcz51_1 : wr.cell? ⟨gb125, 1, none⟩ = some (.int .i64 a0_1) := (blk_cell BK125.out 1).trans rfl
                                    have hcz51_2 : wr.cell? ⟨gb125, 2, none⟩ = some (.slice A0_2 l0_2.length c0_2) := (blk_cell BK125.out 2).trans rfl
                                    have hcz51_3 : wr.cell? ⟨gb125, 3, none⟩ = some (.int .i64 a0_3) := (blk_cell BK125.out 3).trans rfl
                                    have hcz51_4 : wr.cell? ⟨gb125, 4, none⟩ = some (.int .i64 a0_4) := (blk_cell BK125.out 4).trans rfl
                                    have hcz51_5 : wr.cell? ⟨gb125, 5, none⟩ = some (.int .i64 a0_5) := (blk_cell BK125.out 5).trans rfl
                                    have hcz51_6 : wr.cell? ⟨gb125, 6, none⟩ = some (.int .i64 a0_6) := (blk_cell BK125.out 6).trans rfl
                                    have hfz51_0 := blk_frozen BK125.out 0
                                    have hfz51_1 := blk_frozen BK125.out 1
                                    have hfz51_2 := blk_frozen BK125.out 2
                                    have hfz51_3 := blk_frozen BK125.out 3
                                    have hfz51_4 := blk_frozen BK125.out 4
                                    have hfz51_5 := blk_frozen BK125.out 5
                                    have hfz51_6 := blk_frozen BK125.out 6
                                    try go_wp2_with (first | ((with_reducible refine gate_callee (f := 23) rfl ?_); refine goesL_ (some 47) rfl rfl Try.func23 (by kernel_rfl) rfl #[.agg #[.int .u32 a0_0, .int .i64 a0_1, .slice A0_2 l0_2.length c0_2, .int .i64 a0_3, .int .i64 a0_4, .int .i64 a0_5, .int .i64 a0_6], .int .i64 x40_2] rfl (by (try simp only [List.map_toArray, List.map_cons, List.map_nil]); first | done | rfl | (simp only [List.length_drop, List.length_take]; rfl)) ?_; (with_reducible refine (word_New.calls k2 a0_0 a0_1 _ _ l0_2 a0_3 a0_4 a0_5 a0_6 x40_2 t139 _ ?side1 ?side2 A31.out).mono ?_); (case side1 => repeat (first | exact (Kd.C_below HR0_2.out HB.out) | (with_reducible refine Kd.C_alloc ?_ _) | (with_reducible refine Kd.C_drewN ?_ _) | (with_reducible refine Kd.C_drew ?_))); (case side2 => exact HC0_2.out); rintro e w52 ⟨rfl, hb⟩; refine ⟨_, rfl, ?_⟩; have n0_ := Aside0.mk (Kd.R_below (by (with_reducible repeat (first | apply Kd.R_alloc | apply Kd.R_drewN | apply Kd.R_drew)); exact HO_4.out) hb); have n1_ := Aside0.mk (blk_below (g := gb125) (o := .cells #[.int .u32 a0_0, .int .i64 a0_1, .slice A0_2 l0_2.length c0_2, .int .i64 a0_3, .int .i64 a0_4, .int .i64 a0_5, .int .i64 a0_6] 36 (0, 0)) (by (with_reducible repeat (first | refine blk_drewN ?_ _ | refine blk_drew ?_ | refine blk_alloc ?_ _)); exact BK125.out) hb); have n2_ := Aside0.mk (below_step (by repeat (first | (with_reducible first | exact HB.out | apply below_alloc | apply pw_below_drewN | apply below_drew1 | refine below_set ?_ GE125.out) | exact HB.out)) hb); clear HO_4; clear BK125; clear HB; have HO_4 := n0_; have BK125 := n1_; have HB := n2_; clear n0_ n1_ n2_; (try clear hb); (try clear hb2); (try clear hk); (try clear hi); have p34 : 0 ≤ (x40_2 : Int) := of_decide_eq_true (by first | (with_reducible assumption) | assumption); have q34 : (x40_2 : Int) < ((x4_2.length : Int) : Int) := of_decide_eq_true (by first | (with_reducible assumption) | assumption); obtain ⟨hx34_0, hf34_0⟩ := Kd.R_celln 0 HO_4.out (x40_2 : Int) p34 q34; replace p34 := eq_true p34; replace q34 := eq_true q34; obtain ⟨hy53_, hz53_⟩ := Kd.R_celln 0 HO_4.out (x40_2 : Int) (of_decide_eq_true (by first | (with_reducible assumption) | assumption)) (of_decide_eq_true (by first | (with_reducible assumption) | assumption)); have HP53 := Kd.R_putg HO_4.out (x40_2 : Int) t139) | ((with_reducible refine gate_store (t := 22) (p := 48) rfl ?_); refine store_event (t := 22) (p := 48) (v := ?vo_w54) (w1 := (w52.setCell ⟨go26, (x40_2 : Int).toNat, none⟩ (.int .u64 t139))) ?hg ?ho ?hn ?hr ?_; (case ho => rfl); (case hg => rfl); (case hn => rfl); (case hr => first | (go_simp; done) | (go_simp; rfl)); intro w54 hw; have hg : w52.grownBy w54 (some go26) := (by rw [hw]; exact HP53.2); have hp_ : Kd.R (Kd.int .u64) 22 w54 w.heap.size (fun _ => True) (.slice (some ⟨go26, 0, none⟩) x4_2.length co26) y140 := (by rw [hw, Ny140.out]; exact HP53.1); clear HP53; have n0_ := Aside0.mk (hp_); have n1_ := Aside0.mk (blk_grown (g := gb125) (o := .cells #[.int .u32 a0_0, .int .i64 a0_1, .slice A0_2 l0_2.length c0_2, .int .i64 a0_3, .int .i64 a0_4, .int .i64 a0_5, .int .i64 a0_6] 36 (0, 0)) (by (with_reducible repeat (first | refine blk_drewN ?_ _ | refine blk_drew ?_ | refine blk_alloc ?_ _)); exact BK125.out) hg (Kd.R_ne HO_4.out BK125.out (by decide))); have n2_ := Aside0.mk ((by rw [hw]; exact below_set (HB.out) GB26.out : Below w.heap.size w w54)); clear HO_4; clear BK125; clear HB; have HO_4 := n0_; have BK125 := n1_; have HB := n2_; clear n0_ n1_ n2_; clear hg hw hp_; have p141 : 0 ≤ (x40_2 : Int) := of_decide_eq_true (by first | (with_reducible assumption) | assumption); have q141 : x40_2 < (y140.length : Int) := (by have h_ : (x40_2 : Int) < ((x4_2.length : Int) : Int) := of_decide_eq_true (by first | (with_reducible assumption) | assumption); first | (have e_ := (Kd.R_reads' HO_4.out).1; omega) | simpa only [Ny140.out, List.length_set] using h_); have ql141 : ((x40_2 : Int) < ((x4_2.length : Int) : Int)) = True := eq_true (of_decide_eq_true (by first | (with_reducible assumption) | assumption)); obtain ⟨ad141, e141, hx141_0⟩ := Kd.at_int (Kd.R_reads' HO_4.out).2.2 x40_2 p141 q141; obtain rfl : (⟨go26, 0, none⟩ : Addr) = ad141 := (by injection e141); (first | simp only [add_plain] at hx141_0 | simp only [add_at] at hx141_0 | simp only [Addr.add, Nat.zero_add] at hx141_0 | skip); replace p141 := eq_true p141; replace q141 := eq_true q141) | ((with_reducible refine gate_callee (f := 18) rfl ?_); refine goesL_ (some 53) rfl rfl Try.func18 (by kernel_rfl) rfl #[.int .u64 (rd y140 x40_2)] rfl (by (try simp only [List.map_toArray, List.map_cons, List.map_nil]); first | done | rfl | (simp only [List.length_drop, List.length_take]; rfl)) ?_; (with_reducible refine (word_Full.calls k2 (rd y140 x40_2) false _ A35.out).mono ?_); rintro e w' ⟨rfl, ⟨nd, rfl⟩⟩; refine ⟨_, rfl, ?_⟩; (try (rw [drewN_self w54]; generalize hq_ : World.drewN w54 _ = w54; have n0_ : Aside0 (Kd.R (Kd.int .u64) 22 w54 w.heap.size (fun _ => True) (.slice (some ⟨go26, 0, none⟩) x4_2.length co26) y140) := ⟨by rw [← hq_]; exact (by (with_reducible repeat (first | apply Kd.R_alloc | apply Kd.R_drewN | apply Kd.R_drew)); exact HO_4.out)⟩; have n1_ : Aside0 (w54.heap[gb125]? = some (.cells #[.int .u32 a0_0, .int .i64 a0_1, .slice A0_2 l0_2.length c0_2, .int .i64 a0_3, .int .i64 a0_4, .int .i64 a0_5, .int .i64 a0_6] 36 (0, 0))) := ⟨by rw [← hq_]; exact (by (with_reducible repeat (first | refine blk_drewN ?_ _ | refine blk_drew ?_ | refine blk_alloc ?_ _)); exact BK125.out)⟩; have n2_ : Aside0 (Below w.heap.size w w54) := ⟨by rw [← hq_]; exact (by repeat (first | (with_reducible first | exact HB.out | apply below_alloc | apply pw_below_drewN | apply below_drew1 | refine below_set ?_ GE125.out) | exact HB.out))⟩; clear HO_4 BK125 HB hq_; have HO_4 := n0_; have BK125 := n1_; have HB := n2_; clear n0_ n1_ n2_))) | ((with_reducible refine gate_callee (f := 51) rfl ?_); refine goesL_ (some 57) rfl rfl Try.func51 (by kernel_rfl) rfl #[.int .i64 t126, .int .i64 x40_2] rfl (by (try simp only [List.map_toArray, List.map_cons, List.map_nil]); first | done | rfl | (simp only [List.length_drop, List.length_take]; rfl)) ?_; (with_reducible refine (place_Top.calls t126 x40_2 t143 t144 _ A41.out).mono ?_); rintro e w' ⟨rfl, ⟨nd, rfl⟩⟩; refine ⟨_, rfl, ?_⟩; (try (rw [drewN_self w54]; generalize hq_ : World.drewN w54 _ = w54; have n0_ : Aside0 (Kd.R (Kd.int .u64) 22 w54 w.heap.size (fun _ => True) (.slice (some ⟨go26, 0, none⟩) x4_2.length co26) y140) := ⟨by rw [← hq_]; exact (by (with_reducible repeat (first | apply Kd.R_alloc | apply Kd.R_drewN | apply Kd.R_drew)); exact HO_4.out)⟩; have n1_ : Aside0 (w54.heap[gb125]? = some (.cells #[.int .u32 a0_0, .int .i64 a0_1, .slice A0_2 l0_2.length c0_2, .int .i64 a0_3, .int .i64 a0_4, .int .i64 a0_5, .int .i64 a0_6] 36 (0, 0))) := ⟨by rw [← hq_]; exact (by (with_reducible repeat (first | refine blk_drewN ?_ _ | refine blk_drew ?_ | refine blk_alloc ?_ _)); exact BK125.out)⟩; have n2_ : Aside0 (Below w.heap.size w w54) := ⟨by rw [← hq_]; exact (by repeat (first | (with_reducible first | exact HB.out | apply below_alloc | apply pw_below_drewN | apply below_drew1 | refine below_set ?_ GE125.out) | exact HB.out))⟩; clear HO_4 BK125 HB hq_; have HO_4 := n0_; have BK125 := n1_; have HB := n2_; clear n0_ n1_ n2_))) | ((with_reducible refine gate_callee (f := 52) rfl ?_); refine goesL_ (some 63) rfl rfl Try.func52 (by kernel_rfl) rfl #[.int .i64 t126, .int .i64 x40_2] rfl (by (try simp only [List.map_toArray, List.map_cons, List.map_nil]); first | done | rfl | (simp only [List.length_drop, List.length_take]; rfl)) ?_; (with_reducible refine (place_Root.calls t126 x40_2 t145 t146 _ A42.out).mono ?_); rintro e w' ⟨rfl, ⟨nd, rfl⟩⟩; refine ⟨_, rfl, ?_⟩; (try (rw [drewN_self w54]; generalize hq_ : World.drewN w54 _ = w54; have n0_ : Aside0 (Kd.R (Kd.int .u64) 22 w54 w.heap.size (fun _ => True) (.slice (some ⟨go26, 0, none⟩) x4_2.length co26) y140) := ⟨by rw [← hq_]; exact (by (with_reducible repeat (first | apply Kd.R_alloc | apply Kd.R_drewN | apply Kd.R_drew)); exact HO_4.out)⟩; have n1_ : Aside0 (w54.heap[gb125]? = some (.cells #[.int .u32 a0_0, .int .i64 a0_1, .slice A0_2 l0_2.length c0_2, .int .i64 a0_3, .int .i64 a0_4, .int .i64 a0_5, .int .i64 a0_6] 36 (0, 0))) := ⟨by rw [← hq_]; exact (by (with_reducible repeat (first | refine blk_drewN ?_ _ | refine blk_drew ?_ | refine blk_alloc ?_ _)); exact BK125.out)⟩; have n2_ : Aside0 (Below w.heap.size w w54) := ⟨by rw [← hq_]; exact (by repeat (first | (with_reducible first | exact HB.out | apply below_alloc | apply pw_below_drewN | apply below_drew1 | refine below_set ?_ GE125.out) | exact HB.out))⟩; clear HO_4 BK125 HB hq_; have HO_4 := n0_; have BK125 := n1_; have HB := n2_; clear n0_ n1_ n2_))))
                                    have n0_ := Aside0.mk (Kd.R_drew HO_4.out)
                                    have n1_ := Aside0.mk (blk_drew BK125.out)
                                    have n2_ := Aside0.mk (below_drew1 HB.out)
                                    clear HO_4
                                    clear BK125
                                    clear HB
                                    have HO_4 := n0_
                                    have BK125 := n1_
                                    have HB := n2_
                                    clear n0_ n1_ n2_
                                    have p147 : 0 ≤ (t143 : Int) := of_decide_eq_true (by first | (with_reducible assumption) | assumption)
                                    have q147 : t143 < (y140.length : Int) := (by have h_ : (t143 : Int) < ((x4_2.length : Int) : Int) := of_decide_eq_true (by first | (with_reducible assumption) | assumption); first | (have e_ := (Kd.R_reads' HO_4.out).1; omega) | simpa only [Ny140.out, List.length_set] using h_)
                                    have ql147 : ((t143 : Int) < ((x4_2.length : Int) : Int)) = True := eq_true (of_decide_eq_true (by first | (with_reducible assumption) | assumption))
                                    obtain ⟨ad147, e147, hx147_0⟩ := Kd.at_int (Kd.R_reads' HO_4.out).2.2 t143 p147 q147
                                    obtain rfl : (⟨go26, 0, none⟩ : Addr) = ad147 := (by injection e147)
                                    (first | simp only [add_plain] at hx147_0 | simp only [add_at] at hx147_0 | simp only [Addr.add, Nat.zero_add] at hx147_0 | skip)
                                    replace p147 := eq_true p147
                                    replace q147 := eq_true q147
                                    have p149 : 0 ≤ (ji23 : Int) := of_decide_eq_true (by first | (with_reducible assumption) | assumption)
                                    have q149 : ji23 < (y140.length : Int) := (by have h_ : (ji23 : Int) < ((x4_2.length : Int) : Int) := of_decide_eq_true (by first | (with_reducible assumption) | assumption); first | (have e_ := (Kd.R_reads' HO_4.out).1; omega) | simpa only [Ny140.out, List.length_set] using h_)
                                    have ql149 : ((ji23 : Int) < ((x4_2.length : Int) : Int)) = True := eq_true (of_decide_eq_true (by first | (with_reducible assumption) | assumption))
                                    obtain ⟨ad149, e149, hx149_0⟩ := Kd.at_int (Kd.R_reads' HO_4.out).2.2 ji23 p149 q149
                                    obtain rfl : (⟨go26, 0, none⟩ : Addr) = ad149 := (by injection e149)
                                    (first | simp only [add_plain] at hx149_0 | simp only [add_at] at hx149_0 | simp only [Addr.add, Nat.zero_add] at hx149_0 | skip)
                                    replace p149 := eq_true p149
                                    replace q149 := eq_true q149
                                    refine start_ (n := 20) (S := fun w' => w'.cell? ⟨go26, (t143).toNat, none⟩ = some (.int .u64 (rd y140 t143)) ∧ w'.cell? ⟨go26, (ji23).toNat, none⟩ = some (.int .u64 (rd y140 ji23))) (ds := [17, 19]) #[false, false, false, false, false, false, false, false, false, false, false, false, false, false, false, false, false, false, false, false] (by kernel_rfl) rfl rfl ⟨hx147_0, hx149_0⟩ (fun hHeld => ?_); refine with_tabW word_Cells.tab17 word_Cells.bits17 (fun HT_ HW_ => ?_)
                                    generalize w54.drew = w55 at HO_4 BK125 HB hx147_0 hx149_0 hHeld ⊢
                                    refine pure_ (i := 0) (N := some 66) (v := ?_) (a' := ?_) #[true, false, false, false, false, false, false, false, false, false, false, false, false, false, false, false, false, false, false, false] rfl rfl (any_of HT_.out (by kernel_rfl)) (fun _ _ _ h => h) (Or.inl ⟨by rfl, ?_⟩) ?_ ?_
                                    rotate_left
                                    · intro w'
                                      go_simp
                                      with_reducible rfl
                                    rotate_left
                                    · simp only [Act.put, List.setIfInBounds_toArray, List.set_cons_zero, List.set_cons_succ, i64_w, i32_w]
                                      rfl
                                    refine pure_ (i := 1) (N := some 67) (v := ?_) (a' := ?_) #[true, true, false, false, false, false, false, false, false, false, false, false, false, false, false, false, false, false, false, false] rfl rfl (any_of HT_.out (by kernel_rfl)) (fun _ _ _ h => h) (Or.inl ⟨by rfl, ?_⟩) ?_ ?_
                                    rotate_left
                                    · intro w'
                                      go_simp
                                      with_reducible rfl
                                    rotate_left
                                    · simp only [Act.put, List.setIfInBounds_toArray, List.set_cons_zero, List.set_cons_succ, i64_w, i32_w]
                                      rfl
                                    refine pure_ (i := 2) (N := some 68) (v := ?_) (a' := ?_) #[true, true, true, false, false, false, false, false, false, false, false, false, false, false, false, false, false, false, false, false] rfl rfl (any_of HT_.out (by kernel_rfl)) (fun _ _ _ h => h) (Or.inl ⟨by rfl, ?_⟩) ?_ ?_
                                    rotate_left
                                    · intro w'
                                      go_simp
                                      with_reducible rfl
                                    rotate_left
                                    · simp only [Act.put, List.setIfInBounds_toArray, List.set_cons_zero, List.set_cons_succ, i64_w, i32_w]
                                      rfl
                                    refine pure_ (i := 3) (N := some 69) (v := ?_) (a' := ?_) #[true, true, true, true, false, false, false, false, false, false, false, false, false, false, false, false, false, false, false, false] rfl rfl (any_of HT_.out (by kernel_rfl)) (fun _ _ _ h => h) (Or.inl ⟨by rfl, ?_⟩) ?_ ?_
                                    rotate_left
                                    · intro w'
                                      go_simp
                                      with_reducible rfl
                                    rotate_left
                                    · simp only [Act.put, List.setIfInBounds_toArray, List.set_cons_zero, List.set_cons_succ, i64_w, i32_w]
                                      rfl
                                    refine pure_ (i := 4) (N := some 70) (v := ?_) (a' := ?_) #[true, true, true, true, true, false, false, false, false, false, false, false, false, false, false, false, false, false, false, false] rfl rfl (any_of HT_.out (by kernel_rfl)) (fun _ _ _ h => h) (Or.inl ⟨by rfl, ?_⟩) ?_ ?_
                                    rotate_left
                                    · intro w'
                                      go_simp
                                      with_reducible rfl
                                    rotate_left
                                    · simp only [Act.put, List.setIfInBounds_toArray, List.set_cons_zero, List.set_cons_succ, i64_w, i32_w]
                                      rfl
                                    refine pure_ (i := 5) (N := some 71) (v := ?_) (a' := ?_) #[true, true, true, true, true, true, false, false, false, false, false, false, false, false, false, false, false, false, false, false] rfl rfl (any_of HT_.out (by kernel_rfl)) (fun _ _ _ h => h) (Or.inl ⟨by rfl, ?_⟩) ?_ ?_
                                    rotate_left
                                    · intro w'
                                      go_simp
                                      with_reducible rfl
                                    rotate_left
                                    · simp only [Act.put, List.setIfInBounds_toArray, List.set_cons_zero, List.set_cons_succ, i64_w, i32_w]
                                      rfl
                                    refine pure_ (i := 6) (N := some 72) (v := ?_) (a' := ?_) #[true, true, true, true, true, true, true, false, false, false, false, false, false, false, false, false, false, false, false, false] rfl rfl (any_of HT_.out (by kernel_rfl)) (fun _ _ _ h => h) (Or.inl ⟨by rfl, ?_⟩) ?_ ?_
                                    rotate_left
                                    · intro w'
                                      go_simp
                                      with_reducible rfl
                                    rotate_left
                                    · simp only [Act.put, List.setIfInBounds_toArray, List.set_cons_zero, List.set_cons_succ, i64_w, i32_w]
                                      rfl
                                    refine pure_ (i := 8) (N := some 74) (v := ?_) (a' := ?_) #[true, true, true, true, true, true, true, false, true, false, false, false, false, false, false, false, false, false, false, false] rfl rfl (any_of HT_.out (by kernel_rfl)) (fun _ _ _ h => h) (Or.inl ⟨by rfl, ?_⟩) ?_ ?_
                                    rotate_left
                                    · intro w'
                                      go_simp
                                      with_reducible rfl
                                    rotate_left
                                    · simp only [Act.put, List.setIfInBounds_toArray, List.set_cons_zero, List.set_cons_succ, i64_w, i32_w]
                                      rfl
                                    refine pure_ (i := 10) (N := some 76) (v := ?_) (a' := ?_) #[true, true, true, true, true, true, true, false, true, false, true, false, false, false, false, false, false, false, false, false] rfl rfl (any_of HT_.out (by kernel_rfl)) (fun _ _ _ h => h) (Or.inl ⟨by rfl, ?_⟩) ?_ ?_
                                    rotate_left
                                    · intro w'
                                      go_simp
                                      with_reducible rfl
                                    rotate_left
                                    · simp only [Act.put, List.setIfInBounds_toArray, List.set_cons_zero, List.set_cons_succ, i64_w, i32_w]
                                      rfl
                                    refine pure_ (i := 11) (N := some 77) (v := ?_) (a' := ?_) #[true, true, true, true, true, true, true, false, true, false, true, true, false, false, false, false, false, false, false, false] rfl rfl (any_of HT_.out (by kernel_rfl)) (fun _ _ _ h => h) (Or.inl ⟨by rfl, ?_⟩) ?_ ?_
                                    rotate_left
                                    · intro w'
                                      go_simp
                                      with_reducible rfl
                                    rotate_left
                                    · simp only [Act.put, List.setIfInBounds_toArray, List.set_cons_zero, List.set_cons_succ, i64_w, i32_w]
                                      rfl
                                    refine pure_ (i := 12) (N := some 78) (v := ?_) (a' := ?_) #[true, true, true, true, true, true, true, false, true, false, true, true, true, false, false, false, false, false, false, false] rfl rfl (any_of HT_.out (by kernel_rfl)) (fun _ _ _ h => h) (Or.inl ⟨by rfl, ?_⟩) ?_ ?_
                                    rotate_left
                                    · intro w'
                                      go_simp
                                      with_reducible rfl
                                    rotate_left
                                    · simp only [Act.put, List.setIfInBounds_toArray, List.set_cons_zero, List.set_cons_succ, i64_w, i32_w]
                                      rfl
                                    refine pure_ (i := 14) (N := some 80) (v := ?_) (a' := ?_) #[true, true, true, true, true, true, true, false, true, false, true, true, true, false, true, false, false, false, false, false] rfl rfl (any_of HT_.out (by kernel_rfl)) (fun _ _ _ h => h) (Or.inl ⟨by rfl, ?_⟩) ?_ ?_
                                    rotate_left
                                    · intro w'
                                      go_simp
                                      with_reducible rfl
                                    rotate_left
                                    · simp only [Act.put, List.setIfInBounds_toArray, List.set_cons_zero, List.set_cons_succ, i64_w, i32_w]
                                      rfl
                                    refine take_ (i := 7) (N := some 73) (v := ?_) (a' := ?_) #[true, true, true, true, true, true, true, true, true, false, true, true, true, false, true, false, false, false, false, false] rfl rfl (take_ofW HT_.out HW_.out (by kernel_rfl)) (fun _ _ _ h => h) (Or.inl ⟨by rfl, ?_⟩) hHeld ?_ ?_
                                    rotate_left
                                    · rintro w' ⟨s0, s1⟩
                                      go_simp
                                      with_reducible rfl
                                    rotate_left
                                    · simp only [Act.put, List.setIfInBounds_toArray, List.set_cons_zero, List.set_cons_succ, i64_w, i32_w]
                                      rfl
                                    refine take_ (i := 13) (N := some 79) (v := ?_) (a' := ?_) #[true, true, true, true, true, true, true, true, true, false, true, true, true, true, true, false, false, false, false, false] rfl rfl (take_ofW HT_.out HW_.out (by kernel_rfl)) (fun _ _ _ h => h) (Or.inl ⟨by rfl, ?_⟩) hHeld ?_ ?_
                                    rotate_left
                                    · rintro w' ⟨s0, s1⟩
                                      go_simp
                                      with_reducible rfl
                                    rotate_left
                                    · simp only [Act.put, List.setIfInBounds_toArray, List.set_cons_zero, List.set_cons_succ, i64_w, i32_w]
                                      rfl
                                    refine one_ (i := 9) (N := some 75) #[true, true, true, true, true, true, true, true, true, true, true, true, true, true, true, false, false, false, false, false] rfl rfl (one_of HT_.out (by kernel_rfl)) (by decide) (fun K hK => ?_)
                                    refine goes_ Try.func53 (by kernel_rfl) rfl #[.int .u64 (rd y140 t143), .int .i64 t144] (by rfl) rfl rfl (by (try simp only [List.map_toArray, List.map_cons, List.map_nil]); first | done | rfl | (simp only [List.length_drop, List.length_take]; rfl)) ?_
                                    with_reducible refine (bits_Clear.calls (rd y140 t143) t144 t148 _ A45.out).mono ?_
                                    rintro e w' ⟨rfl, ⟨nd, rfl⟩⟩
                                    refine ⟨_, rfl, ?_⟩
                                    refine hK.out _ _ ⟨hHeld.1, hHeld.2⟩ (fun hHeld => ?_)
                                    clear hK K
                                    refine norm_ (a' := ?_) ?_ ?_
                                    rotate_left
                                    · show Act.put _ (some 75) _ = _
                                      simp only [Act.put, List.setIfInBounds_toArray, List.set_cons_zero, List.set_cons_succ, i64_w, i32_w]
                                      rfl
                                    refine one_ (i := 15) (N := some 81) #[true, true, true, true, true, true, true, true, true, true, true, true, true, true, true, true, false, false, false, false] rfl rfl (one_of HT_.out (by kernel_rfl)) (by decide) (fun K hK => ?_)
                                    refine goes_ Try.func53 (by kernel_rfl) rfl #[.int .u64 (rd y140 ji23), .int .i64 t146] (by rfl) rfl rfl (by (try simp only [List.map_toArray, List.map_cons, List.map_nil]); first | done | (simp only [hji23]; rfl) | rfl | (simp only [List.length_drop, List.length_take]; rfl)) ?_
                                    with_reducible refine (bits_Clear.calls (rd y140 ji23) t146 t150 _ A48.out).mono ?_
                                    rintro e w' ⟨rfl, ⟨nd, rfl⟩⟩
                                    refine ⟨_, rfl, ?_⟩
                                    have p49 : 0 ≤ (t143 : Int) := of_decide_eq_true (by first | (with_reducible assumption) | assumption)
                                    have q49 : (t143 : Int) < ((x4_2.length : Int) : Int) := of_decide_eq_true (by first | (with_reducible assumption) | assumption)
                                    obtain ⟨hx49_0, hf49_0⟩ := Kd.R_celln 0 HO_4.out (t143 : Int) p49 q49
                                    replace p49 := eq_true p49
                                    replace q49 := eq_true q49
                                    have HP56 := Kd.R_putn HO_4.out (t143 : Int) t148
                                    rw [← Ny151.out] at HP56
                                    have HQ56 := Aside0.mk HP56
                                    clear HP56
                                    have p50 : 0 ≤ (ji23 : Int) := of_decide_eq_true (by first | (with_reducible assumption) | assumption)
                                    have q50 : (ji23 : Int) < ((x4_2.length : Int) : Int) := of_decide_eq_true (by first | (with_reducible assumption) | assumption)
                                    obtain ⟨hx50_0, hf50_0⟩ := Kd.R_celln 0 HQ56.out (ji23 : Int) p50 q50
                                    have hx50_d := cell_put_drew hx50_0
                                    have hf50_d := frozen_put hf50_0
                                    replace p50 := eq_true p50
                                    replace q50 := eq_true q50
                                    have HP57 := Kd.R_putn HQ56.out (ji23 : Int) t150
                                    rw [← Ny152.out] at HP57
                                    have HQ57 := Aside0.mk HP57
                                    clear HP57
                                    refine hK.out _ _ ⟨hHeld.1, hHeld.2⟩ (fun hHeld => ?_)
                                    clear hK K
                                    refine norm_ (a' := ?_) ?_ ?_
                                    rotate_left
                                    · show Act.put _ (some 81) _ = _
                                      simp only [Act.put, List.setIfInBounds_toArray, List.set_cons_zero, List.set_cons_succ, i64_w, i32_w]
                                      rfl
                                    refine pure_ (i := 16) (N := some 82) (v := ?_) (a' := ?_) #[true, true, true, true, true, true, true, true, true, true, true, true, true, true, true, true, true, false, false, false] rfl rfl (any_of HT_.out (by kernel_rfl)) (fun _ _ _ h => h) (Or.inl ⟨by rfl, ?_⟩) ?_ ?_
                                    rotate_left
                                    · intro w'
                                      go_simp
                                      with_reducible rfl
                                    rotate_left
                                    · simp only [Act.put, List.setIfInBounds_toArray, List.set_cons_zero, List.set_cons_succ, i64_w, i32_w]
                                      rfl
                                    refine last_ (i := 17) (N := none) #[true, true, true, true, true, true, true, true, true, true, true, true, true, true, true, true, true, true, false, false] rfl rfl (one_of HT_.out (by kernel_rfl)) (by decide) (fun K hK => ?_)
                                    refine skip_ (w1 := ?_) (by rfl) rfl ?_ ?_
                                    rotate_left
                                    · go_simp
                                      rfl
                                    refine hK.out _ _ ?_
                                    clear hK K
                                    refine pure_ (i := 18) (N := some 83) (v := ?_) (a' := ?_) #[true, true, true, true, true, true, true, true, true, true, true, true, true, true, true, true, true, true, true, false] rfl rfl (any_of HT_.out (by kernel_rfl)) (fun _ _ _ h => h) (Or.inl ⟨by rfl, ?_⟩) ?_ ?_
                                    rotate_left
                                    · intro w'
                                      go_simp
                                      with_reducible rfl
                                    rotate_left
                                    · simp only [Act.put, List.setIfInBounds_toArray, List.set_cons_zero, List.set_cons_succ, i64_w, i32_w]
                                      rfl
                                    refine last_ (i := 19) (N := none) #[true, true, true, true, true, true, true, true, true, true, true, true, true, true, true, true, true, true, true, true] rfl rfl (one_of HT_.out (by kernel_rfl)) (by decide) (fun K hK => ?_)
                                    refine skip_ (w1 := ?_) (by rfl) rfl ?_ ?_
                                    rotate_left
                                    · go_simp
                                      rfl
                                    refine hK.out _ _ ?_
                                    clear hK K
                                    refine done_ (done_of HT_.out (by kernel_rfl)) ?_
                                    try go_wp2
                                    (try simp only [← hl4_2])
                                    go_roundg k2
                                    case measure => have := HK1.out; have := HK2.out; omega
                                    case rel => exact ⟨(y152), (wrap64 (x40_2 + 1)), (by first | rfl | (simp; done) | (simp [*]; done)), H', ⟨by have := HK1.out; have := HK2.out; omega⟩, ⟨by (try simp only [hl4_2]); (with_reducible repeat (first | apply Kd.R_alloc | apply Kd.R_drewN | apply Kd.R_drew)); exact HQ57.out⟩, ⟨by (try simp only [hl4_2]); (with_reducible repeat (first | refine blk_drewN ?_ _ | refine blk_drew ?_ | refine blk_alloc ?_ _)); refine blk_far ?_ (by have h_ := Kd.R_ne HO_4.out BK125.out (by decide); intro e_; exact h_ (by rw [e_]; rfl)) _; (with_reducible repeat (first | refine blk_drewN ?_ _ | refine blk_drew ?_ | refine blk_alloc ?_ _)); refine blk_far ?_ (by have h_ := Kd.R_ne HO_4.out BK125.out (by decide); intro e_; exact h_ (by rw [e_]; rfl)) _; (with_reducible repeat (first | refine blk_drewN ?_ _ | refine blk_drew ?_ | refine blk_alloc ?_ _)); exact BK125.out⟩, ⟨by repeat (first | (with_reducible first | exact HB.out | apply below_alloc | apply pw_below_drewN | apply below_drew1 | refine below_set ?_ GB26.out | refine below_set ?_ GB26.out | refine below_set ?_ GE125.out) | exact HB.out)⟩⟩
                                  · rw [if_neg c47] at H
                                    exact absurd H (by simp)
                                · rw [if_neg c46] at H
                                  exact absurd H (by simp)
                              · rw [if_neg c44] at H
                                exact absurd H (by simp)
                            · rw [if_neg c43] at H
                              exact absurd H (by simp)
                        · rw [if_neg c33] at H
                          exact absurd H (by simp)
                      · rw [if_neg c32] at H
                        exact absurd H (by simp)
                    · rw [if_neg c30] at H
                      have c30b0 : decide (x40_2 < t138) = false := decide_eq_false c30
                      clear c30
                      obtain rfl := Option.some.inj H
                      go_wp2
                      go_ret
                      exact ⟨_, by first | rfl | (simp [errW_none, errW_some] <;> rfl) | (simp only [← hji23]; first | rfl | (simp [errW_none, errW_some] <;> rfl)) | (simp [*, errW_none, errW_some] <;> rfl), by (with_reducible repeat (first | apply Kd.R_alloc | apply Kd.R_drewN | apply Kd.R_drew)); exact HO_4.out, by repeat (first | (with_reducible first | exact HB.out | apply below_alloc | apply pw_below_drewN | apply below_drew1 | refine below_set ?_ GE125.out) | exact HB.out)⟩
              · rw [if_neg c25] at H
                exact absurd H (by simp)
            · rw [if_neg c24] at H
              exact absurd H (by simp)
    · rw [if_neg c5] at H
      exact absurd H (by simp)
  · rw [if_neg c4] at H
    exact absurd H (by simp)

end Go.Proofs.Ytdbpdpdpabhfbaa.PWordUsable
