/- The walk of ModelTells, part of it: what the Go functions answer; no condition. -/
import Derived.Test.YthfcgjmffjmplaaQModelTellsx0
import Derived.Test.YthfcgjmffjmplaaQModelTellsx4
import Derived.Test.YthfcgjmffjmplaaQModelTellsx8
namespace Go.Proofs.Ythfcgjmffjmplaa.PModelTells
open Go.RowKit Go.Proofs.YthfcgjmffjmplaaW.PrintWords Go.Proofs.YthfcgjmffjmplaaW.PrintLast Go.Proofs.YthfcgjmffjmplaaW.PrintMore
attribute [local go_sem] max2_int min2_int max_two min_two max_three min_three max_four min_four   -- for this text's walks alone
set_option linter.unusedVariables false
set_option linter.unusedSimpArgs false

/-! ### lodgerref09_Full: function 26 -/
def lodgerref09_Full.l0 : Nat → List Int → Int → Int → Int → List Int → Int → Int → Int → Int → Option (Bool)
 | 0, _, _, _, _, _, _, _, _, _ => none
 | k + 1, x1, x5, x274000, x274001, x274002, x274003, x274004, x274005, x274006 => (lodgerref05_Many.f k x274000 x274001).bind fun t274 => (if x5 < t274 then ((lodgerref05_Held.f k x274000 x274001 x274002 x274003 x274004 x274005 x274006 x5).bind fun t275 => (if t275 = true then (lodgerref09_Full.l0 k x1 (wrap64 (x5 + 1)) x274000 x274001 x274002 x274003 x274004 x274005 x274006) else ((lodgerref09_Has.f k x1 x5).bind fun t276 => (if t276 = true then (lodgerref09_Full.l0 k x1 (wrap64 (x5 + 1)) x274000 x274001 x274002 x274003 x274004 x274005 x274006) else (some false))))) else (some true))
def lodgerref09_Full.f (k : Nat) (a0_0 : Int) (a0_1 : Int) (l0_2 : List Int) (a0_3 : Int) (a0_4 : Int) (a0_5 : Int) (a0_6 : Int) (l1 : List Int) : Option (Bool) := lodgerref09_Full.l0 k l1 0 a0_0 a0_1 l0_2 a0_3 a0_4 a0_5 a0_6
theorem lodgerref09_Full.mono_l : ∀ k, (∀ y0 y1 y2 y3 y4 y5 y6 y7 y8, LeO (lodgerref09_Full.l0 k y0 y1 y2 y3 y4 y5 y6 y7 y8) (lodgerref09_Full.l0 (k + 1) y0 y1 y2 y3 y4 y5 y6 y7 y8))
 | 0 => fun _ _ _ _ _ _ _ _ _ r h => by simp [lodgerref09_Full.l0] at h
 | k + 1 => by
  have ih0 := lodgerref09_Full.mono_l k
  ·intro y0 y1 y2 y3 y4 y5 y6 y7 y8
   unfold lodgerref09_Full.l0
   repeat' first
   | (with_reducible exact ih0 _ _ _ _ _ _ _ _ _)
   | (with_reducible exact lodgerref05_Held.mono _ _ _ _ _ _ _ _ _)
   | (with_reducible exact lodgerref05_Many.mono _ _ _)
   | (with_reducible exact lodgerref09_Has.mono _ _ _)
   | (with_reducible exact LeO.refl _)
   | (with_reducible exact LeO.none _)
   | (with_reducible refine LeO.ite ?_ ?_)
   | (with_reducible refine LeO.bind ?_ (fun _ => ?_))
   | exact ih0 _ _ _ _ _ _ _ _ _
   | exact lodgerref05_Held.mono _ _ _ _ _ _ _ _ _
   | exact lodgerref05_Many.mono _ _ _
   | exact lodgerref09_Has.mono _ _ _
   | exact LeO.none _
   | refine LeO.ite ?_ ?_
   | refine LeO.bind ?_ (fun _ => ?_)
theorem lodgerref09_Full.mono : ∀ a0 a1 a2 a3 a4 a5 a6 a7 k, LeO (lodgerref09_Full.f k a0 a1 a2 a3 a4 a5 a6 a7) (lodgerref09_Full.f (k + 1) a0 a1 a2 a3 a4 a5 a6 a7) := by
 intro a0 a1 a2 a3 a4 a5 a6 a7 k
 have ih0 := lodgerref09_Full.mono_l k
 unfold lodgerref09_Full.f
 repeat' first
   | (with_reducible exact ih0 _ _ _ _ _ _ _ _ _)
   | (with_reducible exact lodgerref05_Held.mono _ _ _ _ _ _ _ _ _)
   | (with_reducible exact lodgerref05_Many.mono _ _ _)
   | (with_reducible exact lodgerref09_Has.mono _ _ _)
   | (with_reducible exact LeO.refl _)
   | (with_reducible exact LeO.none _)
   | (with_reducible refine LeO.ite ?_ ?_)
   | (with_reducible refine LeO.bind ?_ (fun _ => ?_))
   | exact ih0 _ _ _ _ _ _ _ _ _
   | exact lodgerref05_Held.mono _ _ _ _ _ _ _ _ _
   | exact lodgerref05_Many.mono _ _ _
   | exact lodgerref09_Has.mono _ _ _
   | exact LeO.none _
   | refine LeO.ite ?_ ?_
   | refine LeO.bind ?_ (fun _ => ?_)
set_option maxHeartbeats 8000000 in
set_option maxRecDepth 100000 in
theorem lodgerref09_Full.calls (k : Nat) (a0_0 : Int) (a0_1 : Int) (A0_2 : Option Addr) (c0_2 : Nat) (l0_2 : List Int) (a0_3 : Int) (a0_4 : Int) (a0_5 : Int) (a0_6 : Int) (A1 : Option Addr) (c1 : Nat) (l1 : List Int) (r : Bool) (w : World) (hr0_2 : Kd.C (Kd.int .i64) w A0_2 l0_2.length l0_2) (hc0_2 : l0_2.length ≤ c0_2) (hr1 : Kd.C (Kd.int .i64) w A1 l1.length l1) (hc1 : l1.length ≤ c1) (h : lodgerref09_Full.f k a0_0 a0_1 l0_2 a0_3 a0_4 a0_5 a0_6 l1 = some r) :
  Calls Try.prog 26 #[.agg #[.int .u32 a0_0, .int .i64 a0_1, .slice A0_2 l0_2.length c0_2, .int .i64 a0_3, .int .i64 a0_4, .int .i64 a0_5, .int .i64 a0_6], .slice A1 l1.length c1] w fun e w' => e = .returned (.bool r) ∧ Below w.heap.size w w' := by
 have hu27 := Try.underlying27
 have hu24 := Try.underlying24
 have HR0_2 := Aside0.mk hr0_2
 have HC0_2 := Aside0.mk hc0_2
 clear hr0_2 hc0_2
 have HR1 := Aside0.mk hr1
 have HC1 := Aside0.mk hc1
 clear hr1 hc1
 have HB := Aside0.mk (Below.refl w.heap.size w)
 have H : (lodgerref09_Full.l0 k l1 0 a0_0 a0_1 l0_2 a0_3 a0_4 a0_5 a0_6) = some r := h
 clear h
 have H' := Aside0.mk H
 clear H
 go_enter Try.func26, Try.ntmps26
 go_wp2_with (first | ((with_reducible refine gate_dst (N := 2) rfl ?_); refine box_event ?hg (N := 2) ?hd (cs := #[.int .u32 a0_0, .int .i64 a0_1, .slice A0_2 l0_2.length c0_2, .int .i64 a0_3, .int .i64 a0_4, .int .i64 a0_5, .int .i64 a0_6]) (t := 27) ?hr ?_; (case hd => rfl); (case hg => rfl); (case hr => first | (go_simp; done) | (go_simp; rfl)); intro gb273 hg w3 hbox hb; have n0_ := Aside0.mk (below_step (by repeat (first | (with_reducible first | exact HB.out | apply below_alloc | apply pw_below_drewN | apply below_drew1) | exact HB.out)) hb); have n1_ := Aside0.mk (hbox); have n2_ := Aside0.mk ((by rw [hg]; exact (below_size (by repeat (first | (with_reducible first | exact HB.out | apply below_alloc | apply pw_below_drewN | apply below_drew1) | exact HB.out))) : w.heap.size ≤ gb273)); have n3_ := Aside0.mk ((by rw [hg]; exact (below_size (by repeat (first | (with_reducible first | exact HB.out | apply below_alloc | apply pw_below_drewN | apply below_drew1) | exact HB.out))) : w.heap.size ≤ gb273)); clear HB; have HB := n0_; have BK273 := n1_; have GW273 := n2_; have GE273 := n3_; clear n0_ n1_ n2_ n3_; clear hb hbox hg))
 go_loopg [5] k (fun kq v5 w' => ∃ (x5_1 : Int), v5 = .int .i64 x5_1 ∧ Aside0 (lodgerref09_Full.l0 kq l1 x5_1 a0_0 a0_1 l0_2 a0_3 a0_4 a0_5 a0_6 = some r) ∧ Aside0 (kq ≤ k) ∧ Aside0 (w'.heap[gb273]? = some (.cells #[.int .u32 a0_0, .int .i64 a0_1, (.slice A0_2 l0_2.length c0_2), .int .i64 a0_3, .int .i64 a0_4, .int .i64 a0_5, .int .i64 a0_6] 27 (0, 0))) ∧ Aside0 (Below w.heap.size w w'))
 case atStart => exact ⟨(0), (by first | rfl | (simp; done) | (simp [*]; done)), H', ⟨Nat.le_refl _⟩, ⟨by (with_reducible repeat (first | refine blk_drewN ?_ _ | refine blk_drew ?_ | refine blk_alloc ?_ _)); exact BK273.out⟩, ⟨by repeat (first | (with_reducible first | exact HB.out | apply below_alloc | apply pw_below_drewN | apply below_drew1 | refine below_set ?_ GE273.out) | exact HB.out)⟩⟩
 case round =>
  clear H'
  try clear c1
  try clear c2
  try clear p2
  obtain ⟨x5_1, rfl, HA, HK1, BK273, HB⟩ := hrel
  cases gk with
  | zero => exact absurd HA.out (by simp [lodgerref09_Full.l0])
  | succ k1 =>
   have H := HA.out
   clear HA
   simp only [lodgerref09_Full.l0] at H
   replace H := Option.bind_eq_some_iff.mp H
   obtain ⟨t274, A40, H⟩ := H
   replace H : (if x5_1 < t274 then ((lodgerref05_Held.f k1 a0_0 a0_1 l0_2 a0_3 a0_4 a0_5 a0_6 x5_1).bind fun t275 => (if t275 = true then (lodgerref09_Full.l0 k1 l1 (wrap64 (x5_1 + 1)) a0_0 a0_1 l0_2 a0_3 a0_4 a0_5 a0_6) else ((lodgerref09_Has.f k1 l1 x5_1).bind fun t276 => (if t276 = true then (lodgerref09_Full.l0 k1 l1 (wrap64 (x5_1 + 1)) a0_0 a0_1 l0_2 a0_3 a0_4 a0_5 a0_6) else (some false))))) else (some true)) = some r := H
   have A4 := Aside0.mk A40
   clear A40
   by_cases c5 : x5_1 < t274
   ·rw [if_pos c5] at H
    have c5b0 : decide (x5_1 < t274) = true := decide_eq_true c5
    clear c5
    replace H := Option.bind_eq_some_iff.mp H
    obtain ⟨t275, A60, H⟩ := H
    replace H : (if t275 = true then (lodgerref09_Full.l0 k1 l1 (wrap64 (x5_1 + 1)) a0_0 a0_1 l0_2 a0_3 a0_4 a0_5 a0_6) else ((lodgerref09_Has.f k1 l1 x5_1).bind fun t276 => (if t276 = true then (lodgerref09_Full.l0 k1 l1 (wrap64 (x5_1 + 1)) a0_0 a0_1 l0_2 a0_3 a0_4 a0_5 a0_6) else (some false)))) = some r := H
    have A6 := Aside0.mk A60
    clear A60
    by_cases c7 : t275 = true
    ·subst c7
     have H1 : (lodgerref09_Full.l0 k1 l1 (wrap64 (x5_1 + 1)) a0_0 a0_1 l0_2 a0_3 a0_4 a0_5 a0_6) = some r := by rw [if_pos rfl] at H; exact H
     clear H
     have H := H1
     clear H1
     have H' := Aside0.mk H
     clear H
     have hcz8_0 : wr.cell? ⟨gb273, 0, none⟩ = some (.int .u32 a0_0) := (blk_cell BK273.out 0).trans rfl
     have hcz8_1 : wr.cell? ⟨gb273, 1, none⟩ = some (.int .i64 a0_1) := (blk_cell BK273.out 1).trans rfl
     have hcz8_2 : wr.cell? ⟨gb273, 2, none⟩ = some (.slice A0_2 l0_2.length c0_2) := (blk_cell BK273.out 2).trans rfl
     have hcz8_3 : wr.cell? ⟨gb273, 3, none⟩ = some (.int .i64 a0_3) := (blk_cell BK273.out 3).trans rfl
     have hcz8_4 : wr.cell? ⟨gb273, 4, none⟩ = some (.int .i64 a0_4) := (blk_cell BK273.out 4).trans rfl
     have hcz8_5 : wr.cell? ⟨gb273, 5, none⟩ = some (.int .i64 a0_5) := (blk_cell BK273.out 5).trans rfl
     have hcz8_6 : wr.cell? ⟨gb273, 6, none⟩ = some (.int .i64 a0_6) := (blk_cell BK273.out 6).trans rfl
     have hfz8_0 := blk_frozen BK273.out 0
     have hfz8_1 := blk_frozen BK273.out 1
     have hfz8_2 := blk_frozen BK273.out 2
     have hfz8_3 := blk_frozen BK273.out 3
     have hfz8_4 := blk_frozen BK273.out 4
     have hfz8_5 := blk_frozen BK273.out 5
     have hfz8_6 := blk_frozen BK273.out 6
     go_wp2_with (first | ((with_reducible refine gate_callee (f := 24) rfl ?_); refine goesL_ (some 9) rfl rfl Try.func24 (by kernel_rfl) rfl #[.agg #[.int .u32 a0_0, .int .i64 a0_1]] rfl (by (try simp only [List.map_toArray, List.map_cons, List.map_nil]); first | done | rfl | (simp only [List.length_drop, List.length_take]; rfl)) ?_; (with_reducible refine (lodgerref05_Many.calls k1 a0_0 a0_1 t274 _ A4.out).mono ?_); rintro e w9 ⟨rfl, hb⟩; refine ⟨_, rfl, ?_⟩; have n0_ := Aside0.mk (blk_below (g := gb273) (o := .cells #[.int .u32 a0_0, .int .i64 a0_1, .slice A0_2 l0_2.length c0_2, .int .i64 a0_3, .int .i64 a0_4, .int .i64 a0_5, .int .i64 a0_6] 27 (0, 0)) (by (with_reducible repeat (first | refine blk_drewN ?_ _ | refine blk_drew ?_ | refine blk_alloc ?_ _)); exact BK273.out) hb); have n1_ := Aside0.mk (below_step (by repeat (first | (with_reducible first | exact HB.out | apply below_alloc | apply pw_below_drewN | apply below_drew1 | refine below_set ?_ GE273.out) | exact HB.out)) hb); clear BK273; clear HB; have BK273 := n0_; have HB := n1_; clear n0_ n1_; (try clear hb); (try clear hb2); (try clear hk); (try clear hi); have hcz10_0 : w9.cell? ⟨gb273, 0, none⟩ = some (.int .u32 a0_0) := (blk_cell BK273.out 0).trans rfl; have hcz10_1 : w9.cell? ⟨gb273, 1, none⟩ = some (.int .i64 a0_1) := (blk_cell BK273.out 1).trans rfl; have hcz10_2 : w9.cell? ⟨gb273, 2, none⟩ = some (.slice A0_2 l0_2.length c0_2) := (blk_cell BK273.out 2).trans rfl; have hcz10_3 : w9.cell? ⟨gb273, 3, none⟩ = some (.int .i64 a0_3) := (blk_cell BK273.out 3).trans rfl; have hcz10_4 : w9.cell? ⟨gb273, 4, none⟩ = some (.int .i64 a0_4) := (blk_cell BK273.out 4).trans rfl; have hcz10_5 : w9.cell? ⟨gb273, 5, none⟩ = some (.int .i64 a0_5) := (blk_cell BK273.out 5).trans rfl; have hcz10_6 : w9.cell? ⟨gb273, 6, none⟩ = some (.int .i64 a0_6) := (blk_cell BK273.out 6).trans rfl; have hfz10_0 := blk_frozen BK273.out 0; have hfz10_1 := blk_frozen BK273.out 1; have hfz10_2 := blk_frozen BK273.out 2; have hfz10_3 := blk_frozen BK273.out 3; have hfz10_4 := blk_frozen BK273.out 4; have hfz10_5 := blk_frozen BK273.out 5; have hfz10_6 := blk_frozen BK273.out 6) | ((with_reducible refine gate_callee (f := 30) rfl ?_); refine goesL_ (some 15) rfl rfl Try.func30 (by kernel_rfl) rfl #[.agg #[.int .u32 a0_0, .int .i64 a0_1, .slice A0_2 l0_2.length c0_2, .int .i64 a0_3, .int .i64 a0_4, .int .i64 a0_5, .int .i64 a0_6], .int .i64 x5_1] rfl (by (try simp only [List.map_toArray, List.map_cons, List.map_nil]); first | done | rfl | (simp only [List.length_drop, List.length_take]; rfl)) ?_; (with_reducible refine (lodgerref05_Held.calls k1 a0_0 a0_1 _ _ l0_2 a0_3 a0_4 a0_5 a0_6 x5_1 true _ ?side1 ?side2 A6.out).mono ?_); (case side1 => repeat (first | exact (Kd.C_below HR0_2.out HB.out) | (with_reducible refine Kd.C_alloc ?_ _) | (with_reducible refine Kd.C_drewN ?_ _) | (with_reducible refine Kd.C_drew ?_))); (case side2 => exact HC0_2.out); rintro e w11 ⟨rfl, hb⟩; refine ⟨_, rfl, ?_⟩; have n0_ := Aside0.mk (blk_below (g := gb273) (o := .cells #[.int .u32 a0_0, .int .i64 a0_1, .slice A0_2 l0_2.length c0_2, .int .i64 a0_3, .int .i64 a0_4, .int .i64 a0_5, .int .i64 a0_6] 27 (0, 0)) (by (with_reducible repeat (first | refine blk_drewN ?_ _ | refine blk_drew ?_ | refine blk_alloc ?_ _)); exact BK273.out) hb); have n1_ := Aside0.mk (below_step (by repeat (first | (with_reducible first | exact HB.out | apply below_alloc | apply pw_below_drewN | apply below_drew1 | refine below_set ?_ GE273.out) | exact HB.out)) hb); clear BK273; clear HB; have BK273 := n0_; have HB := n1_; clear n0_ n1_; (try clear hb); (try clear hb2); (try clear hk); (try clear hi)))
     go_roundg k1
     case measure => have := HK1.out; omega
     case rel => exact ⟨(wrap64 (x5_1 + 1)), (by first | rfl | (simp; done) | (simp [*]; done)), H', ⟨by have := HK1.out; omega⟩, ⟨by (with_reducible repeat (first | refine blk_drewN ?_ _ | refine blk_drew ?_ | refine blk_alloc ?_ _)); exact BK273.out⟩, ⟨by repeat (first | (with_reducible first | exact HB.out | apply below_alloc | apply pw_below_drewN | apply below_drew1 | refine below_set ?_ GE273.out) | exact HB.out)⟩⟩
    ·replace c7 := Bool.eq_false_iff.mpr c7
     subst c7
     have H1 : ((lodgerref09_Has.f k1 l1 x5_1).bind fun t276 => (if t276 = true then (lodgerref09_Full.l0 k1 l1 (wrap64 (x5_1 + 1)) a0_0 a0_1 l0_2 a0_3 a0_4 a0_5 a0_6) else (some false))) = some r := by rw [if_neg (show ¬ (false = true) by decide)] at H; exact H
     clear H
     have H := H1
     clear H1
     replace H := Option.bind_eq_some_iff.mp H
     obtain ⟨t276, A120, H⟩ := H
     replace H : (if t276 = true then (lodgerref09_Full.l0 k1 l1 (wrap64 (x5_1 + 1)) a0_0 a0_1 l0_2 a0_3 a0_4 a0_5 a0_6) else (some false)) = some r := H
     have A12 := Aside0.mk A120
     clear A120
     by_cases c13 : t276 = true
     ·subst c13
      have H1 : (lodgerref09_Full.l0 k1 l1 (wrap64 (x5_1 + 1)) a0_0 a0_1 l0_2 a0_3 a0_4 a0_5 a0_6) = some r := by rw [if_pos rfl] at H; exact H
      clear H
      have H := H1
      clear H1
      have H' := Aside0.mk H
      clear H
      have hcz14_0 : wr.cell? ⟨gb273, 0, none⟩ = some (.int .u32 a0_0) := (blk_cell BK273.out 0).trans rfl
      have hcz14_1 : wr.cell? ⟨gb273, 1, none⟩ = some (.int .i64 a0_1) := (blk_cell BK273.out 1).trans rfl
      have hcz14_2 : wr.cell? ⟨gb273, 2, none⟩ = some (.slice A0_2 l0_2.length c0_2) := (blk_cell BK273.out 2).trans rfl
      have hcz14_3 : wr.cell? ⟨gb273, 3, none⟩ = some (.int .i64 a0_3) := (blk_cell BK273.out 3).trans rfl
      have hcz14_4 : wr.cell? ⟨gb273, 4, none⟩ = some (.int .i64 a0_4) := (blk_cell BK273.out 4).trans rfl
      have hcz14_5 : wr.cell? ⟨gb273, 5, none⟩ = some (.int .i64 a0_5) := (blk_cell BK273.out 5).trans rfl
      have hcz14_6 : wr.cell? ⟨gb273, 6, none⟩ = some (.int .i64 a0_6) := (blk_cell BK273.out 6).trans rfl
      have hfz14_0 := blk_frozen BK273.out 0
      have hfz14_1 := blk_frozen BK273.out 1
      have hfz14_2 := blk_frozen BK273.out 2
      have hfz14_3 := blk_frozen BK273.out 3
      have hfz14_4 := blk_frozen BK273.out 4
      have hfz14_5 := blk_frozen BK273.out 5
      have hfz14_6 := blk_frozen BK273.out 6
      go_wp2_with (first | ((with_reducible refine gate_callee (f := 24) rfl ?_); refine goesL_ (some 9) rfl rfl Try.func24 (by kernel_rfl) rfl #[.agg #[.int .u32 a0_0, .int .i64 a0_1]] rfl (by (try simp only [List.map_toArray, List.map_cons, List.map_nil]); first | done | rfl | (simp only [List.length_drop, List.length_take]; rfl)) ?_; (with_reducible refine (lodgerref05_Many.calls k1 a0_0 a0_1 t274 _ A4.out).mono ?_); rintro e w15 ⟨rfl, hb⟩; refine ⟨_, rfl, ?_⟩; have n0_ := Aside0.mk (blk_below (g := gb273) (o := .cells #[.int .u32 a0_0, .int .i64 a0_1, .slice A0_2 l0_2.length c0_2, .int .i64 a0_3, .int .i64 a0_4, .int .i64 a0_5, .int .i64 a0_6] 27 (0, 0)) (by (with_reducible repeat (first | refine blk_drewN ?_ _ | refine blk_drew ?_ | refine blk_alloc ?_ _)); exact BK273.out) hb); have n1_ := Aside0.mk (below_step (by repeat (first | (with_reducible first | exact HB.out | apply below_alloc | apply pw_below_drewN | apply below_drew1 | refine below_set ?_ GE273.out) | exact HB.out)) hb); clear BK273; clear HB; have BK273 := n0_; have HB := n1_; clear n0_ n1_; (try clear hb); (try clear hb2); (try clear hk); (try clear hi); have hcz16_0 : w15.cell? ⟨gb273, 0, none⟩ = some (.int .u32 a0_0) := (blk_cell BK273.out 0).trans rfl; have hcz16_1 : w15.cell? ⟨gb273, 1, none⟩ = some (.int .i64 a0_1) := (blk_cell BK273.out 1).trans rfl; have hcz16_2 : w15.cell? ⟨gb273, 2, none⟩ = some (.slice A0_2 l0_2.length c0_2) := (blk_cell BK273.out 2).trans rfl; have hcz16_3 : w15.cell? ⟨gb273, 3, none⟩ = some (.int .i64 a0_3) := (blk_cell BK273.out 3).trans rfl; have hcz16_4 : w15.cell? ⟨gb273, 4, none⟩ = some (.int .i64 a0_4) := (blk_cell BK273.out 4).trans rfl; have hcz16_5 : w15.cell? ⟨gb273, 5, none⟩ = some (.int .i64 a0_5) := (blk_cell BK273.out 5).trans rfl; have hcz16_6 : w15.cell? ⟨gb273, 6, none⟩ = some (.int .i64 a0_6) := (blk_cell BK273.out 6).trans rfl; have hfz16_0 := blk_frozen BK273.out 0; have hfz16_1 := blk_frozen BK273.out 1; have hfz16_2 := blk_frozen BK273.out 2; have hfz16_3 := blk_frozen BK273.out 3; have hfz16_4 := blk_frozen BK273.out 4; have hfz16_5 := blk_frozen BK273.out 5; have hfz16_6 := blk_frozen BK273.out 6) | ((with_reducible refine gate_callee (f := 30) rfl ?_); refine goesL_ (some 15) rfl rfl Try.func30 (by kernel_rfl) rfl #[.agg #[.int .u32 a0_0, .int .i64 a0_1, .slice A0_2 l0_2.length c0_2, .int .i64 a0_3, .int .i64 a0_4, .int .i64 a0_5, .int .i64 a0_6], .int .i64 x5_1] rfl (by (try simp only [List.map_toArray, List.map_cons, List.map_nil]); first | done | rfl | (simp only [List.length_drop, List.length_take]; rfl)) ?_; (with_reducible refine (lodgerref05_Held.calls k1 a0_0 a0_1 _ _ l0_2 a0_3 a0_4 a0_5 a0_6 x5_1 false _ ?side1 ?side2 A6.out).mono ?_); (case side1 => repeat (first | exact (Kd.C_below HR0_2.out HB.out) | (with_reducible refine Kd.C_alloc ?_ _) | (with_reducible refine Kd.C_drewN ?_ _) | (with_reducible refine Kd.C_drew ?_))); (case side2 => exact HC0_2.out); rintro e w17 ⟨rfl, hb⟩; refine ⟨_, rfl, ?_⟩; have n0_ := Aside0.mk (blk_below (g := gb273) (o := .cells #[.int .u32 a0_0, .int .i64 a0_1, .slice A0_2 l0_2.length c0_2, .int .i64 a0_3, .int .i64 a0_4, .int .i64 a0_5, .int .i64 a0_6] 27 (0, 0)) (by (with_reducible repeat (first | refine blk_drewN ?_ _ | refine blk_drew ?_ | refine blk_alloc ?_ _)); exact BK273.out) hb); have n1_ := Aside0.mk (below_step (by repeat (first | (with_reducible first | exact HB.out | apply below_alloc | apply pw_below_drewN | apply below_drew1 | refine below_set ?_ GE273.out) | exact HB.out)) hb); clear BK273; clear HB; have BK273 := n0_; have HB := n1_; clear n0_ n1_; (try clear hb); (try clear hb2); (try clear hk); (try clear hi)) | (go_at_call 15; (with_reducible refine (lodgerref09_Has.calls k1 _ _ l1 x5_1 true _ ?side1 ?side2 A12.out).mono ?_); (case side1 => repeat (first | exact (Kd.C_below HR1.out HB.out) | (with_reducible refine Kd.C_alloc ?_ _) | (with_reducible refine Kd.C_drewN ?_ _) | (with_reducible refine Kd.C_drew ?_))); (case side2 => exact HC1.out); rintro e w' ⟨rfl, ⟨nd, rfl⟩⟩))
      go_roundg k1
      case measure => have := HK1.out; omega
      case rel => exact ⟨(wrap64 (x5_1 + 1)), (by first | rfl | (simp; done) | (simp [*]; done)), H', ⟨by have := HK1.out; omega⟩, ⟨by (with_reducible repeat (first | refine blk_drewN ?_ _ | refine blk_drew ?_ | refine blk_alloc ?_ _)); exact BK273.out⟩, ⟨by repeat (first | (with_reducible first | exact HB.out | apply below_alloc | apply pw_below_drewN | apply below_drew1 | refine below_set ?_ GE273.out) | exact HB.out)⟩⟩
     ·replace c13 := Bool.eq_false_iff.mpr c13
      subst c13
      have H1 : (some false) = some r := by rw [if_neg (show ¬ (false = true) by decide)] at H; exact H
      clear H
      have H := H1
      clear H1
      obtain rfl := Option.some.inj H
      have hcz18_0 : wr.cell? ⟨gb273, 0, none⟩ = some (.int .u32 a0_0) := (blk_cell BK273.out 0).trans rfl
      have hcz18_1 : wr.cell? ⟨gb273, 1, none⟩ = some (.int .i64 a0_1) := (blk_cell BK273.out 1).trans rfl
      have hcz18_2 : wr.cell? ⟨gb273, 2, none⟩ = some (.slice A0_2 l0_2.length c0_2) := (blk_cell BK273.out 2).trans rfl
      have hcz18_3 : wr.cell? ⟨gb273, 3, none⟩ = some (.int .i64 a0_3) := (blk_cell BK273.out 3).trans rfl
      have hcz18_4 : wr.cell? ⟨gb273, 4, none⟩ = some (.int .i64 a0_4) := (blk_cell BK273.out 4).trans rfl
      have hcz18_5 : wr.cell? ⟨gb273, 5, none⟩ = some (.int .i64 a0_5) := (blk_cell BK273.out 5).trans rfl
      have hcz18_6 : wr.cell? ⟨gb273, 6, none⟩ = some (.int .i64 a0_6) := (blk_cell BK273.out 6).trans rfl
      have hfz18_0 := blk_frozen BK273.out 0
      have hfz18_1 := blk_frozen BK273.out 1
      have hfz18_2 := blk_frozen BK273.out 2
      have hfz18_3 := blk_frozen BK273.out 3
      have hfz18_4 := blk_frozen BK273.out 4
      have hfz18_5 := blk_frozen BK273.out 5
      have hfz18_6 := blk_frozen BK273.out 6
      go_wp2_with (first | ((with_reducible refine gate_callee (f := 24) rfl ?_); refine goesL_ (some 9) rfl rfl Try.func24 (by kernel_rfl) rfl #[.agg #[.int .u32 a0_0, .int .i64 a0_1]] rfl (by (try simp only [List.map_toArray, List.map_cons, List.map_nil]); first | done | rfl | (simp only [List.length_drop, List.length_take]; rfl)) ?_; (with_reducible refine (lodgerref05_Many.calls k1 a0_0 a0_1 t274 _ A4.out).mono ?_); rintro e w19 ⟨rfl, hb⟩; refine ⟨_, rfl, ?_⟩; have n0_ := Aside0.mk (blk_below (g := gb273) (o := .cells #[.int .u32 a0_0, .int .i64 a0_1, .slice A0_2 l0_2.length c0_2, .int .i64 a0_3, .int .i64 a0_4, .int .i64 a0_5, .int .i64 a0_6] 27 (0, 0)) (by (with_reducible repeat (first | refine blk_drewN ?_ _ | refine blk_drew ?_ | refine blk_alloc ?_ _)); exact BK273.out) hb); have n1_ := Aside0.mk (below_step (by repeat (first | (with_reducible first | exact HB.out | apply below_alloc | apply pw_below_drewN | apply below_drew1 | refine below_set ?_ GE273.out) | exact HB.out)) hb); clear BK273; clear HB; have BK273 := n0_; have HB := n1_; clear n0_ n1_; (try clear hb); (try clear hb2); (try clear hk); (try clear hi); have hcz20_0 : w19.cell? ⟨gb273, 0, none⟩ = some (.int .u32 a0_0) := (blk_cell BK273.out 0).trans rfl; have hcz20_1 : w19.cell? ⟨gb273, 1, none⟩ = some (.int .i64 a0_1) := (blk_cell BK273.out 1).trans rfl; have hcz20_2 : w19.cell? ⟨gb273, 2, none⟩ = some (.slice A0_2 l0_2.length c0_2) := (blk_cell BK273.out 2).trans rfl; have hcz20_3 : w19.cell? ⟨gb273, 3, none⟩ = some (.int .i64 a0_3) := (blk_cell BK273.out 3).trans rfl; have hcz20_4 : w19.cell? ⟨gb273, 4, none⟩ = some (.int .i64 a0_4) := (blk_cell BK273.out 4).trans rfl; have hcz20_5 : w19.cell? ⟨gb273, 5, none⟩ = some (.int .i64 a0_5) := (blk_cell BK273.out 5).trans rfl; have hcz20_6 : w19.cell? ⟨gb273, 6, none⟩ = some (.int .i64 a0_6) := (blk_cell BK273.out 6).trans rfl; have hfz20_0 := blk_frozen BK273.out 0; have hfz20_1 := blk_frozen BK273.out 1; have hfz20_2 := blk_frozen BK273.out 2; have hfz20_3 := blk_frozen BK273.out 3; have hfz20_4 := blk_frozen BK273.out 4; have hfz20_5 := blk_frozen BK273.out 5; have hfz20_6 := blk_frozen BK273.out 6) | ((with_reducible refine gate_callee (f := 30) rfl ?_); refine goesL_ (some 15) rfl rfl Try.func30 (by kernel_rfl) rfl #[.agg #[.int .u32 a0_0, .int .i64 a0_1, .slice A0_2 l0_2.length c0_2, .int .i64 a0_3, .int .i64 a0_4, .int .i64 a0_5, .int .i64 a0_6], .int .i64 x5_1] rfl (by (try simp only [List.map_toArray, List.map_cons, List.map_nil]); first | done | rfl | (simp only [List.length_drop, List.length_take]; rfl)) ?_; (with_reducible refine (lodgerref05_Held.calls k1 a0_0 a0_1 _ _ l0_2 a0_3 a0_4 a0_5 a0_6 x5_1 false _ ?side1 ?side2 A6.out).mono ?_); (case side1 => repeat (first | exact (Kd.C_below HR0_2.out HB.out) | (with_reducible refine Kd.C_alloc ?_ _) | (with_reducible refine Kd.C_drewN ?_ _) | (with_reducible refine Kd.C_drew ?_))); (case side2 => exact HC0_2.out); rintro e w21 ⟨rfl, hb⟩; refine ⟨_, rfl, ?_⟩; have n0_ := Aside0.mk (blk_below (g := gb273) (o := .cells #[.int .u32 a0_0, .int .i64 a0_1, .slice A0_2 l0_2.length c0_2, .int .i64 a0_3, .int .i64 a0_4, .int .i64 a0_5, .int .i64 a0_6] 27 (0, 0)) (by (with_reducible repeat (first | refine blk_drewN ?_ _ | refine blk_drew ?_ | refine blk_alloc ?_ _)); exact BK273.out) hb); have n1_ := Aside0.mk (below_step (by repeat (first | (with_reducible first | exact HB.out | apply below_alloc | apply pw_below_drewN | apply below_drew1 | refine below_set ?_ GE273.out) | exact HB.out)) hb); clear BK273; clear HB; have BK273 := n0_; have HB := n1_; clear n0_ n1_; (try clear hb); (try clear hb2); (try clear hk); (try clear hi)) | (go_at_call 15; (with_reducible refine (lodgerref09_Has.calls k1 _ _ l1 x5_1 false _ ?side1 ?side2 A12.out).mono ?_); (case side1 => repeat (first | exact (Kd.C_below HR1.out HB.out) | (with_reducible refine Kd.C_alloc ?_ _) | (with_reducible refine Kd.C_drewN ?_ _) | (with_reducible refine Kd.C_drew ?_))); (case side2 => exact HC1.out); rintro e w' ⟨rfl, ⟨nd, rfl⟩⟩))
      go_ret
      exact ⟨by first | rfl | (simp [errW_none, errW_some] <;> rfl) | (simp [*, errW_none, errW_some] <;> rfl), by repeat (first | (with_reducible first | exact HB.out | apply below_alloc | apply pw_below_drewN | apply below_drew1 | refine below_set ?_ GE273.out) | exact HB.out)⟩
   ·rw [if_neg c5] at H
    have c5b0 : decide (x5_1 < t274) = false := decide_eq_false c5
    clear c5
    obtain rfl := Option.some.inj H
    have hcz22_0 : wr.cell? ⟨gb273, 0, none⟩ = some (.int .u32 a0_0) := (blk_cell BK273.out 0).trans rfl
    have hcz22_1 : wr.cell? ⟨gb273, 1, none⟩ = some (.int .i64 a0_1) := (blk_cell BK273.out 1).trans rfl
    have hcz22_2 : wr.cell? ⟨gb273, 2, none⟩ = some (.slice A0_2 l0_2.length c0_2) := (blk_cell BK273.out 2).trans rfl
    have hcz22_3 : wr.cell? ⟨gb273, 3, none⟩ = some (.int .i64 a0_3) := (blk_cell BK273.out 3).trans rfl
    have hcz22_4 : wr.cell? ⟨gb273, 4, none⟩ = some (.int .i64 a0_4) := (blk_cell BK273.out 4).trans rfl
    have hcz22_5 : wr.cell? ⟨gb273, 5, none⟩ = some (.int .i64 a0_5) := (blk_cell BK273.out 5).trans rfl
    have hcz22_6 : wr.cell? ⟨gb273, 6, none⟩ = some (.int .i64 a0_6) := (blk_cell BK273.out 6).trans rfl
    have hfz22_0 := blk_frozen BK273.out 0
    have hfz22_1 := blk_frozen BK273.out 1
    have hfz22_2 := blk_frozen BK273.out 2
    have hfz22_3 := blk_frozen BK273.out 3
    have hfz22_4 := blk_frozen BK273.out 4
    have hfz22_5 := blk_frozen BK273.out 5
    have hfz22_6 := blk_frozen BK273.out 6
    go_wp2_with (first | ((with_reducible refine gate_callee (f := 24) rfl ?_); refine goesL_ (some 9) rfl rfl Try.func24 (by kernel_rfl) rfl #[.agg #[.int .u32 a0_0, .int .i64 a0_1]] rfl (by (try simp only [List.map_toArray, List.map_cons, List.map_nil]); first | done | rfl | (simp only [List.length_drop, List.length_take]; rfl)) ?_; (with_reducible refine (lodgerref05_Many.calls k1 a0_0 a0_1 t274 _ A4.out).mono ?_); rintro e w23 ⟨rfl, hb⟩; refine ⟨_, rfl, ?_⟩; have n0_ := Aside0.mk (blk_below (g := gb273) (o := .cells #[.int .u32 a0_0, .int .i64 a0_1, .slice A0_2 l0_2.length c0_2, .int .i64 a0_3, .int .i64 a0_4, .int .i64 a0_5, .int .i64 a0_6] 27 (0, 0)) (by (with_reducible repeat (first | refine blk_drewN ?_ _ | refine blk_drew ?_ | refine blk_alloc ?_ _)); exact BK273.out) hb); have n1_ := Aside0.mk (below_step (by repeat (first | (with_reducible first | exact HB.out | apply below_alloc | apply pw_below_drewN | apply below_drew1 | refine below_set ?_ GE273.out) | exact HB.out)) hb); clear BK273; clear HB; have BK273 := n0_; have HB := n1_; clear n0_ n1_; (try clear hb); (try clear hb2); (try clear hk); (try clear hi)))
    go_ret
    exact ⟨by first | rfl | (simp [errW_none, errW_some] <;> rfl) | (simp [*, errW_none, errW_some] <;> rfl), by repeat (first | (with_reducible first | exact HB.out | apply below_alloc | apply pw_below_drewN | apply below_drew1 | refine below_set ?_ GE273.out) | exact HB.out)⟩

/-! ### lodgerref09_Addrs: function 29 -/
def lodgerref09_Addrs.l0 : Nat → List Int → List Int → Int → Int → Int → List Int → Int → Int → Int → Int → Option (List Int)
 | 0, _, _, _, _, _, _, _, _, _, _ => none
 | k + 1, x1, x5, x6, x278000, x278001, x278002, x278003, x278004, x278005, x278006 => if x6 < (x1.length : Int) then (if 0 ≤ x6 then (if x5.length < 35184372088832 then (lodgerref09_Addrs.l0 k x1 (x5 ++ [(x278000 + (rd x1 x6)) % 4294967296]) (wrap64 (x6 + 1)) x278000 x278001 x278002 x278003 x278004 x278005 x278006) else (none)) else (none)) else (some x5)
def lodgerref09_Addrs.f (k : Nat) (a0_0 : Int) (a0_1 : Int) (l0_2 : List Int) (a0_3 : Int) (a0_4 : Int) (a0_5 : Int) (a0_6 : Int) (l1 : List Int) : Option (List Int) := lodgerref09_Addrs.l0 k l1 ([] : List Int) 0 a0_0 a0_1 l0_2 a0_3 a0_4 a0_5 a0_6
theorem lodgerref09_Addrs.mono_l : ∀ k, (∀ y0 y1 y2 y3 y4 y5 y6 y7 y8 y9, LeO (lodgerref09_Addrs.l0 k y0 y1 y2 y3 y4 y5 y6 y7 y8 y9) (lodgerref09_Addrs.l0 (k + 1) y0 y1 y2 y3 y4 y5 y6 y7 y8 y9))
 | 0 => fun _ _ _ _ _ _ _ _ _ _ r h => by simp [lodgerref09_Addrs.l0] at h
 | k + 1 => by
  have ih0 := lodgerref09_Addrs.mono_l k
  ·intro y0 y1 y2 y3 y4 y5 y6 y7 y8 y9
   unfold lodgerref09_Addrs.l0
   repeat' first
   | (with_reducible exact ih0 _ _ _ _ _ _ _ _ _ _)
   | (with_reducible exact LeO.refl _)
   | (with_reducible exact LeO.none _)
   | (with_reducible refine LeO.ite ?_ ?_)
   | (with_reducible refine LeO.bind ?_ (fun _ => ?_))
   | exact ih0 _ _ _ _ _ _ _ _ _ _
   | exact LeO.none _
   | refine LeO.ite ?_ ?_
   | refine LeO.bind ?_ (fun _ => ?_)
theorem lodgerref09_Addrs.mono : ∀ a0 a1 a2 a3 a4 a5 a6 a7 k, LeO (lodgerref09_Addrs.f k a0 a1 a2 a3 a4 a5 a6 a7) (lodgerref09_Addrs.f (k + 1) a0 a1 a2 a3 a4 a5 a6 a7) := by
 intro a0 a1 a2 a3 a4 a5 a6 a7 k
 have ih0 := lodgerref09_Addrs.mono_l k
 unfold lodgerref09_Addrs.f
 repeat' first
   | (with_reducible exact ih0 _ _ _ _ _ _ _ _ _ _)
   | (with_reducible exact LeO.refl _)
   | (with_reducible exact LeO.none _)
   | (with_reducible refine LeO.ite ?_ ?_)
   | (with_reducible refine LeO.bind ?_ (fun _ => ?_))
   | exact ih0 _ _ _ _ _ _ _ _ _ _
   | exact LeO.none _
   | refine LeO.ite ?_ ?_
   | refine LeO.bind ?_ (fun _ => ?_)
def lodgerref09_Addrs.T5 : Bool × List (List Nat × List Nat) := (true, [([], []), ([], []), ([1], [1]), ([2], [2]), ([], []), ([], []), ([4, 5], [4, 5]), ([6], [6]), ([7], [7]), ([3, 8], [3, 8]), ([9], [9]), ([0, 10], [0, 10]), ([11, 11, 0, 1, 2, 3, 4, 5, 6, 7, 8, 9, 10, 11], [0, 11])])
def lodgerref09_Addrs.B5 : List Nat := [0, 0, 2, 6, 0, 0, 48, 112, 240, 510, 1022, 2047, 4095]
theorem lodgerref09_Addrs.tab5 : rtab .any (opsOf Try.f29 5) = lodgerref09_Addrs.T5 := by kernel_rfl
theorem lodgerref09_Addrs.bits5 : waitsOk lodgerref09_Addrs.T5.2 lodgerref09_Addrs.B5 = true := by kernel_rfl
set_option maxHeartbeats 8000000 in
set_option maxRecDepth 100000 in
theorem lodgerref09_Addrs.calls (k : Nat) (a0_0 : Int) (a0_1 : Int) (A0_2 : Option Addr) (c0_2 : Nat) (l0_2 : List Int) (a0_3 : Int) (a0_4 : Int) (a0_5 : Int) (a0_6 : Int) (A1 : Option Addr) (c1 : Nat) (l1 : List Int) (r : List Int) (w : World) (hr0_2 : Kd.C (Kd.int .i64) w A0_2 l0_2.length l0_2) (hc0_2 : l0_2.length ≤ c0_2) (hr1 : Kd.C (Kd.int .i64) w A1 l1.length l1) (hc1 : l1.length ≤ c1) (h : lodgerref09_Addrs.f k a0_0 a0_1 l0_2 a0_3 a0_4 a0_5 a0_6 l1 = some r) :
  Calls Try.prog 29 #[.agg #[.int .u32 a0_0, .int .i64 a0_1, .slice A0_2 l0_2.length c0_2, .int .i64 a0_3, .int .i64 a0_4, .int .i64 a0_5, .int .i64 a0_6], .slice A1 l1.length c1] w fun e w' => ∃ v0_ : Value, e = .returned (v0_) ∧ Kd.R (Kd.int .u32) 22 w' w.heap.size (fun _ => True) v0_ r ∧ Below w.heap.size w w' := by
 have hu27 := Try.underlying27
 have HR0_2 := Aside0.mk hr0_2
 have HC0_2 := Aside0.mk hc0_2
 clear hr0_2 hc0_2
 have HR1 := Aside0.mk hr1
 have HC1 := Aside0.mk hc1
 clear hr1 hc1
 have HB := Aside0.mk (Below.refl w.heap.size w)
 have H : (lodgerref09_Addrs.l0 k l1 ([] : List Int) 0 a0_0 a0_1 l0_2 a0_3 a0_4 a0_5 a0_6) = some r := h
 clear h
 have H' := Aside0.mk H
 clear H
 go_enter Try.func29, Try.ntmps29
 go_wp2_with (first | ((with_reducible refine gate_dst (N := 2) rfl ?_); refine box_event ?hg (N := 2) ?hd (cs := #[.int .u32 a0_0, .int .i64 a0_1, .slice A0_2 l0_2.length c0_2, .int .i64 a0_3, .int .i64 a0_4, .int .i64 a0_5, .int .i64 a0_6]) (t := 27) ?hr ?_; (case hd => rfl); (case hg => rfl); (case hr => first | (go_simp; done) | (go_simp; rfl)); intro gb277 hg w3 hbox hb; have n0_ := Aside0.mk (below_step (by repeat (first | (with_reducible first | exact HB.out | apply below_alloc | apply pw_below_drewN | apply below_drew1) | exact HB.out)) hb); have n1_ := Aside0.mk (hbox); have n2_ := Aside0.mk ((by rw [hg]; exact (below_size (by repeat (first | (with_reducible first | exact HB.out | apply below_alloc | apply pw_below_drewN | apply below_drew1) | exact HB.out))) : w.heap.size ≤ gb277)); have n3_ := Aside0.mk ((by rw [hg]; exact (below_size (by repeat (first | (with_reducible first | exact HB.out | apply below_alloc | apply pw_below_drewN | apply below_drew1) | exact HB.out))) : w.heap.size ≤ gb277)); clear HB; have HB := n0_; have BK277 := n1_; have GW277 := n2_; have GE277 := n3_; clear n0_ n1_ n2_ n3_; clear hb hbox hg))
 go_loopg [5, 6] k (fun kq v5 v6 w' => ∃ (x5_1 : List Int) (x6_1 : Int), v6 = .int .i64 x6_1 ∧ Aside0 (lodgerref09_Addrs.l0 kq l1 x5_1 x6_1 a0_0 a0_1 l0_2 a0_3 a0_4 a0_5 a0_6 = some r) ∧ Aside0 (kq ≤ k) ∧ Aside0 (Kd.R (Kd.int .u32) 22 w' w.heap.size (fun _ => True) v5 x5_1) ∧ Aside0 (w'.heap[gb277]? = some (.cells #[.int .u32 a0_0, .int .i64 a0_1, (.slice A0_2 l0_2.length c0_2), .int .i64 a0_3, .int .i64 a0_4, .int .i64 a0_5, .int .i64 a0_6] 27 (0, 0))) ∧ Aside0 (Below w.heap.size w w'))
 case atStart => exact ⟨(([] : List Int)), (0), (by first | rfl | (simp; done) | (simp [*]; done)), H', ⟨Nat.le_refl _⟩, ⟨by first | exact Kd.R_nil _ _ _ _ _ | exact Kd.N_nil _ _ _ _ _ | exact Kd.V_nil _ _ _ _ _ | exact Kd.Q_nil _ _ _ _ _ | exact Kd.S_nil _ _ _ _ _⟩, ⟨by (with_reducible repeat (first | refine blk_drewN ?_ _ | refine blk_drew ?_ | refine blk_alloc ?_ _)); exact BK277.out⟩, ⟨by repeat (first | (with_reducible first | exact HB.out | apply below_alloc | apply pw_below_drewN | apply below_drew1 | refine below_set ?_ GE277.out) | exact HB.out)⟩⟩
 case round =>
  clear H'
  try clear c1
  try clear c2
  try clear p2
  obtain ⟨x5_1, x6_1, rfl, HA, HK1, HO_5, BK277, HB⟩ := hrel
  cases gk with
  | zero => exact absurd HA.out (by simp [lodgerref09_Addrs.l0])
  | succ k1 =>
   have H := HA.out
   clear HA
   simp only [lodgerref09_Addrs.l0] at H
   by_cases c4 : x6_1 < (l1.length : Int)
   ·rw [if_pos c4] at H
    have c4b0 : decide (x6_1 < (l1.length : Int)) = true := decide_eq_true c4
    clear c4
    by_cases c5 : 0 ≤ x6_1
    ·rw [if_pos c5] at H
     have c5b0 : decide (0 ≤ x6_1) = true := decide_eq_true c5
     clear c5
     by_cases c6 : x5_1.length < 35184372088832
     ·rw [if_pos c6] at H
      have LMc6 := Aside0.mk c6
      clear c6
      obtain ⟨y279, hy279⟩ : ∃ y_ : List Int, y_ = (x5_1 ++ [(a0_0 + (rd l1 x6_1)) % 4294967296]) := ⟨_, rfl⟩
      replace H : (lodgerref09_Addrs.l0 k1 l1 y279 (wrap64 (x6_1 + 1)) a0_0 a0_1 l0_2 a0_3 a0_4 a0_5 a0_6) = some r := by first | (rw [hy279]; with_reducible exact H) | (have H2_ := (Option.bind_some _ _).symm.trans H; rw [hy279]; with_reducible exact H2_) | (have H2_ := (Option.bind_some _ _).symm.trans H; with_reducible exact H2_) | with_reducible exact H | (rw [hy279]; exact H) | exact H
      have Ny279 := Aside0.mk hy279
      clear hy279
      have H' := Aside0.mk H
      clear H
      try go_wp2
      have n0_ := Aside0.mk (Kd.R_drew HO_5.out)
      have n1_ := Aside0.mk (blk_drew BK277.out)
      have n2_ := Aside0.mk (below_drew1 HB.out)
      clear HO_5
      clear BK277
      clear HB
      have HO_5 := n0_
      have BK277 := n1_
      have HB := n2_
      clear n0_ n1_ n2_
      have p278 : 0 ≤ (x6_1 : Int) := of_decide_eq_true (by first | (with_reducible assumption) | assumption)
      have q278 : x6_1 < (l1.length : Int) := of_decide_eq_true (by first | (with_reducible assumption) | assumption)
      obtain ⟨ad278, e278, hx278_0⟩ := Kd.at_int HR1.out x6_1 p278 q278
      have hw278_0 := hx278_0
      cases e278
      replace hx278_0 := (HB.out.cell (World.block_lt_of_cell? w _ hx278_0)).trans hx278_0
      replace p278 := eq_true p278
      replace q278 := eq_true q278
      refine start_ (n := 13) (S := fun w' => w'.cell? ⟨gb277, 0, none⟩ = some (.int .u32 a0_0) ∧ w'.cell? ⟨gb277, 1, none⟩ = some (.int .i64 a0_1) ∧ w'.cell? ⟨gb277, 2, none⟩ = some (.slice A0_2 l0_2.length c0_2) ∧ w'.cell? ⟨gb277, 3, none⟩ = some (.int .i64 a0_3) ∧ w'.cell? ⟨gb277, 4, none⟩ = some (.int .i64 a0_4) ∧ w'.cell? ⟨gb277, 5, none⟩ = some (.int .i64 a0_5) ∧ w'.cell? ⟨gb277, 6, none⟩ = some (.int .i64 a0_6) ∧ w'.cell? (ad278.add (x6_1).toNat) = some (.int .i64 (rd l1 x6_1))) (ds := []) #[false, false, false, false, false, false, false, false, false, false, false, false, false] (by kernel_rfl) rfl rfl ⟨(blk_cell BK277.out 0).trans rfl, (blk_cell BK277.out 1).trans rfl, (blk_cell BK277.out 2).trans rfl, (blk_cell BK277.out 3).trans rfl, (blk_cell BK277.out 4).trans rfl, (blk_cell BK277.out 5).trans rfl, (blk_cell BK277.out 6).trans rfl, ((HB.out.cell (World.block_lt_of_cell? w _ hw278_0)).trans hw278_0)⟩ (fun hHeld => ?_); refine with_tabW lodgerref09_Addrs.tab5 lodgerref09_Addrs.bits5 (fun HT_ HW_ => ?_)
      generalize wr.drew = w7 at HO_5 BK277 HB hx278_0 hHeld ⊢
      refine pure_ (i := 0) (N := some 13) (v := ?_) (a' := ?_) #[true, false, false, false, false, false, false, false, false, false, false, false, false] rfl rfl (any_of HT_.out (by kernel_rfl)) (fun _ _ _ h => h) (Or.inl ⟨by rfl, ?_⟩) ?_ ?_
      rotate_left
      ·intro w'
       go_simp
       with_reducible rfl
      rotate_left
      ·simp only [Act.put, List.setIfInBounds_toArray, List.set_cons_zero, List.set_cons_succ, i64_w, i32_w, IntKind.wrap_u32, Int.add_emod_emod, Int.emod_add_emod]
       rfl
      refine pure_ (i := 1) (N := some 14) (v := ?_) (a' := ?_) #[true, true, false, false, false, false, false, false, false, false, false, false, false] rfl rfl (any_of HT_.out (by kernel_rfl)) (fun _ _ _ h => h) (Or.inl ⟨by rfl, ?_⟩) ?_ ?_
      rotate_left
      ·intro w'
       go_simp
       with_reducible rfl
      rotate_left
      ·simp only [Act.put, List.setIfInBounds_toArray, List.set_cons_zero, List.set_cons_succ, i64_w, i32_w, IntKind.wrap_u32, Int.add_emod_emod, Int.emod_add_emod]
       rfl
      refine pure_ (i := 2) (N := some 15) (v := ?_) (a' := ?_) #[true, true, true, false, false, false, false, false, false, false, false, false, false] rfl rfl (any_of HT_.out (by kernel_rfl)) (fun _ _ _ h => h) (Or.inl ⟨by rfl, ?_⟩) ?_ ?_
      rotate_left
      ·intro w'
       go_simp
       with_reducible rfl
      rotate_left
      ·simp only [Act.put, List.setIfInBounds_toArray, List.set_cons_zero, List.set_cons_succ, i64_w, i32_w, IntKind.wrap_u32, Int.add_emod_emod, Int.emod_add_emod]
       rfl
      refine pure_ (i := 4) (N := some 17) (v := ?_) (a' := ?_) #[true, true, true, false, true, false, false, false, false, false, false, false, false] rfl rfl (any_of HT_.out (by kernel_rfl)) (fun _ _ _ h => h) (Or.inl ⟨by rfl, ?_⟩) ?_ ?_
      rotate_left
      ·intro w'
       go_simp
       with_reducible rfl
      rotate_left
      ·simp only [Act.put, List.setIfInBounds_toArray, List.set_cons_zero, List.set_cons_succ, i64_w, i32_w, IntKind.wrap_u32, Int.add_emod_emod, Int.emod_add_emod]
       rfl
      refine pure_ (i := 5) (N := some 18) (v := ?_) (a' := ?_) #[true, true, true, false, true, true, false, false, false, false, false, false, false] rfl rfl (any_of HT_.out (by kernel_rfl)) (fun _ _ _ h => h) (Or.inl ⟨by rfl, ?_⟩) ?_ ?_
      rotate_left
      ·intro w'
       go_simp
       with_reducible rfl
      rotate_left
      ·simp only [Act.put, List.setIfInBounds_toArray, List.set_cons_zero, List.set_cons_succ, i64_w, i32_w, IntKind.wrap_u32, Int.add_emod_emod, Int.emod_add_emod]
       rfl
      refine pure_ (i := 6) (N := some 19) (v := ?_) (a' := ?_) #[true, true, true, false, true, true, true, false, false, false, false, false, false] rfl rfl (any_of HT_.out (by kernel_rfl)) (fun _ _ _ h => h) (Or.inl ⟨by rfl, ?_⟩) ?_ ?_
      rotate_left
      ·intro w'
       go_simp
       with_reducible rfl
      rotate_left
      ·simp only [Act.put, List.setIfInBounds_toArray, List.set_cons_zero, List.set_cons_succ, i64_w, i32_w, IntKind.wrap_u32, Int.add_emod_emod, Int.emod_add_emod]
       rfl
      refine take_ (i := 3) (N := some 16) (v := ?_) (a' := ?_) #[true, true, true, true, true, true, true, false, false, false, false, false, false] rfl rfl (take_ofW HT_.out HW_.out (by kernel_rfl)) (fun _ _ _ h => h) (Or.inl ⟨by rfl, ?_⟩) hHeld ?_ ?_
      rotate_left
      ·rintro w' ⟨s0, s1, s2, s3, s4, s5, s6, s7⟩
       go_simp
       with_reducible rfl
      rotate_left
      ·simp only [Act.put, List.setIfInBounds_toArray, List.set_cons_zero, List.set_cons_succ, i64_w, i32_w, IntKind.wrap_u32, Int.add_emod_emod, Int.emod_add_emod]
       rfl
      refine take_ (i := 7) (N := some 20) (v := ?_) (a' := ?_) #[true, true, true, true, true, true, true, true, false, false, false, false, false] rfl rfl (take_ofW HT_.out HW_.out (by kernel_rfl)) (fun _ _ _ h => h) (Or.inl ⟨by rfl, ?_⟩) hHeld ?_ ?_
      rotate_left
      ·rintro w' ⟨s0, s1, s2, s3, s4, s5, s6, s7⟩
       go_simp
       with_reducible rfl
      rotate_left
      ·simp only [Act.put, List.setIfInBounds_toArray, List.set_cons_zero, List.set_cons_succ, i64_w, i32_w, IntKind.wrap_u32, Int.add_emod_emod, Int.emod_add_emod]
       rfl
      refine pure_ (i := 8) (N := some 21) (v := ?_) (a' := ?_) #[true, true, true, true, true, true, true, true, true, false, false, false, false] rfl rfl (any_of HT_.out (by kernel_rfl)) (fun _ _ _ h => h) (Or.inl ⟨by rfl, ?_⟩) ?_ ?_
      rotate_left
      ·intro w'
       go_simp
       with_reducible rfl
      rotate_left
      ·simp only [Act.put, List.setIfInBounds_toArray, List.set_cons_zero, List.set_cons_succ, i64_w, i32_w, IntKind.wrap_u32, Int.add_emod_emod, Int.emod_add_emod]
       rfl
      refine pure_ (i := 9) (N := some 22) (v := ?_) (a' := ?_) #[true, true, true, true, true, true, true, true, true, true, false, false, false] rfl rfl (any_of HT_.out (by kernel_rfl)) (fun _ _ _ h => h) (Or.inl ⟨by rfl, ?_⟩) ?_ ?_
      rotate_left
      ·intro w'
       go_simp
       with_reducible rfl
      rotate_left
      ·simp only [Act.put, List.setIfInBounds_toArray, List.set_cons_zero, List.set_cons_succ, i64_w, i32_w, IntKind.wrap_u32, Int.add_emod_emod, Int.emod_add_emod]
       rfl
      refine one_ (i := 10) (N := some 23) #[true, true, true, true, true, true, true, true, true, true, true, false, false] rfl rfl (one_of HT_.out (by kernel_rfl)) (by decide) (fun K hK => ?_)
      refine value_ (w1 := ?_) (v := ?_) (by rfl) rfl ?_ ?_
      rotate_left 2
      ·go_simp
       constructor
       ·rfl
       ·rfl
      refine hK.out _ _ ⟨(blk_cell (blk_alloc BK277.out _) 0).trans rfl, (blk_cell (blk_alloc BK277.out _) 1).trans rfl, (blk_cell (blk_alloc BK277.out _) 2).trans rfl, (blk_cell (blk_alloc BK277.out _) 3).trans rfl, (blk_cell (blk_alloc BK277.out _) 4).trans rfl, (blk_cell (blk_alloc BK277.out _) 5).trans rfl, (blk_cell (blk_alloc BK277.out _) 6).trans rfl, (World.cell?_alloc_lt _ _ _ (World.block_lt_of_cell? _ _ (((HB.out.cell (World.block_lt_of_cell? w _ hw278_0)).trans hw278_0)))).trans (((HB.out.cell (World.block_lt_of_cell? w _ hw278_0)).trans hw278_0))⟩ (fun hHeld => ?_)
      clear hK K
      refine norm_ (a' := ?_) ?_ ?_
      rotate_left
      ·show Act.put _ (some 23) _ = _
       simp only [Act.put, List.setIfInBounds_toArray, List.set_cons_zero, List.set_cons_succ, i64_w, i32_w, IntKind.wrap_u32, Int.add_emod_emod, Int.emod_add_emod]
       rfl
      refine one_ (i := 11) (N := some 24) #[true, true, true, true, true, true, true, true, true, true, true, true, false] rfl rfl (one_of HT_.out (by kernel_rfl)) (by decide) (fun K hK => ?_)
      refine Kd.R_append_step (Kd.int .u32) (w0 := w) w.heap.size (by rfl) (.tmp 13) (.tmp 23) 41 22 (.int .u32 0) 4 rfl Try.underlying41 info22 rfl (by decide) (by omega) u5 x5_1 ((a0_0 + (rd l1 x6_1)) % 4294967296) [.int .u32 ((a0_0 + (rd l1 x6_1)) % 4294967296)] (fun _ => True) (fun _ => False) rfl rfl ?aP (fun _ hk => hk.elim) ?aF ?aO ?aB ?aS ?aL ?_
      (case aP => exact rfl)
      (case aB => exact (by repeat (first | (with_reducible first | exact HB.out | apply below_alloc | apply pw_below_drewN | apply below_drew1 | refine below_set ?_ GE277.out) | exact HB.out)))
      (case aF => exact (fun _ _ => trivial))
      (case aO => exact (by (with_reducible repeat (first | apply Kd.R_alloc | apply Kd.R_drewN | apply Kd.R_drew)); exact HO_5.out))
      (case aS => exact (below_size (by repeat (first | (with_reducible first | exact HB.out | apply below_alloc | apply pw_below_drewN | apply below_drew1 | refine below_set ?_ GE277.out) | exact HB.out))))
      (case aL => have := LMc6.out; omega)
      intro v280 w8 ho hb hg hat
      rw [← Ny279.out] at ho
      have n0_ := Aside0.mk (blk_grown (g := gb277) (o := .cells #[.int .u32 a0_0, .int .i64 a0_1, .slice A0_2 l0_2.length c0_2, .int .i64 a0_3, .int .i64 a0_4, .int .i64 a0_5, .int .i64 a0_6] 27 (0, 0)) (by (with_reducible repeat (first | refine blk_drewN ?_ _ | refine blk_drew ?_ | refine blk_alloc ?_ _)); exact BK277.out) hg (Kd.R_ne HO_5.out BK277.out (by decide)))
      have n1_ := Aside0.mk (hb)
      have n2_ := Aside0.mk (ho)
      clear BK277
      clear HB
      clear HO_5
      have BK277 := n0_
      have HB := n1_
      have HO281 := n2_
      clear n0_ n1_ n2_
      clear ho hb hg hat
      refine hK.out _ _ ⟨(blk_cell BK277.out 0).trans rfl, (blk_cell BK277.out 1).trans rfl, (blk_cell BK277.out 2).trans rfl, (blk_cell BK277.out 3).trans rfl, (blk_cell BK277.out 4).trans rfl, (blk_cell BK277.out 5).trans rfl, (blk_cell BK277.out 6).trans rfl, ((HB.out.cell (World.block_lt_of_cell? w _ hw278_0)).trans hw278_0)⟩ (fun hHeld => ?_)
      clear hK K
      refine norm_ (a' := ?_) ?_ ?_
      rotate_left
      ·show Act.put _ (some 24) _ = _
       simp only [Act.put, List.setIfInBounds_toArray, List.set_cons_zero, List.set_cons_succ, i64_w, i32_w, IntKind.wrap_u32, Int.add_emod_emod, Int.emod_add_emod]
       rfl
      refine pure_ (i := 12) (N := some 5) (v := ?_) (a' := ?_) #[true, true, true, true, true, true, true, true, true, true, true, true, true] rfl rfl (any_of HT_.out (by kernel_rfl)) (fun _ _ _ h => h) (Or.inl ⟨by rfl, ?_⟩) ?_ ?_
      rotate_left
      ·intro w'
       go_simp
       with_reducible rfl
      rotate_left
      ·simp only [Act.put, List.setIfInBounds_toArray, List.set_cons_zero, List.set_cons_succ, i64_w, i32_w, IntKind.wrap_u32, Int.add_emod_emod, Int.emod_add_emod]
       rfl
      refine done_ (done_of HT_.out (by kernel_rfl)) ?_
      try go_wp2
      go_roundg k1
      case measure => have := HK1.out; omega
      case rel => exact ⟨(y279), (wrap64 (x6_1 + 1)), (by first | rfl | (simp; done) | (simp [*]; done)), H', ⟨by have := HK1.out; omega⟩, ⟨by (with_reducible repeat (first | apply Kd.R_alloc | apply Kd.R_drewN | apply Kd.R_drew)); exact HO281.out⟩, ⟨by (with_reducible repeat (first | refine blk_drewN ?_ _ | refine blk_drew ?_ | refine blk_alloc ?_ _)); exact BK277.out⟩, ⟨by repeat (first | (with_reducible first | exact HB.out | apply below_alloc | apply pw_below_drewN | apply below_drew1 | refine below_set ?_ GE277.out) | exact HB.out)⟩⟩
     ·rw [if_neg c6] at H
      exact absurd H (by simp)
    ·rw [if_neg c5] at H
     exact absurd H (by simp)
   ·rw [if_neg c4] at H
    have c4b0 : decide (x6_1 < (l1.length : Int)) = false := decide_eq_false c4
    clear c4
    obtain rfl := Option.some.inj H
    go_wp2
    go_ret
    exact ⟨_, by first | rfl | (simp [errW_none, errW_some] <;> rfl) | (simp [*, errW_none, errW_some] <;> rfl), by (with_reducible repeat (first | apply Kd.R_alloc | apply Kd.R_drewN | apply Kd.R_drew)); exact HO_5.out, by repeat (first | (with_reducible first | exact HB.out | apply below_alloc | apply pw_below_drewN | apply below_drew1 | refine below_set ?_ GE277.out) | exact HB.out)⟩

end Go.Proofs.Ythfcgjmffjmplaa.PModelTells
