/- The walk of QueueDoes, part of it: what the Go functions answer; no condition. -/
import Derived.Test.YtmchledhamhlgaaQQueueDoesx0
import Derived.Test.YtmchledhamhlgaaQQueueDoesx1
namespace Go.Proofs.Ytmchledhamhlgaa.PQueueDoes
open Go.RowKit Go.Proofs.YtmchledhamhlgaaW.PrintWords Go.Proofs.YtmchledhamhlgaaW.PrintLast Go.Proofs.YtmchledhamhlgaaW.PrintMore
attribute [local go_sem] max2_int min2_int max_two min_two max_three min_three max_four min_four   -- for this text's walks alone
set_option linter.unusedVariables false
set_option linter.unusedSimpArgs false

/-! ### lodgerref03_Ints: function 28 -/
def lodgerref03_Ints.l0 : Nat → List Int → List Int → Int → Option (Bool)
 | 0, _, _, _ => none
 | k + 1, x0, x1, x5 => if x5 < (x0.length : Int) then (if 0 ≤ x5 then (if x5 < (x1.length : Int) then (if (rd x0 x5) = (rd x1 x5) then (lodgerref03_Ints.l0 k x0 x1 (wrap64 (x5 + 1))) else (some false)) else (none)) else (none)) else (some true)
def lodgerref03_Ints.f (k : Nat) (l0 : List Int) (l1 : List Int) : Option (Bool) := if (l0.length : Int) = (l1.length : Int) then (lodgerref03_Ints.l0 k l0 l1 0) else (some false)
theorem lodgerref03_Ints.mono_l : ∀ k, (∀ y0 y1 y2, LeO (lodgerref03_Ints.l0 k y0 y1 y2) (lodgerref03_Ints.l0 (k + 1) y0 y1 y2))
 | 0 => fun _ _ _ r h => by simp [lodgerref03_Ints.l0] at h
 | k + 1 => by
  have ih0 := lodgerref03_Ints.mono_l k
  ·intro y0 y1 y2
   unfold lodgerref03_Ints.l0
   repeat' first
   | (with_reducible exact ih0 _ _ _)
   | (with_reducible exact LeO.refl _)
   | (with_reducible exact LeO.none _)
   | (with_reducible refine LeO.ite ?_ ?_)
   | (with_reducible refine LeO.bind ?_ (fun _ => ?_))
   | exact ih0 _ _ _
   | exact LeO.none _
   | refine LeO.ite ?_ ?_
   | refine LeO.bind ?_ (fun _ => ?_)
theorem lodgerref03_Ints.mono : ∀ a0 a1 k, LeO (lodgerref03_Ints.f k a0 a1) (lodgerref03_Ints.f (k + 1) a0 a1) := by
 intro a0 a1 k
 have ih0 := lodgerref03_Ints.mono_l k
 unfold lodgerref03_Ints.f
 repeat' first
   | (with_reducible exact ih0 _ _ _)
   | (with_reducible exact LeO.refl _)
   | (with_reducible exact LeO.none _)
   | (with_reducible refine LeO.ite ?_ ?_)
   | (with_reducible refine LeO.bind ?_ (fun _ => ?_))
   | exact ih0 _ _ _
   | exact LeO.none _
   | refine LeO.ite ?_ ?_
   | refine LeO.bind ?_ (fun _ => ?_)
set_option maxHeartbeats 8000000 in
set_option maxRecDepth 100000 in
theorem lodgerref03_Ints.calls (k : Nat) (A0 : Option Addr) (c0 : Nat) (l0 : List Int) (A1 : Option Addr) (c1 : Nat) (l1 : List Int) (r : Bool) (w : World) (hr0 : Kd.C (Kd.int .i64) w A0 l0.length l0) (hc0 : l0.length ≤ c0) (hr1 : Kd.C (Kd.int .i64) w A1 l1.length l1) (hc1 : l1.length ≤ c1) (h : lodgerref03_Ints.f k l0 l1 = some r) :
  Calls Try.prog 28 #[.slice A0 l0.length c0, .slice A1 l1.length c1] w fun e w' => e = .returned (.bool r) ∧ Drawn0 w w' := by
 have HR0 := Aside0.mk hr0
 have HC0 := Aside0.mk hc0
 clear hr0 hc0
 have HR1 := Aside0.mk hr1
 have HC1 := Aside0.mk hc1
 clear hr1 hc1
 have H : (if (l0.length : Int) = (l1.length : Int) then (lodgerref03_Ints.l0 k l0 l1 0) else (some false)) = some r := h
 clear h
 by_cases c3 : (l0.length : Int) = (l1.length : Int)
 ·rw [if_pos c3] at H
  have c3b0 : ((l0.length : Int) == (l1.length : Int)) = true := beq_iff_eq.mpr c3
  have c3b1 : ((l0.length : Int) != (l1.length : Int)) = false := bne_eq_false_iff_eq.mpr c3
  have c3b2 : (l0.length == l1.length) = true := by first | simpa using c3 | (simp at c3 ⊢; omega)
  clear c3
  have H' := Aside0.mk H
  clear H
  go_enter Try.func28, Try.ntmps28
  go_wp2
  repeat (go_quiet (fail); try go_wp2)
  go_loopg [5] k (fun kq v5 w' => ∃ (x5_1 : Int), v5 = .int .i64 x5_1 ∧ Aside0 (lodgerref03_Ints.l0 kq l0 l1 x5_1 = some r) ∧ Aside0 (kq ≤ k) ∧ Drawn0 w w')
  case atStart => exact ⟨(0), (by first | rfl | (simp; done) | (simp [*]; done)), H', ⟨Nat.le_refl _⟩, by repeat (first | exact Drawn0.refl _ | apply Drawn0.step)⟩
  case round =>
   clear H'
   try clear c1
   try clear c2
   try clear p2
   try clear c3
   try clear c3b0
   try clear c3b1
   try clear c3b2
   obtain ⟨x5_1, rfl, HA, HK1, ⟨m1, rfl⟩⟩ := hrel
   cases gk with
   | zero => exact absurd HA.out (by simp [lodgerref03_Ints.l0])
   | succ k1 =>
    have H := HA.out
    clear HA
    simp only [lodgerref03_Ints.l0] at H
    by_cases c4 : x5_1 < (l0.length : Int)
    ·rw [if_pos c4] at H
     have c4b0 : decide (x5_1 < (l0.length : Int)) = true := decide_eq_true c4
     clear c4
     by_cases c5 : 0 ≤ x5_1
     ·rw [if_pos c5] at H
      have c5b0 : decide (0 ≤ x5_1) = true := decide_eq_true c5
      clear c5
      by_cases c6 : x5_1 < (l1.length : Int)
      ·rw [if_pos c6] at H
       have c6b0 : decide (x5_1 < (l1.length : Int)) = true := decide_eq_true c6
       clear c6
       by_cases c7 : (rd l0 x5_1) = (rd l1 x5_1)
       ·rw [if_pos c7] at H
        have c7b0 : ((rd l0 x5_1) == (rd l1 x5_1)) = true := beq_iff_eq.mpr c7
        have c7b1 : ((rd l0 x5_1) != (rd l1 x5_1)) = false := bne_eq_false_iff_eq.mpr c7
        clear c7
        have H' := Aside0.mk H
        clear H
        have p195 : 0 ≤ (x5_1 : Int) := od_
        have q195 : x5_1 < (l0.length : Int) := od_
        obtain ⟨ad195, e195, hx195_0⟩ := Kd.at_int HR0.out x5_1 p195 q195
        cases e195
        replace p195 := eq_true p195
        replace q195 := eq_true q195
        have p196 : 0 ≤ (x5_1 : Int) := od_
        have q196 : x5_1 < (l1.length : Int) := od_
        obtain ⟨ad196, e196, hx196_0⟩ := Kd.at_int HR1.out x5_1 p196 q196
        cases e196
        replace p196 := eq_true p196
        replace q196 := eq_true q196
        go_wp2
        repeat (go_quiet (fail); try go_wp2)
        go_roundg k1
        case measure => have := HK1.out; omega
        case rel => exact ⟨(wrap64 (x5_1 + 1)), (by first | rfl | (simp; done) | (simp [*]; done)), H', ⟨by have := HK1.out; omega⟩, by repeat (first | exact Drawn0.refl _ | apply Drawn0.step)⟩
       ·rw [if_neg c7] at H
        have c7b0 : ((rd l0 x5_1) == (rd l1 x5_1)) = false := beq_eq_false_iff_ne.mpr c7
        have c7b1 : ((rd l0 x5_1) != (rd l1 x5_1)) = true := bne_iff_ne.mpr c7
        obtain rfl := Option.some.inj H
        have p195 : 0 ≤ (x5_1 : Int) := od_
        have q195 : x5_1 < (l0.length : Int) := od_
        obtain ⟨ad195, e195, hx195_0⟩ := Kd.at_int HR0.out x5_1 p195 q195
        cases e195
        replace p195 := eq_true p195
        replace q195 := eq_true q195
        have p196 : 0 ≤ (x5_1 : Int) := od_
        have q196 : x5_1 < (l1.length : Int) := od_
        obtain ⟨ad196, e196, hx196_0⟩ := Kd.at_int HR1.out x5_1 p196 q196
        cases e196
        replace p196 := eq_true p196
        replace q196 := eq_true q196
        go_wp2
        repeat (go_quiet (fail); try go_wp2)
        go_ret
        exact ⟨by first | rfl | (simp; done) | (simp [*]; done), by repeat (first | exact Drawn0.refl _ | apply Drawn0.step)⟩
      ·rw [if_neg c6] at H
       exact absurd H (by simp)
     ·rw [if_neg c5] at H
      exact absurd H (by simp)
    ·rw [if_neg c4] at H
     have c4b0 : decide (x5_1 < (l0.length : Int)) = false := decide_eq_false c4
     clear c4
     obtain rfl := Option.some.inj H
     go_wp2
     repeat (go_quiet (fail); try go_wp2)
     go_ret
     exact ⟨by first | rfl | (simp; done) | (simp [*]; done), by repeat (first | exact Drawn0.refl _ | apply Drawn0.step)⟩
 ·rw [if_neg c3] at H
  have c3b0 : ((l0.length : Int) == (l1.length : Int)) = false := beq_eq_false_iff_ne.mpr c3
  have c3b1 : ((l0.length : Int) != (l1.length : Int)) = true := bne_iff_ne.mpr c3
  have c3b2 : (l0.length == l1.length) = false := by first | simpa using c3 | (simp at c3 ⊢; omega)
  obtain rfl := Option.some.inj H
  go_enter Try.func28, Try.ntmps28
  go_wp2
  repeat (go_quiet (fail); try go_wp2)
  go_ret
  exact ⟨by first | rfl | (simp; done) | (simp [*]; done), by repeat (first | exact Drawn0.refl _ | apply Drawn0.step)⟩

/-! ### lodgerref03_Same: function 16 -/
def lodgerref03_Same.f (k : Nat) (a0_0 : Int) (l0_1 : List Int) (a0_2 : Bool) (a1_0 : Int) (l1_1 : List Int) (a1_2 : Bool) : Option (Bool) := if a0_0 = a1_0 then (if (a0_2 == a1_2) = true then ((lodgerref03_Ints.f k l0_1 l1_1).bind fun t199 => (some t199)) else (some false)) else (some false)
theorem lodgerref03_Same.mono : ∀ a0 a1 a2 a3 a4 a5 k, LeO (lodgerref03_Same.f k a0 a1 a2 a3 a4 a5) (lodgerref03_Same.f (k + 1) a0 a1 a2 a3 a4 a5) := by
 intro a0 a1 a2 a3 a4 a5 k
 unfold lodgerref03_Same.f
 repeat' first
   | (with_reducible exact lodgerref03_Ints.mono _ _ _)
   | (with_reducible exact LeO.refl _)
   | (with_reducible exact LeO.none _)
   | (with_reducible refine LeO.ite ?_ ?_)
   | (with_reducible refine LeO.bind ?_ (fun _ => ?_))
   | exact lodgerref03_Ints.mono _ _ _
   | exact LeO.none _
   | refine LeO.ite ?_ ?_
   | refine LeO.bind ?_ (fun _ => ?_)
set_option maxHeartbeats 8000000 in
set_option maxRecDepth 100000 in
theorem lodgerref03_Same.calls (k : Nat) (a0_0 : Int) (A0_1 : Option Addr) (c0_1 : Nat) (l0_1 : List Int) (a0_2 : Bool) (a1_0 : Int) (A1_1 : Option Addr) (c1_1 : Nat) (l1_1 : List Int) (a1_2 : Bool) (r : Bool) (w : World) (hr0_1 : Kd.C (Kd.int .i64) w A0_1 l0_1.length l0_1) (hc0_1 : l0_1.length ≤ c0_1) (hr1_1 : Kd.C (Kd.int .i64) w A1_1 l1_1.length l1_1) (hc1_1 : l1_1.length ≤ c1_1) (h : lodgerref03_Same.f k a0_0 l0_1 a0_2 a1_0 l1_1 a1_2 = some r) :
  Calls Try.prog 16 #[.agg #[.int .i64 a0_0, .slice A0_1 l0_1.length c0_1, .bool a0_2], .agg #[.int .i64 a1_0, .slice A1_1 l1_1.length c1_1, .bool a1_2]] w fun e w' => e = .returned (.bool r) ∧ Below w.heap.size w w' := by
 have hu34 := Try.underlying34
 have HR0_1 := Aside0.mk hr0_1
 have HC0_1 := Aside0.mk hc0_1
 clear hr0_1 hc0_1
 have HR1_1 := Aside0.mk hr1_1
 have HC1_1 := Aside0.mk hc1_1
 clear hr1_1 hc1_1
 have HB := Aside0.mk (Below.refl w.heap.size w)
 have H : (if a0_0 = a1_0 then (if (a0_2 == a1_2) = true then ((lodgerref03_Ints.f k l0_1 l1_1).bind fun t199 => (some t199)) else (some false)) else (some false)) = some r := h
 clear h
 by_cases c3 : a0_0 = a1_0
 ·rw [if_pos c3] at H
  have c3b0 : (a0_0 == a1_0) = true := beq_iff_eq.mpr c3
  have c3b1 : (a0_0 != a1_0) = false := bne_eq_false_iff_eq.mpr c3
  clear c3
  by_cases c4 : (a0_2 == a1_2) = true
  ·rw [if_pos c4] at H
   have c4b0 : (a0_2 == a1_2) = true := c4
   (try (have c4b1 : decide (a0_2 = a1_2) = true := by simpa using c4))
   (try (have c4b2 : (a0_2 == a1_2) = true := by simpa using c4))
   clear c4
   replace H := Option.bind_eq_some_iff.mp H
   obtain ⟨t199, A50, H⟩ := H
   replace H : (some t199) = some r := H
   have A5 := Aside0.mk A50
   clear A50
   obtain rfl := Option.some.inj H
   go_enter Try.func16, Try.ntmps16
   go_wp2_with (first | ((with_reducible refine gate_dst (N := 2) rfl ?_); refine box_event ?hg (N := 2) ?hd (cs := #[.int .i64 a0_0, .slice A0_1 l0_1.length c0_1, .bool a0_2]) (t := 34) ?hr ?_; (case hd => rfl); (case hg => rfl); (case hr => first | (go_simp; done) | (go_simp; rfl)); intro gb197 hg w6 hbox hb; have n0_ := Aside0.mk (below_step (hB_ HB) hb); have n1_ := Aside0.mk (hbox); have n2_ := Aside0.mk ((by rw [hg]; exact (below_size (hB_ HB)) : w.heap.size ≤ gb197)); have n3_ := Aside0.mk ((by rw [hg]; exact (below_size (hB_ HB)) : w.heap.size ≤ gb197)); clear HB; have HB := n0_; have BK197 := n1_; have GW197 := n2_; have GE197 := n3_; clear n0_ n1_ n2_ n3_; clear hb hbox hg) | ((with_reducible refine gate_dst (N := 3) rfl ?_); refine box_event ?hg (N := 3) ?hd (cs := #[.int .i64 a1_0, .slice A1_1 l1_1.length c1_1, .bool a1_2]) (t := 34) ?hr ?_; (case hd => rfl); (case hg => rfl); (case hr => first | (go_simp; done) | (go_simp; rfl)); intro gb198 hg w7 hbox hb; have n0_ := bB_ BK197 hb; have n1_ := Aside0.mk (below_step (hB_ HB) hb); have n2_ := Aside0.mk (hbox); have n3_ := Aside0.mk ((by rw [hg]; exact (below_size (hB_ HB)) : w.heap.size ≤ gb198)); have n4_ := Aside0.mk ((by rw [hg]; exact (below_size (hB_ HB)) : w.heap.size ≤ gb198)); have n5_ := Aside0.mk ((by rw [hg]; exact Nat.ne_of_lt (blk_lt (g := gb197) (o := .cells #[.int .i64 a0_0, .slice A0_1 l0_1.length c0_1, .bool a0_2] 34 (0, 0)) (bk_ BK197)) : gb197 ≠ gb198)); have n6_ := Aside0.mk ((by rw [hg]; exact Nat.ne_of_gt (blk_lt (g := gb197) (o := .cells #[.int .i64 a0_0, .slice A0_1 l0_1.length c0_1, .bool a0_2] 34 (0, 0)) (bk_ BK197)) : gb198 ≠ gb197)); clear BK197; clear HB; have BK197 := n0_; have HB := n1_; have BK198 := n2_; have GW198 := n3_; have GE198 := n4_; have NB197_198 := n5_; have NB198_197 := n6_; clear n0_ n1_ n2_ n3_ n4_ n5_ n6_; clear hb hbox hg; have hnb8 := NB197_198.out; have hnc8 := NB198_197.out; have hcz9_0 : w7.cell? ⟨gb197, 0, none⟩ = some (.int .i64 a0_0) := (blk_cell BK197.out 0).trans rfl; have hcz9_1 : w7.cell? ⟨gb197, 1, none⟩ = some (.slice A0_1 l0_1.length c0_1) := (blk_cell BK197.out 1).trans rfl; have hcz9_2 : w7.cell? ⟨gb197, 2, none⟩ = some (.bool a0_2) := (blk_cell BK197.out 2).trans rfl; have hfz9_0 := blk_frozen BK197.out 0; have hfz9_1 := blk_frozen BK197.out 1; have hfz9_2 := blk_frozen BK197.out 2; have hcz10_0 : w7.cell? ⟨gb198, 0, none⟩ = some (.int .i64 a1_0) := (blk_cell BK198.out 0).trans rfl; have hcz10_1 : w7.cell? ⟨gb198, 1, none⟩ = some (.slice A1_1 l1_1.length c1_1) := (blk_cell BK198.out 1).trans rfl; have hcz10_2 : w7.cell? ⟨gb198, 2, none⟩ = some (.bool a1_2) := (blk_cell BK198.out 2).trans rfl; have hfz10_0 := blk_frozen BK198.out 0; have hfz10_1 := blk_frozen BK198.out 1; have hfz10_2 := blk_frozen BK198.out 2) | (go_at_call 28; (with_reducible refine (lodgerref03_Ints.calls k _ _ l0_1 _ _ l1_1 t199 _ ?side1 ?side2 ?side3 ?side4 A5.out).mono ?_); (case side1 => repeat (first | exact (Kd.C_below HR0_1.out HB.out) | (with_reducible refine Kd.C_alloc ?_ _) | (with_reducible refine Kd.C_drewN ?_ _) | (with_reducible refine Kd.C_drew ?_))); (case side2 => exact HC0_1.out); (case side3 => repeat (first | exact (Kd.C_below HR1_1.out HB.out) | (with_reducible refine Kd.C_alloc ?_ _) | (with_reducible refine Kd.C_drewN ?_ _) | (with_reducible refine Kd.C_drew ?_))); (case side4 => exact HC1_1.out); rintro e w' ⟨rfl, ⟨nd, rfl⟩⟩))
   go_ret
   exact ⟨by first | rfl | (simp [errW_none, errW_some] <;> rfl) | (simp [*, errW_none, errW_some] <;> rfl), by repeat (first | (with_reducible first | exact HB.out | apply below_alloc | apply pw_below_drewN | apply below_drew1 | refine below_set ?_ GE197.out | refine below_set ?_ GE198.out) | exact HB.out)⟩
  ·rw [if_neg c4] at H
   have c4b0 : (a0_2 == a1_2) = false := by simpa using c4
   (try (have c4b1 : decide (a0_2 = a1_2) = false := by simpa using c4))
   (try (have c4b2 : (a0_2 == a1_2) = false := by simpa using c4))
   (try (have c4b3 : ¬ (a0_2 = a1_2) := by simpa using c4))
   clear c4
   obtain rfl := Option.some.inj H
   go_enter Try.func16, Try.ntmps16
   go_wp2_with (first | ((with_reducible refine gate_dst (N := 2) rfl ?_); refine box_event ?hg (N := 2) ?hd (cs := #[.int .i64 a0_0, .slice A0_1 l0_1.length c0_1, .bool a0_2]) (t := 34) ?hr ?_; (case hd => rfl); (case hg => rfl); (case hr => first | (go_simp; done) | (go_simp; rfl)); intro gb197 hg w11 hbox hb; have n0_ := Aside0.mk (below_step (hB_ HB) hb); have n1_ := Aside0.mk (hbox); have n2_ := Aside0.mk ((by rw [hg]; exact (below_size (hB_ HB)) : w.heap.size ≤ gb197)); have n3_ := Aside0.mk ((by rw [hg]; exact (below_size (hB_ HB)) : w.heap.size ≤ gb197)); clear HB; have HB := n0_; have BK197 := n1_; have GW197 := n2_; have GE197 := n3_; clear n0_ n1_ n2_ n3_; clear hb hbox hg) | ((with_reducible refine gate_dst (N := 3) rfl ?_); refine box_event ?hg (N := 3) ?hd (cs := #[.int .i64 a1_0, .slice A1_1 l1_1.length c1_1, .bool a1_2]) (t := 34) ?hr ?_; (case hd => rfl); (case hg => rfl); (case hr => first | (go_simp; done) | (go_simp; rfl)); intro gb198 hg w12 hbox hb; have n0_ := bB_ BK197 hb; have n1_ := Aside0.mk (below_step (hB_ HB) hb); have n2_ := Aside0.mk (hbox); have n3_ := Aside0.mk ((by rw [hg]; exact (below_size (hB_ HB)) : w.heap.size ≤ gb198)); have n4_ := Aside0.mk ((by rw [hg]; exact (below_size (hB_ HB)) : w.heap.size ≤ gb198)); have n5_ := Aside0.mk ((by rw [hg]; exact Nat.ne_of_lt (blk_lt (g := gb197) (o := .cells #[.int .i64 a0_0, .slice A0_1 l0_1.length c0_1, .bool a0_2] 34 (0, 0)) (bk_ BK197)) : gb197 ≠ gb198)); have n6_ := Aside0.mk ((by rw [hg]; exact Nat.ne_of_gt (blk_lt (g := gb197) (o := .cells #[.int .i64 a0_0, .slice A0_1 l0_1.length c0_1, .bool a0_2] 34 (0, 0)) (bk_ BK197)) : gb198 ≠ gb197)); clear BK197; clear HB; have BK197 := n0_; have HB := n1_; have BK198 := n2_; have GW198 := n3_; have GE198 := n4_; have NB197_198 := n5_; have NB198_197 := n6_; clear n0_ n1_ n2_ n3_ n4_ n5_ n6_; clear hb hbox hg; have hnb13 := NB197_198.out; have hnc13 := NB198_197.out; have hcz14_0 : w12.cell? ⟨gb197, 0, none⟩ = some (.int .i64 a0_0) := (blk_cell BK197.out 0).trans rfl; have hcz14_1 : w12.cell? ⟨gb197, 1, none⟩ = some (.slice A0_1 l0_1.length c0_1) := (blk_cell BK197.out 1).trans rfl; have hcz14_2 : w12.cell? ⟨gb197, 2, none⟩ = some (.bool a0_2) := (blk_cell BK197.out 2).trans rfl; have hfz14_0 := blk_frozen BK197.out 0; have hfz14_1 := blk_frozen BK197.out 1; have hfz14_2 := blk_frozen BK197.out 2; have hcz15_0 : w12.cell? ⟨gb198, 0, none⟩ = some (.int .i64 a1_0) := (blk_cell BK198.out 0).trans rfl; have hcz15_1 : w12.cell? ⟨gb198, 1, none⟩ = some (.slice A1_1 l1_1.length c1_1) := (blk_cell BK198.out 1).trans rfl; have hcz15_2 : w12.cell? ⟨gb198, 2, none⟩ = some (.bool a1_2) := (blk_cell BK198.out 2).trans rfl; have hfz15_0 := blk_frozen BK198.out 0; have hfz15_1 := blk_frozen BK198.out 1; have hfz15_2 := blk_frozen BK198.out 2))
   go_ret
   exact ⟨by first | rfl | (simp [errW_none, errW_some] <;> rfl) | (simp [*, errW_none, errW_some] <;> rfl), by repeat (first | (with_reducible first | exact HB.out | apply below_alloc | apply pw_below_drewN | apply below_drew1 | refine below_set ?_ GE197.out | refine below_set ?_ GE198.out) | exact HB.out)⟩
 ·rw [if_neg c3] at H
  have c3b0 : (a0_0 == a1_0) = false := beq_eq_false_iff_ne.mpr c3
  have c3b1 : (a0_0 != a1_0) = true := bne_iff_ne.mpr c3
  obtain rfl := Option.some.inj H
  go_enter Try.func16, Try.ntmps16
  go_wp2_with (first | ((with_reducible refine gate_dst (N := 2) rfl ?_); refine box_event ?hg (N := 2) ?hd (cs := #[.int .i64 a0_0, .slice A0_1 l0_1.length c0_1, .bool a0_2]) (t := 34) ?hr ?_; (case hd => rfl); (case hg => rfl); (case hr => first | (go_simp; done) | (go_simp; rfl)); intro gb197 hg w16 hbox hb; have n0_ := Aside0.mk (below_step (hB_ HB) hb); have n1_ := Aside0.mk (hbox); have n2_ := Aside0.mk ((by rw [hg]; exact (below_size (hB_ HB)) : w.heap.size ≤ gb197)); have n3_ := Aside0.mk ((by rw [hg]; exact (below_size (hB_ HB)) : w.heap.size ≤ gb197)); clear HB; have HB := n0_; have BK197 := n1_; have GW197 := n2_; have GE197 := n3_; clear n0_ n1_ n2_ n3_; clear hb hbox hg) | ((with_reducible refine gate_dst (N := 3) rfl ?_); refine box_event ?hg (N := 3) ?hd (cs := #[.int .i64 a1_0, .slice A1_1 l1_1.length c1_1, .bool a1_2]) (t := 34) ?hr ?_; (case hd => rfl); (case hg => rfl); (case hr => first | (go_simp; done) | (go_simp; rfl)); intro gb198 hg w17 hbox hb; have n0_ := bB_ BK197 hb; have n1_ := Aside0.mk (below_step (hB_ HB) hb); have n2_ := Aside0.mk (hbox); have n3_ := Aside0.mk ((by rw [hg]; exact (below_size (hB_ HB)) : w.heap.size ≤ gb198)); have n4_ := Aside0.mk ((by rw [hg]; exact (below_size (hB_ HB)) : w.heap.size ≤ gb198)); have n5_ := Aside0.mk ((by rw [hg]; exact Nat.ne_of_lt (blk_lt (g := gb197) (o := .cells #[.int .i64 a0_0, .slice A0_1 l0_1.length c0_1, .bool a0_2] 34 (0, 0)) (bk_ BK197)) : gb197 ≠ gb198)); have n6_ := Aside0.mk ((by rw [hg]; exact Nat.ne_of_gt (blk_lt (g := gb197) (o := .cells #[.int .i64 a0_0, .slice A0_1 l0_1.length c0_1, .bool a0_2] 34 (0, 0)) (bk_ BK197)) : gb198 ≠ gb197)); clear BK197; clear HB; have BK197 := n0_; have HB := n1_; have BK198 := n2_; have GW198 := n3_; have GE198 := n4_; have NB197_198 := n5_; have NB198_197 := n6_; clear n0_ n1_ n2_ n3_ n4_ n5_ n6_; clear hb hbox hg; have hnb18 := NB197_198.out; have hnc18 := NB198_197.out; have hcz19_0 : w17.cell? ⟨gb197, 0, none⟩ = some (.int .i64 a0_0) := (blk_cell BK197.out 0).trans rfl; have hcz19_1 : w17.cell? ⟨gb197, 1, none⟩ = some (.slice A0_1 l0_1.length c0_1) := (blk_cell BK197.out 1).trans rfl; have hcz19_2 : w17.cell? ⟨gb197, 2, none⟩ = some (.bool a0_2) := (blk_cell BK197.out 2).trans rfl; have hfz19_0 := blk_frozen BK197.out 0; have hfz19_1 := blk_frozen BK197.out 1; have hfz19_2 := blk_frozen BK197.out 2; have hcz20_0 : w17.cell? ⟨gb198, 0, none⟩ = some (.int .i64 a1_0) := (blk_cell BK198.out 0).trans rfl; have hcz20_1 : w17.cell? ⟨gb198, 1, none⟩ = some (.slice A1_1 l1_1.length c1_1) := (blk_cell BK198.out 1).trans rfl; have hcz20_2 : w17.cell? ⟨gb198, 2, none⟩ = some (.bool a1_2) := (blk_cell BK198.out 2).trans rfl; have hfz20_0 := blk_frozen BK198.out 0; have hfz20_1 := blk_frozen BK198.out 1; have hfz20_2 := blk_frozen BK198.out 2))
  go_ret
  exact ⟨by first | rfl | (simp [errW_none, errW_some] <;> rfl) | (simp [*, errW_none, errW_some] <;> rfl), by repeat (first | (with_reducible first | exact HB.out | apply below_alloc | apply pw_below_drewN | apply below_drew1 | refine below_set ?_ GE197.out | refine below_set ?_ GE198.out) | exact HB.out)⟩

/-! ### lodgerref03_Put: function 18 -/
def lodgerref03_Put.f (a0_0 : Int) (l0_1 : List Int) (a0_2 : Bool) (a1 : Int) : Option (Int × List Int × Bool × Int) := if a0_2 = true then (some (a0_0, l0_1, a0_2, 12)) else (if (l0_1.length : Int) = a0_0 then (some (a0_0, l0_1, a0_2, 10)) else ((some (([] : List Int) : List Int)).bind fun y202 => (if y202.length + l0_1.length < 17592186044416 then ((some (y202 ++ l0_1 : List Int)).bind fun y205 => (if y205.length < 17592186044416 then (some (a0_0, (y205 ++ [a1]), a0_2, 0)) else (none))) else (none))))
set_option maxHeartbeats 8000000 in
set_option maxRecDepth 100000 in
theorem lodgerref03_Put.calls (a0_0 : Int) (P0_1_ : Nat → Prop) (A0_1 : Option Addr) (c0_1 : Nat) (l0_1 : List Int) (a0_2 : Bool) (a1 : Int) (r1 : Int) (r2 : List Int) (r3 : Bool) (r4 : Int) (w : World) (hs0_1 : Kd.V (Kd.int .i64) 3 w w.heap.size (fun k_ => P0_1_ k_) (.slice A0_1 l0_1.length c0_1) l0_1) (h : lodgerref03_Put.f a0_0 l0_1 a0_2 a1 = some (r1, r2, r3, r4)) :
  Calls Try.prog 18 #[.agg #[.int .i64 a0_0, .slice A0_1 l0_1.length c0_1, .bool a0_2], .int .i64 a1] w fun e w' => ∃ v1_ : Value, e = .returned (.tuple #[.agg #[.int .i64 r1, v1_, .bool r3], .int .i64 r4]) ∧ Kd.V (Kd.int .i64) 3 w' w.heap.size (fun k_ => (P0_1_ k_ ∨ w.heap.size ≤ k_)) v1_ r2 ∧ Below w.heap.size w w' := by
 have hu34 := Try.underlying34
 have HO0_1 := Aside0.mk (show Kd.V (Kd.int .i64) 3 w w.heap.size (fun k_ => (P0_1_ k_ ∨ w.heap.size ≤ k_)) (.slice A0_1 l0_1.length c0_1) l0_1 from Kd.V_mono hs0_1 (fun k_ hk => .inl hk))
 have HB := Aside0.mk (Below.refl w.heap.size w)
 have H : (if a0_2 = true then (some (a0_0, l0_1, a0_2, 12)) else (if (l0_1.length : Int) = a0_0 then (some (a0_0, l0_1, a0_2, 10)) else ((some (([] : List Int) : List Int)).bind fun y202 => (if y202.length + l0_1.length < 17592186044416 then ((some (y202 ++ l0_1 : List Int)).bind fun y205 => (if y205.length < 17592186044416 then (some (a0_0, (y205 ++ [a1]), a0_2, 0)) else (none))) else (none))))) = some (r1, r2, r3, r4) := h
 clear h
 by_cases c3 : a0_2 = true
 ·subst c3
  have H1 : (some (a0_0, l0_1, true, 12)) = some (r1, r2, r3, r4) := by rw [if_pos rfl] at H; exact H
  clear H
  have H := H1
  clear H1
  simp only [Option.some.injEq, Prod.mk.injEq] at H
  obtain ⟨rfl, rfl, rfl, rfl⟩ := H
  go_enter Try.func18, Try.ntmps18
  go_wp2_with (first | ((with_reducible refine gate_dst (N := 2) rfl ?_); refine box_event ?hg (N := 2) ?hd (cs := #[.int .i64 a0_0, .slice A0_1 l0_1.length c0_1, .bool true]) (t := 34) ?hr ?_; (case hd => rfl); (case hg => rfl); (case hr => first | (go_simp; done) | (go_simp; rfl)); intro gb200 hg w4 hbox hb; have n0_ := Aside0.mk (Kd.V_below (Kd.V_elderB (vV_ HO0_1) gb200 (Nat.le_of_eq hg.symm)) hb); have n1_ := Aside0.mk (below_step (hB_ HB) hb); have n2_ := Aside0.mk (hbox); have n3_ := Aside0.mk ((by rw [hg]; exact (below_size (hB_ HB)) : w.heap.size ≤ gb200)); have n4_ := Aside0.mk ((by rw [hg]; exact (below_size (hB_ HB)) : w.heap.size ≤ gb200)); clear HO0_1; clear HB; have HO0_1 := n0_; have HB := n1_; have BK200 := n2_; have GW200 := n3_; have GE200 := n4_; clear n0_ n1_ n2_ n3_ n4_; clear hb hbox hg) | ((with_reducible refine gate_dst (N := 4) rfl ?_); refine box_event ?hg (N := 4) ?hd (cs := #[.int .i64 0, .slice none 0 0, .bool false]) (t := 34) ?hr ?_; (case hd => rfl); (case hg => rfl); (case hr => first | (go_simp; done) | (go_simp; rfl)); intro gb201 hg w5 hbox hb; have n0_ := Aside0.mk (Kd.V_below (Kd.V_elderB (vV_ HO0_1) gb201 (Nat.le_of_eq hg.symm)) hb); have n1_ := bB_ BK200 hb; have n2_ := Aside0.mk (below_step (hB_ HB) hb); have n3_ := Aside0.mk (hbox); have n4_ := Aside0.mk ((by rw [hg]; exact (below_size (hB_ HB)) : w.heap.size ≤ gb201)); have n5_ := Aside0.mk ((by rw [hg]; exact (below_size (hB_ HB)) : w.heap.size ≤ gb201)); have n6_ := Aside0.mk ((by rw [hg]; exact Nat.ne_of_lt (blk_lt (g := gb200) (o := .cells #[.int .i64 a0_0, .slice A0_1 l0_1.length c0_1, .bool true] 34 (0, 0)) (bk_ BK200)) : gb200 ≠ gb201)); have n7_ := Aside0.mk ((by rw [hg]; exact Nat.ne_of_gt (blk_lt (g := gb200) (o := .cells #[.int .i64 a0_0, .slice A0_1 l0_1.length c0_1, .bool true] 34 (0, 0)) (bk_ BK200)) : gb201 ≠ gb200)); clear HO0_1; clear BK200; clear HB; have HO0_1 := n0_; have BK200 := n1_; have HB := n2_; have BK201 := n3_; have GW201 := n4_; have GE201 := n5_; have NB200_201 := n6_; have NB201_200 := n7_; clear n0_ n1_ n2_ n3_ n4_ n5_ n6_ n7_; clear hb hbox hg; have hnb6 := NB200_201.out; have hnc6 := NB201_200.out; have hcz7_0 : w5.cell? ⟨gb200, 0, none⟩ = some (.int .i64 a0_0) := (blk_cell BK200.out 0).trans rfl; have hcz7_1 : w5.cell? ⟨gb200, 1, none⟩ = some (.slice A0_1 l0_1.length c0_1) := (blk_cell BK200.out 1).trans rfl; have hcz7_2 : w5.cell? ⟨gb200, 2, none⟩ = some (.bool true) := (blk_cell BK200.out 2).trans rfl; have hfz7_0 := blk_frozen BK200.out 0; have hfz7_1 := blk_frozen BK200.out 1; have hfz7_2 := blk_frozen BK200.out 2; have hcz8_0 : w5.cell? ⟨gb201, 0, none⟩ = some (.int .i64 0) := (blk_cell BK201.out 0).trans rfl; have hcz8_1 : w5.cell? ⟨gb201, 1, none⟩ = some (.slice none 0 0) := (blk_cell BK201.out 1).trans rfl; have hcz8_2 : w5.cell? ⟨gb201, 2, none⟩ = some (.bool false) := (blk_cell BK201.out 2).trans rfl; have hfz8_0 := blk_frozen BK201.out 0; have hfz8_1 := blk_frozen BK201.out 1; have hfz8_2 := blk_frozen BK201.out 2))
  refine bodyPost_ret (results_ct rfl _ _ gb201 34 #[.int .i64 a0_0, .slice A0_1 l0_1.length c0_1, .bool true] (0, 0) _ rfl (by (with_reducible repeat (first | refine blk_drewN ?_ _ | refine blk_drew ?_ | refine blk_alloc ?_ _)); refine blk_put (cs := #[.int .i64 a0_0, .slice A0_1 l0_1.length c0_1, .bool false]) ?_ 2 _ rfl; (with_reducible repeat (first | refine blk_drewN ?_ _ | refine blk_drew ?_ | refine blk_alloc ?_ _)); refine blk_put (cs := #[.int .i64 a0_0, .slice none 0 0, .bool false]) ?_ 1 _ rfl; (with_reducible repeat (first | refine blk_drewN ?_ _ | refine blk_drew ?_ | refine blk_alloc ?_ _)); refine blk_put (cs := #[.int .i64 0, .slice none 0 0, .bool false]) ?_ 0 _ rfl; (with_reducible repeat (first | refine blk_drewN ?_ _ | refine blk_drew ?_ | refine blk_alloc ?_ _)); exact BK201.out) Try.underlying34 rfl (by kernel_rfl)) rfl ?_
  exact ⟨_, by first | rfl | (simp [errW_none, errW_some] <;> rfl) | (simp [*, errW_none, errW_some] <;> rfl), by (with_reducible repeat (first | apply Kd.V_alloc | apply Kd.V_drewN | apply Kd.V_drew)); exact Kd.V_mono (Kd.V_far (p := ⟨gb201, 2, none⟩) (Kd.V_far (p := ⟨gb201, 1, none⟩) (Kd.V_far (p := ⟨gb201, 0, none⟩) (Kd.V_mono HO0_1.out (fun k_ hk => (⟨hk, hk.2⟩ : _ ∧ k_ ≠ gb201))) (fun _ hk => hk.2) (.int .i64 a0_0)) (fun _ hk => hk.2) (.slice A0_1 l0_1.length c0_1)) (fun _ hk => hk.2) (.bool true)) (fun _ hk => hk.1.1.1), by repeat (first | (with_reducible first | exact HB.out | apply below_alloc | apply pw_below_drewN | apply below_drew1 | refine below_set ?_ GE200.out | refine below_set ?_ GE201.out) | exact HB.out)⟩
 ·replace c3 := Bool.eq_false_iff.mpr c3
  subst c3
  have H1 : (if (l0_1.length : Int) = a0_0 then (some (a0_0, l0_1, false, 10)) else ((some (([] : List Int) : List Int)).bind fun y202 => (if y202.length + l0_1.length < 17592186044416 then ((some (y202 ++ l0_1 : List Int)).bind fun y205 => (if y205.length < 17592186044416 then (some (a0_0, (y205 ++ [a1]), false, 0)) else (none))) else (none)))) = some (r1, r2, r3, r4) := by rw [if_neg (show ¬ (false = true) by decide)] at H; exact H
  clear H
  have H := H1
  clear H1
  by_cases c9 : (l0_1.length : Int) = a0_0
  ·rw [if_pos c9] at H
   have c9b0 : ((l0_1.length : Int) == a0_0) = true := beq_iff_eq.mpr c9
   have c9b1 : ((l0_1.length : Int) != a0_0) = false := bne_eq_false_iff_eq.mpr c9
   clear c9
   simp only [Option.some.injEq, Prod.mk.injEq] at H
   obtain ⟨rfl, rfl, rfl, rfl⟩ := H
   go_enter Try.func18, Try.ntmps18
   go_wp2_with (first | ((with_reducible refine gate_dst (N := 2) rfl ?_); refine box_event ?hg (N := 2) ?hd (cs := #[.int .i64 a0_0, .slice A0_1 l0_1.length c0_1, .bool false]) (t := 34) ?hr ?_; (case hd => rfl); (case hg => rfl); (case hr => first | (go_simp; done) | (go_simp; rfl)); intro gb200 hg w10 hbox hb; have n0_ := Aside0.mk (Kd.V_below (Kd.V_elderB (vV_ HO0_1) gb200 (Nat.le_of_eq hg.symm)) hb); have n1_ := Aside0.mk (below_step (hB_ HB) hb); have n2_ := Aside0.mk (hbox); have n3_ := Aside0.mk ((by rw [hg]; exact (below_size (hB_ HB)) : w.heap.size ≤ gb200)); have n4_ := Aside0.mk ((by rw [hg]; exact (below_size (hB_ HB)) : w.heap.size ≤ gb200)); clear HO0_1; clear HB; have HO0_1 := n0_; have HB := n1_; have BK200 := n2_; have GW200 := n3_; have GE200 := n4_; clear n0_ n1_ n2_ n3_ n4_; clear hb hbox hg) | ((with_reducible refine gate_dst (N := 4) rfl ?_); refine box_event ?hg (N := 4) ?hd (cs := #[.int .i64 0, .slice none 0 0, .bool false]) (t := 34) ?hr ?_; (case hd => rfl); (case hg => rfl); (case hr => first | (go_simp; done) | (go_simp; rfl)); intro gb201 hg w11 hbox hb; have n0_ := Aside0.mk (Kd.V_below (Kd.V_elderB (vV_ HO0_1) gb201 (Nat.le_of_eq hg.symm)) hb); have n1_ := bB_ BK200 hb; have n2_ := Aside0.mk (below_step (hB_ HB) hb); have n3_ := Aside0.mk (hbox); have n4_ := Aside0.mk ((by rw [hg]; exact (below_size (hB_ HB)) : w.heap.size ≤ gb201)); have n5_ := Aside0.mk ((by rw [hg]; exact (below_size (hB_ HB)) : w.heap.size ≤ gb201)); have n6_ := Aside0.mk ((by rw [hg]; exact Nat.ne_of_lt (blk_lt (g := gb200) (o := .cells #[.int .i64 a0_0, .slice A0_1 l0_1.length c0_1, .bool false] 34 (0, 0)) (bk_ BK200)) : gb200 ≠ gb201)); have n7_ := Aside0.mk ((by rw [hg]; exact Nat.ne_of_gt (blk_lt (g := gb200) (o := .cells #[.int .i64 a0_0, .slice A0_1 l0_1.length c0_1, .bool false] 34 (0, 0)) (bk_ BK200)) : gb201 ≠ gb200)); clear HO0_1; clear BK200; clear HB; have HO0_1 := n0_; have BK200 := n1_; have HB := n2_; have BK201 := n3_; have GW201 := n4_; have GE201 := n5_; have NB200_201 := n6_; have NB201_200 := n7_; clear n0_ n1_ n2_ n3_ n4_ n5_ n6_ n7_; clear hb hbox hg; have hnb12 := NB200_201.out; have hnc12 := NB201_200.out; have hcz13_0 : w11.cell? ⟨gb200, 0, none⟩ = some (.int .i64 a0_0) := (blk_cell BK200.out 0).trans rfl; have hcz13_1 : w11.cell? ⟨gb200, 1, none⟩ = some (.slice A0_1 l0_1.length c0_1) := (blk_cell BK200.out 1).trans rfl; have hcz13_2 : w11.cell? ⟨gb200, 2, none⟩ = some (.bool false) := (blk_cell BK200.out 2).trans rfl; have hfz13_0 := blk_frozen BK200.out 0; have hfz13_1 := blk_frozen BK200.out 1; have hfz13_2 := blk_frozen BK200.out 2; have hcz14_0 : w11.cell? ⟨gb201, 0, none⟩ = some (.int .i64 0) := (blk_cell BK201.out 0).trans rfl; have hcz14_1 : w11.cell? ⟨gb201, 1, none⟩ = some (.slice none 0 0) := (blk_cell BK201.out 1).trans rfl; have hcz14_2 : w11.cell? ⟨gb201, 2, none⟩ = some (.bool false) := (blk_cell BK201.out 2).trans rfl; have hfz14_0 := blk_frozen BK201.out 0; have hfz14_1 := blk_frozen BK201.out 1; have hfz14_2 := blk_frozen BK201.out 2))
   refine bodyPost_ret (results_ct rfl _ _ gb201 34 #[.int .i64 a0_0, .slice A0_1 l0_1.length c0_1, .bool false] (0, 0) _ rfl (by (with_reducible repeat (first | refine blk_drewN ?_ _ | refine blk_drew ?_ | refine blk_alloc ?_ _)); refine blk_put (cs := #[.int .i64 a0_0, .slice A0_1 l0_1.length c0_1, .bool false]) ?_ 2 _ rfl; (with_reducible repeat (first | refine blk_drewN ?_ _ | refine blk_drew ?_ | refine blk_alloc ?_ _)); refine blk_put (cs := #[.int .i64 a0_0, .slice none 0 0, .bool false]) ?_ 1 _ rfl; (with_reducible repeat (first | refine blk_drewN ?_ _ | refine blk_drew ?_ | refine blk_alloc ?_ _)); refine blk_put (cs := #[.int .i64 0, .slice none 0 0, .bool false]) ?_ 0 _ rfl; (with_reducible repeat (first | refine blk_drewN ?_ _ | refine blk_drew ?_ | refine blk_alloc ?_ _)); exact BK201.out) Try.underlying34 rfl (by kernel_rfl)) rfl ?_
   exact ⟨_, by first | rfl | (simp [errW_none, errW_some] <;> rfl) | (simp [*, errW_none, errW_some] <;> rfl), by (with_reducible repeat (first | apply Kd.V_alloc | apply Kd.V_drewN | apply Kd.V_drew)); exact Kd.V_mono (Kd.V_far (p := ⟨gb201, 2, none⟩) (Kd.V_far (p := ⟨gb201, 1, none⟩) (Kd.V_far (p := ⟨gb201, 0, none⟩) (Kd.V_mono HO0_1.out (fun k_ hk => (⟨hk, hk.2⟩ : _ ∧ k_ ≠ gb201))) (fun _ hk => hk.2) (.int .i64 a0_0)) (fun _ hk => hk.2) (.slice A0_1 l0_1.length c0_1)) (fun _ hk => hk.2) (.bool false)) (fun _ hk => hk.1.1.1), by repeat (first | (with_reducible first | exact HB.out | apply below_alloc | apply pw_below_drewN | apply below_drew1 | refine below_set ?_ GE200.out | refine below_set ?_ GE201.out) | exact HB.out)⟩
  ·rw [if_neg c9] at H
   have c9b0 : ((l0_1.length : Int) == a0_0) = false := beq_eq_false_iff_ne.mpr c9
   have c9b1 : ((l0_1.length : Int) != a0_0) = true := bne_iff_ne.mpr c9
   obtain ⟨y202, hy202⟩ : ∃ y_ : List Int, y_ = (([] : List Int)) := ⟨_, rfl⟩
   replace H : (if y202.length + l0_1.length < 17592186044416 then ((some (y202 ++ l0_1 : List Int)).bind fun y205 => (if y205.length < 17592186044416 then (some (a0_0, (y205 ++ [a1]), false, 0)) else (none))) else (none)) = some (r1, r2, r3, r4) := by first | (rw [hy202]; with_reducible exact H) | (have H2_ := (Option.bind_some _ _).symm.trans H; rw [hy202]; with_reducible exact H2_) | (have H2_ := (Option.bind_some _ _).symm.trans H; with_reducible exact H2_) | with_reducible exact H | (rw [hy202]; exact H) | exact H
   have Ny202 := Aside0.mk hy202
   clear hy202
   by_cases c15 : y202.length + l0_1.length < 17592186044416
   ·rw [if_pos c15] at H
    have LMc15 := Aside0.mk c15
    clear c15
    obtain ⟨y205, hy205⟩ : ∃ y_ : List Int, y_ = (y202 ++ l0_1) := ⟨_, rfl⟩
    replace H : (if y205.length < 17592186044416 then (some (a0_0, (y205 ++ [a1]), false, 0)) else (none)) = some (r1, r2, r3, r4) := by first | (rw [hy205]; with_reducible exact H) | (have H2_ := (Option.bind_some _ _).symm.trans H; rw [hy205]; with_reducible exact H2_) | (have H2_ := (Option.bind_some _ _).symm.trans H; with_reducible exact H2_) | with_reducible exact H | (rw [hy205]; exact H) | exact H
    have Ny205 := Aside0.mk hy205
    clear hy205
    by_cases c16 : y205.length < 17592186044416
    ·rw [if_pos c16] at H
     have LMc16 := Aside0.mk c16
     clear c16
     obtain ⟨y208, hy208⟩ : ∃ y_ : List Int, y_ = (y205 ++ [a1]) := ⟨_, rfl⟩
     replace H : (some (a0_0, y208, false, 0)) = some (r1, r2, r3, r4) := by first | (rw [hy208]; with_reducible exact H) | (have H2_ := (Option.bind_some _ _).symm.trans H; rw [hy208]; with_reducible exact H2_) | (have H2_ := (Option.bind_some _ _).symm.trans H; with_reducible exact H2_) | with_reducible exact H | (rw [hy208]; exact H) | exact H
     have Ny208 := Aside0.mk hy208
     clear hy208
     simp only [Option.some.injEq, Prod.mk.injEq] at H
     obtain ⟨rfl, rfl, rfl, rfl⟩ := H
     go_enter Try.func18, Try.ntmps18
     go_wp2_with (first | ((with_reducible refine gate_dst (N := 2) rfl ?_); refine box_event ?hg (N := 2) ?hd (cs := #[.int .i64 a0_0, .slice A0_1 l0_1.length c0_1, .bool false]) (t := 34) ?hr ?_; (case hd => rfl); (case hg => rfl); (case hr => first | (go_simp; done) | (go_simp; rfl)); intro gb200 hg w17 hbox hb; have n0_ := Aside0.mk (Kd.V_below (Kd.V_elderB (vV_ HO0_1) gb200 (Nat.le_of_eq hg.symm)) hb); have n1_ := Aside0.mk (below_step (hB_ HB) hb); have n2_ := Aside0.mk (hbox); have n3_ := Aside0.mk ((by rw [hg]; exact (below_size (hB_ HB)) : w.heap.size ≤ gb200)); have n4_ := Aside0.mk ((by rw [hg]; exact (below_size (hB_ HB)) : w.heap.size ≤ gb200)); clear HO0_1; clear HB; have HO0_1 := n0_; have HB := n1_; have BK200 := n2_; have GW200 := n3_; have GE200 := n4_; clear n0_ n1_ n2_ n3_ n4_; clear hb hbox hg) | ((with_reducible refine gate_dst (N := 4) rfl ?_); refine box_event ?hg (N := 4) ?hd (cs := #[.int .i64 0, .slice none 0 0, .bool false]) (t := 34) ?hr ?_; (case hd => rfl); (case hg => rfl); (case hr => first | (go_simp; done) | (go_simp; rfl)); intro gb201 hg w18 hbox hb; have n0_ := Aside0.mk (Kd.V_below (Kd.V_elderB (vV_ HO0_1) gb201 (Nat.le_of_eq hg.symm)) hb); have n1_ := bB_ BK200 hb; have n2_ := Aside0.mk (below_step (hB_ HB) hb); have n3_ := Aside0.mk (hbox); have n4_ := Aside0.mk ((by rw [hg]; exact (below_size (hB_ HB)) : w.heap.size ≤ gb201)); have n5_ := Aside0.mk ((by rw [hg]; exact (below_size (hB_ HB)) : w.heap.size ≤ gb201)); have n6_ := Aside0.mk ((by rw [hg]; exact Nat.ne_of_lt (blk_lt (g := gb200) (o := .cells #[.int .i64 a0_0, .slice A0_1 l0_1.length c0_1, .bool false] 34 (0, 0)) (bk_ BK200)) : gb200 ≠ gb201)); have n7_ := Aside0.mk ((by rw [hg]; exact Nat.ne_of_gt (blk_lt (g := gb200) (o := .cells #[.int .i64 a0_0, .slice A0_1 l0_1.length c0_1, .bool false] 34 (0, 0)) (bk_ BK200)) : gb201 ≠ gb200)); clear HO0_1; clear BK200; clear HB; have HO0_1 := n0_; have BK200 := n1_; have HB := n2_; have BK201 := n3_; have GW201 := n4_; have GE201 := n5_; have NB200_201 := n6_; have NB201_200 := n7_; clear n0_ n1_ n2_ n3_ n4_ n5_ n6_ n7_; clear hb hbox hg; have hnb19 := NB200_201.out; have hnc19 := NB201_200.out; have hcz20_0 : w18.cell? ⟨gb200, 0, none⟩ = some (.int .i64 a0_0) := (blk_cell BK200.out 0).trans rfl; have hcz20_1 : w18.cell? ⟨gb200, 1, none⟩ = some (.slice A0_1 l0_1.length c0_1) := (blk_cell BK200.out 1).trans rfl; have hcz20_2 : w18.cell? ⟨gb200, 2, none⟩ = some (.bool false) := (blk_cell BK200.out 2).trans rfl; have hfz20_0 := blk_frozen BK200.out 0; have hfz20_1 := blk_frozen BK200.out 1; have hfz20_2 := blk_frozen BK200.out 2) | ((with_reducible refine gate_dst (N := 16) rfl ?_); refine Kd.R_lit (Kd.int .i64) _ 3 ?hg (N := 16) ?hd (xs := ([] : List Int)) (inner := []) (ok := fun _ => True) (okp := fun _ => True) ?hr ?hp (fun _ hk => hk) trivial (Below.refl _ _) (Nat.le_refl _) (by simp) ?_; (case hd => rfl); (case hg => rfl); (case hr => first | (go_simp; done) | (go_simp; rfl)); (case hp => exact (Reps.none _ _)); intro v203 w21 ho22 hb hg_ hnew_; clear hg_ hnew_; (first | rw [← Ny202.out] at ho22 | (simp only [Int.reduceToNat] at ho22; rw [← Ny202.out] at ho22)); have n0_ := Aside0.mk (Kd.V_elder' (vV_ HO0_1) (Kd.R_base ho22) hb); have n1_ := Aside0.mk (Kd.R_lower (Kd.R_newM (M := fun k_ => (w.heap.size ≤ k_)) ho22 (below_size (hB_ HB)) (fun k_ h_ => h_)) (below_size (hB_ HB))); have n2_ := bB_ BK200 hb; have n3_ := bB_ BK201 hb; have n4_ := Aside0.mk (below_step (hB_ HB) hb); clear HO0_1; clear BK200; clear BK201; clear HB; have HO0_1 := n0_; have HO204 := n1_; have BK200 := n2_; have BK201 := n3_; have HB := n4_; clear n0_ n1_ n2_ n3_ n4_; clear hb ho22; have hcz23_0 : w21.cell? ⟨gb200, 0, none⟩ = some (.int .i64 a0_0) := (blk_cell BK200.out 0).trans rfl; have hcz23_1 : w21.cell? ⟨gb200, 1, none⟩ = some (.slice A0_1 l0_1.length c0_1) := (blk_cell BK200.out 1).trans rfl; have hcz23_2 : w21.cell? ⟨gb200, 2, none⟩ = some (.bool false) := (blk_cell BK200.out 2).trans rfl; have hfz23_0 := blk_frozen BK200.out 0; have hfz23_1 := blk_frozen BK200.out 1; have hfz23_2 := blk_frozen BK200.out 2) | ((with_reducible refine gate_builtin (b := .append) (xs := #[.tmp 16, .tmp 18]) rfl ?_); at_builtin; refine Kd.R_append_rows (Kd.int .i64) (w0 := w) w.heap.size rfl (.tmp 16) (.tmp 18) 32 3 (.int .i64 0) 8 rfl Try.underlying32 info3 rfl (by decide) (by omega) v203 y202 l0_1 _ _ _ (fun k_ => (w.heap.size ≤ k_)) (fun _ => False) rfl rfl ?aO ?aR (fun _ _ h => h) (fun _ h => h.elim) ?aF ?aB ?aS ?aL ?_; (case aR => repeat (first | exact (Kd.V_reads' HO0_1.out).2.2 | (with_reducible refine Kd.C_alloc ?_ _) | (with_reducible refine Kd.C_drewN ?_ _) | (with_reducible refine Kd.C_drew ?_))); (case aB => exact (hB_ HB)); (case aF => exact (fun k_ hk => (Nat.le_trans (below_size (hB_ HB)) hk))); (case aO => exact (by (with_reducible repeat (first | apply Kd.R_alloc | apply Kd.R_drewN | apply Kd.R_drew)); exact Kd.R_mono HO204.out (fun _ hk => hk.1))); (case aS => exact (below_size (hB_ HB))); (case aL => have := LMc15.out; omega); intro v206 w24 ho hb hg hat; rw [← Ny205.out] at ho; have n0_ := Aside0.mk (Kd.V_afterv (ok := (fun k_ => (P0_1_ k_ ∨ w.heap.size ≤ k_) ∧ k_ ≠ gb200 ∧ k_ ≠ gb201)) (by (with_reducible repeat (first | apply Kd.V_alloc | apply Kd.V_drewN | apply Kd.V_drew)); exact Kd.V_mono HO0_1.out (fun _ hk => ⟨⟨hk.1.1.1, ⟨hk.1.1.2, hk.1.2⟩⟩, hk.2⟩)) hg hat); have n1_ := Aside0.mk (blk_grown (g := gb200) (o := .cells #[.int .i64 a0_0, .slice A0_1 l0_1.length c0_1, .bool false] 34 (0, 0)) (bk_ BK200) hg (Kd.R_ne HO204.out BK200.out (by decide))); have n2_ := Aside0.mk (blk_grown (g := gb201) (o := .cells #[.int .i64 0, .slice none 0 0, .bool false] 34 (0, 0)) (bk_ BK201) hg (Kd.R_ne HO204.out BK201.out (by decide))); have n3_ := Aside0.mk (hb); have n4_ := Aside0.mk (ho); clear HO0_1; clear BK200; clear BK201; clear HB; clear HO204; have HO0_1 := n0_; have BK200 := n1_; have BK201 := n2_; have HB := n3_; have HO207 := n4_; clear n0_ n1_ n2_ n3_ n4_; clear ho hb hg hat) | ((with_reducible refine gate_builtin (b := .append) (xs := #[.tmp 19, .tmp 21]) rfl ?_); at_builtin; refine Kd.R_append (Kd.int .i64) (w0 := w) w.heap.size rfl (.tmp 19) (.tmp 21) 32 3 (.int .i64 0) 8 rfl Try.underlying32 info3 rfl (by decide) (by omega) v206 y205 a1 [.int .i64 a1] (fun k_ => (w.heap.size ≤ k_)) (fun _ => False) rfl rfl ?aP (fun _ hk => hk.elim) ?aF ?aO ?aB ?aS ?aL ?_; (case aP => exact rfl); (case aB => exact (hB_ HB)); (case aF => exact (fun k_ hk => (Nat.le_trans (below_size (hB_ HB)) hk))); (case aO => exact (rR_ HO207)); (case aS => exact (below_size (hB_ HB))); (case aL => have := LMc16.out; omega); intro v209 w25 ho hb hg hat; rw [← Ny208.out] at ho; have n0_ := Aside0.mk (Kd.V_afterv (ok := (fun k_ => (P0_1_ k_ ∨ w.heap.size ≤ k_) ∧ k_ ≠ gb200 ∧ k_ ≠ gb201)) (vV_ HO0_1) hg hat); have n1_ := Aside0.mk (blk_grown (g := gb200) (o := .cells #[.int .i64 a0_0, .slice A0_1 l0_1.length c0_1, .bool false] 34 (0, 0)) (bk_ BK200) hg (Kd.R_ne HO207.out BK200.out (by decide))); have n2_ := Aside0.mk (blk_grown (g := gb201) (o := .cells #[.int .i64 0, .slice none 0 0, .bool false] 34 (0, 0)) (bk_ BK201) hg (Kd.R_ne HO207.out BK201.out (by decide))); have n3_ := Aside0.mk (hb); have n4_ := Aside0.mk (ho); clear HO0_1; clear BK200; clear BK201; clear HB; clear HO207; have HO0_1 := n0_; have BK200 := n1_; have BK201 := n2_; have HB := n3_; have HO210 := n4_; clear n0_ n1_ n2_ n3_ n4_; clear ho hb hg hat; obtain ⟨Ao26, co26, eo26⟩ := Kd.R_slice HO210.out; subst eo26; have hcz27_0 : w25.cell? ⟨gb200, 0, none⟩ = some (.int .i64 a0_0) := (blk_cell BK200.out 0).trans rfl; have hcz27_1 : w25.cell? ⟨gb200, 1, none⟩ = some (.slice A0_1 l0_1.length c0_1) := (blk_cell BK200.out 1).trans rfl; have hcz27_2 : w25.cell? ⟨gb200, 2, none⟩ = some (.bool false) := (blk_cell BK200.out 2).trans rfl; have hfz27_0 := blk_frozen BK200.out 0; have hfz27_1 := blk_frozen BK200.out 1; have hfz27_2 := blk_frozen BK200.out 2; have hcz28_0 : w25.cell? ⟨gb201, 0, none⟩ = some (.int .i64 0) := (blk_cell BK201.out 0).trans rfl; have hcz28_1 : w25.cell? ⟨gb201, 1, none⟩ = some (.slice none 0 0) := (blk_cell BK201.out 1).trans rfl; have hcz28_2 : w25.cell? ⟨gb201, 2, none⟩ = some (.bool false) := (blk_cell BK201.out 2).trans rfl; have hfz28_0 := blk_frozen BK201.out 0; have hfz28_1 := blk_frozen BK201.out 1; have hfz28_2 := blk_frozen BK201.out 2))
     refine bodyPost_ret (results_ct rfl _ _ gb201 34 #[.int .i64 a0_0, .slice Ao26 y208.length co26, .bool false] (0, 0) _ rfl (by (with_reducible repeat (first | refine blk_drewN ?_ _ | refine blk_drew ?_ | refine blk_alloc ?_ _)); refine blk_put (cs := #[.int .i64 a0_0, .slice Ao26 y208.length co26, .bool false]) ?_ 2 _ rfl; (with_reducible repeat (first | refine blk_drewN ?_ _ | refine blk_drew ?_ | refine blk_alloc ?_ _)); refine blk_put (cs := #[.int .i64 a0_0, .slice none 0 0, .bool false]) ?_ 1 _ rfl; (with_reducible repeat (first | refine blk_drewN ?_ _ | refine blk_drew ?_ | refine blk_alloc ?_ _)); refine blk_put (cs := #[.int .i64 0, .slice none 0 0, .bool false]) ?_ 0 _ rfl; (with_reducible repeat (first | refine blk_drewN ?_ _ | refine blk_drew ?_ | refine blk_alloc ?_ _)); refine blk_far ?_ NB201_200.out _; (with_reducible repeat (first | refine blk_drewN ?_ _ | refine blk_drew ?_ | refine blk_alloc ?_ _)); exact BK201.out) Try.underlying34 rfl (by kernel_rfl)) rfl ?_
     exact ⟨_, by first | rfl | (simp [errW_none, errW_some] <;> rfl) | (simp [*, errW_none, errW_some] <;> rfl), Kd.V_mono (Kd.R_V (by (with_reducible repeat (first | apply Kd.R_alloc | apply Kd.R_drewN | apply Kd.R_drew)); exact Kd.R_mono (Kd.R_far (p := ⟨gb201, 2, none⟩) (Kd.R_far (p := ⟨gb201, 1, none⟩) (Kd.R_far (p := ⟨gb201, 0, none⟩) (Kd.R_far (p := ⟨gb200, 1, none⟩) (Kd.R_types (Kd.R_types HO210.out BK200.out (by decide)) BK201.out (by decide)) (fun _ hk => hk.1.2) (.slice Ao26 y208.length co26)) (fun _ hk => hk.2) (.int .i64 a0_0)) (fun _ hk => hk.2) (.slice Ao26 y208.length co26)) (fun _ hk => hk.2) (.bool false)) (fun _ hk => hk.1.1))) (fun k_ hk => by first | exact ⟨(.inr (hk.1)), hk.2⟩ | exact (.inr (hk))), by repeat (first | (with_reducible first | exact HB.out | apply below_alloc | apply pw_below_drewN | apply below_drew1 | refine below_set ?_ GE200.out | refine below_set ?_ GE201.out) | exact HB.out)⟩
    ·rw [if_neg c16] at H
     exact absurd H (by simp)
   ·rw [if_neg c15] at H
    exact absurd H (by simp)

/-! ### lodgerref03_Take: function 20 -/
def lodgerref03_Take.f (a0_0 : Int) (l0_1 : List Int) (a0_2 : Bool) : Option (Int × List Int × Bool × Int × Bool) := if (l0_1.length : Int) = 0 then (some (a0_0, l0_1, a0_2, 0, false)) else ((some (([] : List Int) : List Int)).bind fun y214 => (if 1 ≤ (l0_1.length : Int) then ((some (l0_1.drop 1 : List Int)).bind fun y217 => (if y214.length + y217.length < 17592186044416 then (if 0 < (l0_1.length : Int) then (some (a0_0, (y214 ++ y217), a0_2, rd l0_1 0, true)) else (none)) else (none))) else (none)))
def lodgerref03_Take.T5 : Bool × List (List Nat × List Nat) := (true, [([], []), ([], []), ([1], [1]), ([2], [2]), ([3], [3]), ([0, 0], [0]), ([4, 5, 0, 1, 2, 3, 4, 5], [4]), ([6, 0, 1, 2, 3, 4, 5, 6], [])])
def lodgerref03_Take.B5 : List Nat := [0, 0, 2, 6, 14, 1, 63, 127]
theorem lodgerref03_Take.tab5 : rtab .any (opsOf Try.f20 5) = lodgerref03_Take.T5 := by kernel_rfl
theorem lodgerref03_Take.bits5 : waitsOk lodgerref03_Take.T5.2 lodgerref03_Take.B5 = true := by kernel_rfl
set_option maxHeartbeats 8000000 in
set_option maxRecDepth 100000 in
theorem lodgerref03_Take.calls (a0_0 : Int) (P0_1_ : Nat → Prop) (A0_1 : Option Addr) (c0_1 : Nat) (l0_1 : List Int) (a0_2 : Bool) (r1 : Int) (r2 : List Int) (r3 : Bool) (r4 : Int) (r5 : Bool) (w : World) (hs0_1 : Kd.V (Kd.int .i64) 3 w w.heap.size (fun k_ => P0_1_ k_) (.slice A0_1 l0_1.length c0_1) l0_1) (h : lodgerref03_Take.f a0_0 l0_1 a0_2 = some (r1, r2, r3, r4, r5)) :
  Calls Try.prog 20 #[.agg #[.int .i64 a0_0, .slice A0_1 l0_1.length c0_1, .bool a0_2]] w fun e w' => ∃ v1_ : Value, e = .returned (.tuple #[.agg #[.int .i64 r1, v1_, .bool r3], .int .i64 r4, .bool r5]) ∧ Kd.V (Kd.int .i64) 3 w' w.heap.size (fun k_ => (P0_1_ k_ ∨ w.heap.size ≤ k_)) v1_ r2 ∧ Below w.heap.size w w' := by
 have hu34 := Try.underlying34
 have HO0_1 := Aside0.mk (show Kd.V (Kd.int .i64) 3 w w.heap.size (fun k_ => (P0_1_ k_ ∨ w.heap.size ≤ k_)) (.slice A0_1 l0_1.length c0_1) l0_1 from Kd.V_mono hs0_1 (fun k_ hk => .inl hk))
 have HB := Aside0.mk (Below.refl w.heap.size w)
 have H : (if (l0_1.length : Int) = 0 then (some (a0_0, l0_1, a0_2, 0, false)) else ((some (([] : List Int) : List Int)).bind fun y214 => (if 1 ≤ (l0_1.length : Int) then ((some (l0_1.drop 1 : List Int)).bind fun y217 => (if y214.length + y217.length < 17592186044416 then (if 0 < (l0_1.length : Int) then (some (a0_0, (y214 ++ y217), a0_2, rd l0_1 0, true)) else (none)) else (none))) else (none)))) = some (r1, r2, r3, r4, r5) := h
 clear h
 by_cases c2 : (l0_1.length : Int) = 0
 ·rw [if_pos c2] at H
  have c2b0 : ((l0_1.length : Int) == 0) = true := beq_iff_eq.mpr c2
  have c2b1 : ((l0_1.length : Int) != 0) = false := bne_eq_false_iff_eq.mpr c2
  clear c2
  simp only [Option.some.injEq, Prod.mk.injEq] at H
  obtain ⟨rfl, rfl, rfl, rfl, rfl⟩ := H
  go_enter Try.func20, Try.ntmps20
  go_wp2_with (first | ((with_reducible refine gate_dst (N := 1) rfl ?_); refine box_event ?hg (N := 1) ?hd (cs := #[.int .i64 a0_0, .slice A0_1 l0_1.length c0_1, .bool a0_2]) (t := 34) ?hr ?_; (case hd => rfl); (case hg => rfl); (case hr => first | (go_simp; done) | (go_simp; rfl)); intro gb211 hg w3 hbox hb; have n0_ := Aside0.mk (Kd.V_below (Kd.V_elderB (vV_ HO0_1) gb211 (Nat.le_of_eq hg.symm)) hb); have n1_ := Aside0.mk (below_step (hB_ HB) hb); have n2_ := Aside0.mk (hbox); have n3_ := Aside0.mk ((by rw [hg]; exact (below_size (hB_ HB)) : w.heap.size ≤ gb211)); have n4_ := Aside0.mk ((by rw [hg]; exact (below_size (hB_ HB)) : w.heap.size ≤ gb211)); clear HO0_1; clear HB; have HO0_1 := n0_; have HB := n1_; have BK211 := n2_; have GW211 := n3_; have GE211 := n4_; clear n0_ n1_ n2_ n3_ n4_; clear hb hbox hg) | ((with_reducible refine gate_dst (N := 2) rfl ?_); refine box_event ?hg (N := 2) ?hd (cs := #[.int .i64 0, .slice none 0 0, .bool false]) (t := 34) ?hr ?_; (case hd => rfl); (case hg => rfl); (case hr => first | (go_simp; done) | (go_simp; rfl)); intro gb212 hg w4 hbox hb; have n0_ := Aside0.mk (Kd.V_below (Kd.V_elderB (vV_ HO0_1) gb212 (Nat.le_of_eq hg.symm)) hb); have n1_ := bB_ BK211 hb; have n2_ := Aside0.mk (below_step (hB_ HB) hb); have n3_ := Aside0.mk (hbox); have n4_ := Aside0.mk ((by rw [hg]; exact (below_size (hB_ HB)) : w.heap.size ≤ gb212)); have n5_ := Aside0.mk ((by rw [hg]; exact (below_size (hB_ HB)) : w.heap.size ≤ gb212)); have n6_ := Aside0.mk ((by rw [hg]; exact Nat.ne_of_lt (blk_lt (g := gb211) (o := .cells #[.int .i64 a0_0, .slice A0_1 l0_1.length c0_1, .bool a0_2] 34 (0, 0)) (bk_ BK211)) : gb211 ≠ gb212)); have n7_ := Aside0.mk ((by rw [hg]; exact Nat.ne_of_gt (blk_lt (g := gb211) (o := .cells #[.int .i64 a0_0, .slice A0_1 l0_1.length c0_1, .bool a0_2] 34 (0, 0)) (bk_ BK211)) : gb212 ≠ gb211)); clear HO0_1; clear BK211; clear HB; have HO0_1 := n0_; have BK211 := n1_; have HB := n2_; have BK212 := n3_; have GW212 := n4_; have GE212 := n5_; have NB211_212 := n6_; have NB212_211 := n7_; clear n0_ n1_ n2_ n3_ n4_ n5_ n6_ n7_; clear hb hbox hg; have hnb5 := NB211_212.out; have hnc5 := NB212_211.out; have hcz6_0 : w4.cell? ⟨gb211, 0, none⟩ = some (.int .i64 a0_0) := (blk_cell BK211.out 0).trans rfl; have hcz6_1 : w4.cell? ⟨gb211, 1, none⟩ = some (.slice A0_1 l0_1.length c0_1) := (blk_cell BK211.out 1).trans rfl; have hcz6_2 : w4.cell? ⟨gb211, 2, none⟩ = some (.bool a0_2) := (blk_cell BK211.out 2).trans rfl; have hfz6_0 := blk_frozen BK211.out 0; have hfz6_1 := blk_frozen BK211.out 1; have hfz6_2 := blk_frozen BK211.out 2; have hcz7_0 : w4.cell? ⟨gb212, 0, none⟩ = some (.int .i64 0) := (blk_cell BK212.out 0).trans rfl; have hcz7_1 : w4.cell? ⟨gb212, 1, none⟩ = some (.slice none 0 0) := (blk_cell BK212.out 1).trans rfl; have hcz7_2 : w4.cell? ⟨gb212, 2, none⟩ = some (.bool false) := (blk_cell BK212.out 2).trans rfl; have hfz7_0 := blk_frozen BK212.out 0; have hfz7_1 := blk_frozen BK212.out 1; have hfz7_2 := blk_frozen BK212.out 2))
  refine bodyPost_ret (results_ctt rfl _ _ gb212 34 #[.int .i64 a0_0, .slice A0_1 l0_1.length c0_1, .bool a0_2] (0, 0) _ rfl (by (with_reducible repeat (first | refine blk_drewN ?_ _ | refine blk_drew ?_ | refine blk_alloc ?_ _)); refine blk_put (cs := #[.int .i64 a0_0, .slice A0_1 l0_1.length c0_1, .bool false]) ?_ 2 _ rfl; (with_reducible repeat (first | refine blk_drewN ?_ _ | refine blk_drew ?_ | refine blk_alloc ?_ _)); refine blk_put (cs := #[.int .i64 a0_0, .slice none 0 0, .bool false]) ?_ 1 _ rfl; (with_reducible repeat (first | refine blk_drewN ?_ _ | refine blk_drew ?_ | refine blk_alloc ?_ _)); refine blk_put (cs := #[.int .i64 0, .slice none 0 0, .bool false]) ?_ 0 _ rfl; (with_reducible repeat (first | refine blk_drewN ?_ _ | refine blk_drew ?_ | refine blk_alloc ?_ _)); exact BK212.out) Try.underlying34 rfl (by kernel_rfl)) rfl ?_
  exact ⟨_, by first | rfl | (simp [errW_none, errW_some] <;> rfl) | (simp [*, errW_none, errW_some] <;> rfl), by (with_reducible repeat (first | apply Kd.V_alloc | apply Kd.V_drewN | apply Kd.V_drew)); exact Kd.V_mono (Kd.V_far (p := ⟨gb212, 2, none⟩) (Kd.V_far (p := ⟨gb212, 1, none⟩) (Kd.V_far (p := ⟨gb212, 0, none⟩) (Kd.V_mono HO0_1.out (fun k_ hk => (⟨hk, hk.2⟩ : _ ∧ k_ ≠ gb212))) (fun _ hk => hk.2) (.int .i64 a0_0)) (fun _ hk => hk.2) (.slice A0_1 l0_1.length c0_1)) (fun _ hk => hk.2) (.bool a0_2)) (fun _ hk => hk.1.1.1), by repeat (first | (with_reducible first | exact HB.out | apply below_alloc | apply pw_below_drewN | apply below_drew1 | refine below_set ?_ GE211.out | refine below_set ?_ GE212.out) | exact HB.out)⟩
 ·rw [if_neg c2] at H
  have c2b0 : ((l0_1.length : Int) == 0) = false := beq_eq_false_iff_ne.mpr c2
  have c2b1 : ((l0_1.length : Int) != 0) = true := bne_iff_ne.mpr c2
  have c2b2 : ¬ (l0_1 = []) := fun h_ => c2 (by rw [h_]; rfl)
  obtain ⟨y214, hy214⟩ : ∃ y_ : List Int, y_ = (([] : List Int)) := ⟨_, rfl⟩
  replace H : (if 1 ≤ (l0_1.length : Int) then ((some (l0_1.drop 1 : List Int)).bind fun y217 => (if y214.length + y217.length < 17592186044416 then (if 0 < (l0_1.length : Int) then (some (a0_0, (y214 ++ y217), a0_2, rd l0_1 0, true)) else (none)) else (none))) else (none)) = some (r1, r2, r3, r4, r5) := by first | (rw [hy214]; with_reducible exact H) | (have H2_ := (Option.bind_some _ _).symm.trans H; rw [hy214]; with_reducible exact H2_) | (have H2_ := (Option.bind_some _ _).symm.trans H; with_reducible exact H2_) | with_reducible exact H | (rw [hy214]; exact H) | exact H
  have Ny214 := Aside0.mk hy214
  clear hy214
  by_cases c8 : 1 ≤ (l0_1.length : Int)
  ·rw [if_pos c8] at H
   have c8b0 := eq_true c8
   have c8b1 : decide (1 ≤ (l0_1.length : Int)) = true := decide_eq_true c8
   clear c8
   obtain ⟨y217, hy217⟩ : ∃ y_ : List Int, y_ = (l0_1.drop 1) := ⟨_, rfl⟩
   replace H : (if y214.length + y217.length < 17592186044416 then (if 0 < (l0_1.length : Int) then (some (a0_0, (y214 ++ y217), a0_2, rd l0_1 0, true)) else (none)) else (none)) = some (r1, r2, r3, r4, r5) := by first | (rw [hy217]; with_reducible exact H) | (have H2_ := (Option.bind_some _ _).symm.trans H; rw [hy217]; with_reducible exact H2_) | (have H2_ := (Option.bind_some _ _).symm.trans H; with_reducible exact H2_) | with_reducible exact H | (rw [hy217]; exact H) | exact H
   have Ny217 := Aside0.mk hy217
   clear hy217
   by_cases c9 : y214.length + y217.length < 17592186044416
   ·rw [if_pos c9] at H
    have LMc9 := Aside0.mk c9
    clear c9
    obtain ⟨y222, hy222⟩ : ∃ y_ : List Int, y_ = (y214 ++ y217) := ⟨_, rfl⟩
    replace H : (if 0 < (l0_1.length : Int) then (some (a0_0, y222, a0_2, rd l0_1 0, true)) else (none)) = some (r1, r2, r3, r4, r5) := by first | (rw [hy222]; with_reducible exact H) | (have H2_ := (Option.bind_some _ _).symm.trans H; rw [hy222]; with_reducible exact H2_) | (have H2_ := (Option.bind_some _ _).symm.trans H; with_reducible exact H2_) | with_reducible exact H | (rw [hy222]; exact H) | exact H
    have Ny222 := Aside0.mk hy222
    clear hy222
    by_cases c10 : 0 < (l0_1.length : Int)
    ·rw [if_pos c10] at H
     have c10b0 : decide (0 < (l0_1.length : Int)) = true := decide_eq_true c10
     have c10b1 : decide (0 < l0_1.length) = true := decide_eq_true (by omega)
     clear c10
     simp only [Option.some.injEq, Prod.mk.injEq] at H
     obtain ⟨rfl, rfl, rfl, rfl, rfl⟩ := H
     go_enter Try.func20, Try.ntmps20
     try go_wp2_with (first | ((with_reducible refine gate_dst (N := 1) rfl ?_); refine box_event ?hg (N := 1) ?hd (cs := #[.int .i64 a0_0, .slice A0_1 l0_1.length c0_1, .bool a0_2]) (t := 34) ?hr ?_; (case hd => rfl); (case hg => rfl); (case hr => first | (go_simp; done) | (go_simp; rfl)); intro gb211 hg w11 hbox hb; have n0_ := Aside0.mk (Kd.V_below (Kd.V_elderB (vV_ HO0_1) gb211 (Nat.le_of_eq hg.symm)) hb); have n1_ := Aside0.mk (below_step (hB_ HB) hb); have n2_ := Aside0.mk (hbox); have n3_ := Aside0.mk ((by rw [hg]; exact (below_size (hB_ HB)) : w.heap.size ≤ gb211)); have n4_ := Aside0.mk ((by rw [hg]; exact (below_size (hB_ HB)) : w.heap.size ≤ gb211)); clear HO0_1; clear HB; have HO0_1 := n0_; have HB := n1_; have BK211 := n2_; have GW211 := n3_; have GE211 := n4_; clear n0_ n1_ n2_ n3_ n4_; clear hb hbox hg) | ((with_reducible refine gate_dst (N := 2) rfl ?_); refine box_event ?hg (N := 2) ?hd (cs := #[.int .i64 0, .slice none 0 0, .bool false]) (t := 34) ?hr ?_; (case hd => rfl); (case hg => rfl); (case hr => first | (go_simp; done) | (go_simp; rfl)); intro gb212 hg w12 hbox hb; have n0_ := Aside0.mk (Kd.V_below (Kd.V_elderB (vV_ HO0_1) gb212 (Nat.le_of_eq hg.symm)) hb); have n1_ := bB_ BK211 hb; have n2_ := Aside0.mk (below_step (hB_ HB) hb); have n3_ := Aside0.mk (hbox); have n4_ := Aside0.mk ((by rw [hg]; exact (below_size (hB_ HB)) : w.heap.size ≤ gb212)); have n5_ := Aside0.mk ((by rw [hg]; exact (below_size (hB_ HB)) : w.heap.size ≤ gb212)); have n6_ := Aside0.mk ((by rw [hg]; exact Nat.ne_of_lt (blk_lt (g := gb211) (o := .cells #[.int .i64 a0_0, .slice A0_1 l0_1.length c0_1, .bool a0_2] 34 (0, 0)) (bk_ BK211)) : gb211 ≠ gb212)); have n7_ := Aside0.mk ((by rw [hg]; exact Nat.ne_of_gt (blk_lt (g := gb211) (o := .cells #[.int .i64 a0_0, .slice A0_1 l0_1.length c0_1, .bool a0_2] 34 (0, 0)) (bk_ BK211)) : gb212 ≠ gb211)); clear HO0_1; clear BK211; clear HB; have HO0_1 := n0_; have BK211 := n1_; have HB := n2_; have BK212 := n3_; have GW212 := n4_; have GE212 := n5_; have NB211_212 := n6_; have NB212_211 := n7_; clear n0_ n1_ n2_ n3_ n4_ n5_ n6_ n7_; clear hb hbox hg; have hnb13 := NB211_212.out; have hnc13 := NB212_211.out; have hcz14_0 : w12.cell? ⟨gb211, 0, none⟩ = some (.int .i64 a0_0) := (blk_cell BK211.out 0).trans rfl; have hcz14_1 : w12.cell? ⟨gb211, 1, none⟩ = some (.slice A0_1 l0_1.length c0_1) := (blk_cell BK211.out 1).trans rfl; have hcz14_2 : w12.cell? ⟨gb211, 2, none⟩ = some (.bool a0_2) := (blk_cell BK211.out 2).trans rfl; have hfz14_0 := blk_frozen BK211.out 0; have hfz14_1 := blk_frozen BK211.out 1; have hfz14_2 := blk_frozen BK211.out 2) | ((with_reducible refine gate_dst (N := 5) rfl ?_); refine box_event ?hg (N := 5) ?hd (cs := #[.int .i64 0, .slice none 0 0, .bool false]) (t := 34) ?hr ?_; (case hd => rfl); (case hg => rfl); (case hr => first | (go_simp; done) | (go_simp; rfl)); intro gb213 hg w15 hbox hb; have n0_ := Aside0.mk (Kd.V_below (Kd.V_elderB (vV_ HO0_1) gb213 (Nat.le_of_eq hg.symm)) hb); have n1_ := bB_ BK211 hb; have n2_ := bB_ BK212 hb; have n3_ := Aside0.mk (below_step (hB_ HB) hb); have n4_ := Aside0.mk (hbox); have n5_ := Aside0.mk ((by rw [hg]; exact (below_size (hB_ HB)) : w.heap.size ≤ gb213)); have n6_ := Aside0.mk ((by rw [hg]; exact (below_size (hB_ HB)) : w.heap.size ≤ gb213)); have n7_ := Aside0.mk ((by rw [hg]; exact Nat.ne_of_lt (blk_lt (g := gb211) (o := .cells #[.int .i64 a0_0, .slice A0_1 l0_1.length c0_1, .bool a0_2] 34 (0, 0)) (bk_ BK211)) : gb211 ≠ gb213)); have n8_ := Aside0.mk ((by rw [hg]; exact Nat.ne_of_gt (blk_lt (g := gb211) (o := .cells #[.int .i64 a0_0, .slice A0_1 l0_1.length c0_1, .bool a0_2] 34 (0, 0)) (bk_ BK211)) : gb213 ≠ gb211)); have n9_ := Aside0.mk ((by rw [hg]; exact Nat.ne_of_lt (blk_lt (g := gb212) (o := .cells #[.int .i64 0, .slice none 0 0, .bool false] 34 (0, 0)) (bk_ BK212)) : gb212 ≠ gb213)); have n10_ := Aside0.mk ((by rw [hg]; exact Nat.ne_of_gt (blk_lt (g := gb212) (o := .cells #[.int .i64 0, .slice none 0 0, .bool false] 34 (0, 0)) (bk_ BK212)) : gb213 ≠ gb212)); clear HO0_1; clear BK211; clear BK212; clear HB; have HO0_1 := n0_; have BK211 := n1_; have BK212 := n2_; have HB := n3_; have BK213 := n4_; have GW213 := n5_; have GE213 := n6_; have NB211_213 := n7_; have NB213_211 := n8_; have NB212_213 := n9_; have NB213_212 := n10_; clear n0_ n1_ n2_ n3_ n4_ n5_ n6_ n7_ n8_ n9_ n10_; clear hb hbox hg; have hnb16 := NB213_211.out; have hnc16 := NB211_213.out; have hnb17 := NB213_212.out; have hnc17 := NB212_213.out; have hcz18_0 : w15.cell? ⟨gb213, 0, none⟩ = some (.int .i64 0) := (blk_cell BK213.out 0).trans rfl; have hcz18_1 : w15.cell? ⟨gb213, 1, none⟩ = some (.slice none 0 0) := (blk_cell BK213.out 1).trans rfl; have hcz18_2 : w15.cell? ⟨gb213, 2, none⟩ = some (.bool false) := (blk_cell BK213.out 2).trans rfl; have hfz18_0 := blk_frozen BK213.out 0; have hfz18_1 := blk_frozen BK213.out 1; have hfz18_2 := blk_frozen BK213.out 2) | ((with_reducible refine gate_dst (N := 12) rfl ?_); refine Kd.R_lit (Kd.int .i64) _ 3 ?hg (N := 12) ?hd (xs := ([] : List Int)) (inner := []) (ok := fun _ => True) (okp := fun _ => True) ?hr ?hp (fun _ hk => hk) trivial (Below.refl _ _) (Nat.le_refl _) (by simp) ?_; (case hd => rfl); (case hg => rfl); (case hr => first | (go_simp; done) | (go_simp; rfl)); (case hp => exact (Reps.none _ _)); intro v215 w19 ho20 hb hg_ hnew_; clear hg_ hnew_; (first | rw [← Ny214.out] at ho20 | (simp only [Int.reduceToNat] at ho20; rw [← Ny214.out] at ho20)); have n0_ := Aside0.mk (Kd.V_elder' (by (with_reducible repeat (first | apply Kd.V_alloc | apply Kd.V_drewN | apply Kd.V_drew)); exact (Kd.V_mono (Kd.V_far (p := ⟨gb213, 2, none⟩) (Kd.V_far (p := ⟨gb213, 1, none⟩) (Kd.V_far (p := ⟨gb213, 0, none⟩) (Kd.V_mono HO0_1.out (fun k_ hk => (⟨hk, hk.2⟩ : _ ∧ k_ ≠ gb213))) (fun _ hk => hk.2) (.int .i64 a0_0)) (fun _ hk => hk.2) (.slice A0_1 l0_1.length c0_1)) (fun _ hk => hk.2) (.bool a0_2)) (fun _ h_ => h_.1))) (Kd.R_base ho20) hb); have n1_ := Aside0.mk (Kd.R_lower (Kd.R_newM (M := fun k_ => (w.heap.size ≤ k_)) ho20 (below_size (hB_ HB)) (fun k_ h_ => h_)) (below_size (hB_ HB))); have n2_ := Aside0.mk (blk_below (g := gb211) (o := .cells #[.int .i64 a0_0, .slice A0_1 l0_1.length c0_1, .bool a0_2] 34 (0, 0)) (by (with_reducible repeat (first | refine blk_drewN ?_ _ | refine blk_drew ?_ | refine blk_alloc ?_ _)); refine blk_far ?_ NB211_213.out _; (with_reducible repeat (first | refine blk_drewN ?_ _ | refine blk_drew ?_ | refine blk_alloc ?_ _)); refine blk_far ?_ NB211_213.out _; (with_reducible repeat (first | refine blk_drewN ?_ _ | refine blk_drew ?_ | refine blk_alloc ?_ _)); refine blk_far ?_ NB211_213.out _; (with_reducible repeat (first | refine blk_drewN ?_ _ | refine blk_drew ?_ | refine blk_alloc ?_ _)); exact BK211.out) hb); have n3_ := Aside0.mk (blk_below (g := gb212) (o := .cells #[.int .i64 0, .slice none 0 0, .bool false] 34 (0, 0)) (by (with_reducible repeat (first | refine blk_drewN ?_ _ | refine blk_drew ?_ | refine blk_alloc ?_ _)); refine blk_far ?_ NB212_213.out _; (with_reducible repeat (first | refine blk_drewN ?_ _ | refine blk_drew ?_ | refine blk_alloc ?_ _)); refine blk_far ?_ NB212_213.out _; (with_reducible repeat (first | refine blk_drewN ?_ _ | refine blk_drew ?_ | refine blk_alloc ?_ _)); refine blk_far ?_ NB212_213.out _; (with_reducible repeat (first | refine blk_drewN ?_ _ | refine blk_drew ?_ | refine blk_alloc ?_ _)); exact BK212.out) hb); have n4_ := Aside0.mk (blk_below (g := gb213) (o := .cells #[.int .i64 a0_0, .slice A0_1 l0_1.length c0_1, .bool a0_2] 34 (0, 0)) (by (with_reducible repeat (first | refine blk_drewN ?_ _ | refine blk_drew ?_ | refine blk_alloc ?_ _)); refine blk_put (cs := #[.int .i64 a0_0, .slice A0_1 l0_1.length c0_1, .bool false]) ?_ 2 _ rfl; (with_reducible repeat (first | refine blk_drewN ?_ _ | refine blk_drew ?_ | refine blk_alloc ?_ _)); refine blk_put (cs := #[.int .i64 a0_0, .slice none 0 0, .bool false]) ?_ 1 _ rfl; (with_reducible repeat (first | refine blk_drewN ?_ _ | refine blk_drew ?_ | refine blk_alloc ?_ _)); refine blk_put (cs := #[.int .i64 0, .slice none 0 0, .bool false]) ?_ 0 _ rfl; (with_reducible repeat (first | refine blk_drewN ?_ _ | refine blk_drew ?_ | refine blk_alloc ?_ _)); exact BK213.out) hb); have n5_ := Aside0.mk (below_step (hB_ HB) hb); clear HO0_1; clear BK211; clear BK212; clear BK213; clear HB; have HO0_1 := n0_; have HO216 := n1_; have BK211 := n2_; have BK212 := n3_; have BK213 := n4_; have HB := n5_; clear n0_ n1_ n2_ n3_ n4_ n5_; clear hb ho20; have hcz21_0 : w19.cell? ⟨gb211, 0, none⟩ = some (.int .i64 a0_0) := (blk_cell BK211.out 0).trans rfl; have hcz21_1 : w19.cell? ⟨gb211, 1, none⟩ = some (.slice A0_1 l0_1.length c0_1) := (blk_cell BK211.out 1).trans rfl; have hcz21_2 : w19.cell? ⟨gb211, 2, none⟩ = some (.bool a0_2) := (blk_cell BK211.out 2).trans rfl; have hfz21_0 := blk_frozen BK211.out 0; have hfz21_1 := blk_frozen BK211.out 1; have hfz21_2 := blk_frozen BK211.out 2; have q22 : (1 : Int) ≤ ((l0_1.length : Int) : Int) := od_; obtain ⟨i022, hi022, _, hsz22, _⟩ := info_parts info3; have hroom22 : l0_1.length ≤ c0_1 := (Kd.V_reads' HO0_1.out).2.1; have hC22 : Kd.F (Kd.int .i64) _ _ A0_1 l0_1.length l0_1 := (Kd.V_at (base := w.heap.size) HO0_1.out).2.2; have hcut22 := cut_from (P := Try.prog) 32 3 .i64 Try.underlying32 hi022 1 hsz22 A0_1 l0_1.length c0_1 1 (by omega) q22; have hr22 := Kd.F_cut (m := (1 : Int).toNat) (c := c0_1) hC22 (by omega) hroom22; obtain ⟨A22, hA22⟩ : ∃ A1, A1 = (if c0_1 = (1 : Int).toNat then A0_1 else (A0_1 : Option Addr).map (·.add ((1 : Int).toNat * 1))) := ⟨_, rfl⟩; obtain ⟨c22, hc22⟩ : ∃ c1, c1 = c0_1 - (1 : Int).toNat := ⟨_, rfl⟩; have hy22 : y217.length = l0_1.length - (1 : Int).toNat := (by rw [Ny217.out, List.length_drop] <;> omega); rw [show (l0_1).drop (1 : Int).toNat = y217 from Ny217.out.symm] at hr22; replace hr22 : Kd.F (Kd.int .i64) _ _ A22 y217.length y217 := (by rw [hA22]; exact hr22); rw [← hy22, ← hA22, ← hc22] at hcut22; have HO221 := Aside0.mk (show Kd.V (Kd.int .i64) 3 _ w.heap.size _ (.slice A22 y217.length c22) y217 from Kd.V_mk (by rw [hy22, hc22]; exact Nat.sub_le_sub_right hroom22 _) hr22); have HC221 := Aside0.mk (show y217.length ≤ c22 from by rw [hy22, hc22]; exact Nat.sub_le_sub_right hroom22 _); clear hr22 hC22 hroom22 hi022 hsz22 hc22; have KY22 := Aside0.mk hy22; have KA22 := Aside0.mk hA22; clear hy22 hA22; replace q22 := eq_true q22) | ((with_reducible refine gate_builtin (b := .append) (xs := #[.tmp 12, .tmp 15]) rfl ?_); at_builtin; refine Kd.R_append_rows (Kd.int .i64) (w0 := w) w.heap.size rfl (.tmp 12) (.tmp 15) 32 3 (.int .i64 0) 8 rfl Try.underlying32 info3 rfl (by decide) (by omega) v215 y214 y217 _ _ _ (fun k_ => (w.heap.size ≤ k_)) (fun _ => False) rfl rfl ?aO ?aR (fun _ _ h => h) (fun _ h => h.elim) ?aF ?aB ?aS ?aL ?_; (case aR => repeat (first | exact (Kd.V_reads' HO221.out).2.2 | (with_reducible refine Kd.C_alloc ?_ _) | (with_reducible refine Kd.C_drewN ?_ _) | (with_reducible refine Kd.C_drew ?_))); (case aB => exact (hB_ HB)); (case aF => exact (fun k_ hk => (Nat.le_trans (below_size (hB_ HB)) hk))); (case aO => exact (by (with_reducible repeat (first | apply Kd.R_alloc | apply Kd.R_drewN | apply Kd.R_drew)); exact Kd.R_mono HO216.out (fun _ hk => hk.1))); (case aS => exact (below_size (hB_ HB))); (case aL => have := LMc9.out; omega); intro v223 w23 ho hb hg hat; rw [← Ny222.out] at ho; have n0_ := Aside0.mk (Kd.V_afterv (ok := (fun k_ => (P0_1_ k_ ∨ w.heap.size ≤ k_) ∧ k_ ≠ gb211 ∧ k_ ≠ gb212 ∧ k_ ≠ gb213)) (by (with_reducible repeat (first | apply Kd.V_alloc | apply Kd.V_drewN | apply Kd.V_drew)); exact Kd.V_mono HO0_1.out (fun _ hk => ⟨⟨hk.1.1.1.1, ⟨hk.1.1.1.2, ⟨hk.1.1.2, hk.1.2⟩⟩⟩, hk.2⟩)) hg hat); have n1_ := Aside0.mk (blk_grown (g := gb211) (o := .cells #[.int .i64 a0_0, .slice A0_1 l0_1.length c0_1, .bool a0_2] 34 (0, 0)) (bk_ BK211) hg (Kd.R_ne HO216.out BK211.out (by decide))); have n2_ := Aside0.mk (blk_grown (g := gb212) (o := .cells #[.int .i64 0, .slice none 0 0, .bool false] 34 (0, 0)) (bk_ BK212) hg (Kd.R_ne HO216.out BK212.out (by decide))); have n3_ := Aside0.mk (blk_grown (g := gb213) (o := .cells #[.int .i64 a0_0, .slice A0_1 l0_1.length c0_1, .bool a0_2] 34 (0, 0)) (bk_ BK213) hg (Kd.R_ne HO216.out BK213.out (by decide))); have n4_ := Aside0.mk (Kd.V_afterv (ok := (fun k_ => (P0_1_ k_ ∨ w.heap.size ≤ k_) ∧ k_ ≠ gb211 ∧ k_ ≠ gb212 ∧ k_ ≠ gb213)) (by (with_reducible repeat (first | apply Kd.V_alloc | apply Kd.V_drewN | apply Kd.V_drew)); exact Kd.V_mono HO221.out (fun _ hk => ⟨⟨hk.1.1.1.1, ⟨hk.1.1.1.2, ⟨hk.1.1.2, hk.1.2⟩⟩⟩, hk.2⟩)) hg hat); have n5_ := Aside0.mk (hb); have n6_ := Aside0.mk (ho); clear HO0_1; clear BK211; clear BK212; clear BK213; clear HO221; clear HB; clear HO216; have HO0_1 := n0_; have BK211 := n1_; have BK212 := n2_; have BK213 := n3_; have HO221 := n4_; have HB := n5_; have HO224 := n6_; clear n0_ n1_ n2_ n3_ n4_ n5_ n6_; clear ho hb hg hat; obtain ⟨Ao24, co24, eo24⟩ := Kd.R_slice HO224.out; subst eo24; have hcz25_0 : w23.cell? ⟨gb213, 0, none⟩ = some (.int .i64 a0_0) := (blk_cell BK213.out 0).trans rfl; have hcz25_1 : w23.cell? ⟨gb213, 1, none⟩ = some (.slice A0_1 l0_1.length c0_1) := (blk_cell BK213.out 1).trans rfl; have hcz25_2 : w23.cell? ⟨gb213, 2, none⟩ = some (.bool a0_2) := (blk_cell BK213.out 2).trans rfl; have hfz25_0 := blk_frozen BK213.out 0; have hfz25_1 := blk_frozen BK213.out 1; have hfz25_2 := blk_frozen BK213.out 2))
     have n0_ : Aside0 (Kd.V (Kd.int .i64) 3 (w23.setCell ⟨gb213, 1, none⟩ (.slice Ao24 y222.length co24)) w.heap.size (fun k_ => (P0_1_ k_ ∨ w.heap.size ≤ k_) ∧ some k_ ≠ (.slice Ao24 y222.length co24 : Value).ownBlock ∧ k_ ≠ gb211 ∧ k_ ≠ gb212 ∧ k_ ≠ gb213) (.slice A0_1 l0_1.length c0_1) l0_1) := ⟨by (with_reducible repeat (first | apply Kd.V_alloc | apply Kd.V_drewN | apply Kd.V_drew)); exact Kd.V_mono (Kd.V_far (p := ⟨gb213, 1, none⟩) (Kd.V_mono HO0_1.out (fun k_ hk => (⟨hk, hk.1.2.2.2⟩ : _ ∧ k_ ≠ gb213))) (fun _ hk => hk.2) (.slice Ao24 y222.length co24)) (fun _ hk => ⟨hk.1.1.1, ⟨hk.1.2, ⟨hk.1.1.2.1, ⟨hk.1.1.2.2.1, hk.1.1.2.2.2⟩⟩⟩⟩)⟩
     have n1_ : Aside0 (Kd.V (Kd.int .i64) 3 (w23.setCell ⟨gb213, 1, none⟩ (.slice Ao24 y222.length co24)) w.heap.size (fun k_ => (P0_1_ k_ ∨ w.heap.size ≤ k_) ∧ some k_ ≠ (.slice Ao24 y222.length co24 : Value).ownBlock ∧ k_ ≠ gb211 ∧ k_ ≠ gb212 ∧ k_ ≠ gb213) (.slice A22 y217.length c22) y217) := ⟨by (with_reducible repeat (first | apply Kd.V_alloc | apply Kd.V_drewN | apply Kd.V_drew)); exact Kd.V_mono (Kd.V_far (p := ⟨gb213, 1, none⟩) (Kd.V_mono HO221.out (fun k_ hk => (⟨hk, hk.1.2.2.2⟩ : _ ∧ k_ ≠ gb213))) (fun _ hk => hk.2) (.slice Ao24 y222.length co24)) (fun _ hk => ⟨hk.1.1.1, ⟨hk.1.2, ⟨hk.1.1.2.1, ⟨hk.1.1.2.2.1, hk.1.1.2.2.2⟩⟩⟩⟩)⟩
     have n2_ : Aside0 (Kd.R (Kd.int .i64) 3 (w23.setCell ⟨gb213, 1, none⟩ (.slice Ao24 y222.length co24)) w.heap.size (fun k_ => (w.heap.size ≤ k_)) (.slice Ao24 y222.length co24) y222) := ⟨by (with_reducible repeat (first | apply Kd.R_alloc | apply Kd.R_drewN | apply Kd.R_drew)); exact Kd.R_mono (Kd.R_far (p := ⟨gb213, 1, none⟩) (Kd.R_types HO224.out BK213.out (by decide)) (fun _ hk => hk.2) (.slice Ao24 y222.length co24)) (fun _ hk => hk.1)⟩
     have n3_ : Aside0 ((w23.setCell ⟨gb213, 1, none⟩ (.slice Ao24 y222.length co24)).heap[gb211]? = some (.cells #[.int .i64 a0_0, .slice A0_1 l0_1.length c0_1, .bool a0_2] 34 (0, 0))) := ⟨by (with_reducible repeat (first | refine blk_drewN ?_ _ | refine blk_drew ?_ | refine blk_alloc ?_ _)); refine blk_far ?_ NB211_213.out _; (with_reducible repeat (first | refine blk_drewN ?_ _ | refine blk_drew ?_ | refine blk_alloc ?_ _)); exact BK211.out⟩
     have n4_ : Aside0 ((w23.setCell ⟨gb213, 1, none⟩ (.slice Ao24 y222.length co24)).heap[gb212]? = some (.cells #[.int .i64 0, .slice none 0 0, .bool false] 34 (0, 0))) := ⟨by (with_reducible repeat (first | refine blk_drewN ?_ _ | refine blk_drew ?_ | refine blk_alloc ?_ _)); refine blk_far ?_ NB212_213.out _; (with_reducible repeat (first | refine blk_drewN ?_ _ | refine blk_drew ?_ | refine blk_alloc ?_ _)); exact BK212.out⟩
     have n5_ : Aside0 ((w23.setCell ⟨gb213, 1, none⟩ (.slice Ao24 y222.length co24)).heap[gb213]? = some (.cells #[.int .i64 a0_0, .slice Ao24 y222.length co24, .bool a0_2] 34 (0, 0))) := ⟨by (with_reducible repeat (first | refine blk_drewN ?_ _ | refine blk_drew ?_ | refine blk_alloc ?_ _)); refine blk_put (cs := #[.int .i64 a0_0, .slice A0_1 l0_1.length c0_1, .bool a0_2]) ?_ 1 _ rfl; (with_reducible repeat (first | refine blk_drewN ?_ _ | refine blk_drew ?_ | refine blk_alloc ?_ _)); exact BK213.out⟩
     have n6_ : Aside0 (Below w.heap.size w (w23.setCell ⟨gb213, 1, none⟩ (.slice Ao24 y222.length co24))) := ⟨by repeat (first | (with_reducible first | exact HB.out | apply below_alloc | apply pw_below_drewN | apply below_drew1 | refine below_set ?_ GE211.out | refine below_set ?_ GE212.out | refine below_set ?_ GE213.out) | exact HB.out)⟩
     (try clear HO0_1)
     (try clear HO221)
     (try clear HO224)
     (try clear BK211)
     (try clear BK212)
     (try clear BK213)
     (try clear HB)
     generalize (w23.setCell ⟨gb213, 1, none⟩ (.slice Ao24 y222.length co24)) = w26 at n0_ n1_ n2_ n3_ n4_ n5_ n6_ ⊢
     have HO0_1 := n0_
     have HO221 := n1_
     have HO224 := n2_
     have BK211 := n3_
     have BK212 := n4_
     have BK213 := n5_
     have HB := n6_
     clear n0_ n1_ n2_ n3_ n4_ n5_ n6_
     have n0_ := Aside0.mk (Kd.V_drew HO0_1.out)
     have n1_ := Aside0.mk (Kd.V_drew HO221.out)
     have n2_ := Aside0.mk (Kd.R_drew HO224.out)
     have n3_ := Aside0.mk (blk_drew BK211.out)
     have n4_ := Aside0.mk (blk_drew BK212.out)
     have n5_ := Aside0.mk (blk_drew BK213.out)
     have n6_ := Aside0.mk (below_drew1 HB.out)
     clear HO0_1
     clear HO221
     clear HO224
     clear BK211
     clear BK212
     clear BK213
     clear HB
     have HO0_1 := n0_
     have HO221 := n1_
     have HO224 := n2_
     have BK211 := n3_
     have BK212 := n4_
     have BK213 := n5_
     have HB := n6_
     clear n0_ n1_ n2_ n3_ n4_ n5_ n6_
     have p225 : 0 ≤ (0 : Int) := (by omega)
     have q225 : 0 < (l0_1.length : Int) := od_
     obtain ⟨ad225, e225, hx225_0⟩ := Kd.at_int (Kd.V_reads' HO0_1.out).2.2 0 p225 q225
     cases e225
     have qi225 : (0 < l0_1.length) = True := eq_true (by omega)
     (try rw [show ((0 : Int)).toNat = 0 from rfl] at hx225_0)
     (try rw [Addr.add_zero'] at hx225_0)
     replace p225 := eq_true p225
     replace q225 := eq_true q225
     refine start_ (n := 8) (S := fun w' => w'.cell? ⟨gb213, 0, none⟩ = some (.int .i64 a0_0) ∧ w'.cell? ⟨gb213, 1, none⟩ = some (.slice Ao24 y222.length co24) ∧ w'.cell? ⟨gb213, 2, none⟩ = some (.bool a0_2) ∧ w'.cell? ⟨gb211, 0, none⟩ = some (.int .i64 a0_0) ∧ w'.cell? ⟨gb211, 1, none⟩ = some (.slice (some ad225) l0_1.length c0_1) ∧ w'.cell? ⟨gb211, 2, none⟩ = some (.bool a0_2) ∧ w'.cell? ad225 = some (.int .i64 (rd l0_1 0))) (ds := []) #[false, false, false, false, false, false, false, false] (by kernel_rfl) rfl rfl ⟨(blk_cell BK213.out 0).trans rfl, (blk_cell BK213.out 1).trans rfl, (blk_cell BK213.out 2).trans rfl, (blk_cell BK211.out 0).trans rfl, (blk_cell BK211.out 1).trans rfl, (blk_cell BK211.out 2).trans rfl, hx225_0⟩ (fun hHeld => ?_); refine with_tabW lodgerref03_Take.tab5 lodgerref03_Take.bits5 (fun HT_ HW_ => ?_)
     generalize w26.drew = w27 at HO0_1 HO221 HO224 BK211 BK212 BK213 HB hx225_0 hHeld ⊢
     refine pu_ (i := 1) (N := some 19) (tf 8 2) HT_ ?_
     refine tk_ (i := 0) (N := some 18) (tf 8 3) rfl rfl HT_ HW_ hHeld (by rintro w' ⟨s0, s1, s2, s3, s4, s5, s6⟩; go_simp; with_reducible rfl) ?_
     refine tk_ (i := 2) (N := some 20) (tf 8 7) rfl rfl HT_ HW_ hHeld (by rintro w' ⟨s0, s1, s2, s3, s4, s5, s6⟩; go_simp; with_reducible rfl) ?_
     refine pu_ (i := 3) (N := some 21) (tf 8 15) HT_ ?_
     refine tk_ (i := 4) (N := some 22) (tf 8 31) rfl rfl HT_ HW_ hHeld (by rintro w' ⟨s0, s1, s2, s3, s4, s5, s6⟩; go_simp; with_reducible rfl) ?_
     refine one_ (i := 5) (N := none) #[true, true, true, true, true, true, false, false] rfl rfl (one_of HT_.out (by kernel_rfl)) (by decide) (fun K hK => ?_)
     have hs28 : w27.cell? ⟨gb212, 0, none⟩ = some (.int .i64 0) := (blk_cell BK212.out 0).trans rfl
     have hfs28 := blk_frozen BK212.out 0
     have hns28_0 := NB211_212.out
     have hns28_2 := NB213_212.out
     have hms28_0 := NB212_211.out
     have hms28_2 := NB212_213.out
     have hs29 : w27.cell? ⟨gb212, 1, none⟩ = some (.slice none 0 0) := (blk_cell BK212.out 1).trans rfl
     have hfs29 := blk_frozen BK212.out 1
     have hns29_0 := NB211_212.out
     have hns29_2 := NB213_212.out
     have hms29_0 := NB212_211.out
     have hms29_2 := NB212_213.out
     have hs30 : w27.cell? ⟨gb212, 2, none⟩ = some (.bool false) := (blk_cell BK212.out 2).trans rfl
     have hfs30 := blk_frozen BK212.out 2
     have hns30_0 := NB211_212.out
     have hns30_2 := NB213_212.out
     have hms30_0 := NB212_211.out
     have hms30_2 := NB212_213.out
     refine skip_ (w1 := ?_) (by rfl) rfl ?_ ?_
     rotate_left
     ·go_simp
      rfl
     refine hK.out _ _ ⟨((cell_far (p := ⟨gb212, _, none⟩) NB213_212.out _).trans (((cell_far (p := ⟨gb212, _, none⟩) NB213_212.out _).trans (((cell_far (p := ⟨gb212, _, none⟩) NB213_212.out _).trans (hHeld.1)))))), ((cell_far (p := ⟨gb212, _, none⟩) NB213_212.out _).trans (((cell_far (p := ⟨gb212, _, none⟩) NB213_212.out _).trans (((cell_far (p := ⟨gb212, _, none⟩) NB213_212.out _).trans (hHeld.2.1)))))), ((cell_far (p := ⟨gb212, _, none⟩) NB213_212.out _).trans (((cell_far (p := ⟨gb212, _, none⟩) NB213_212.out _).trans (((cell_far (p := ⟨gb212, _, none⟩) NB213_212.out _).trans (hHeld.2.2.1)))))), ((cell_far (p := ⟨gb212, _, none⟩) NB211_212.out _).trans (((cell_far (p := ⟨gb212, _, none⟩) NB211_212.out _).trans (((cell_far (p := ⟨gb212, _, none⟩) NB211_212.out _).trans (hHeld.2.2.2.1)))))), ((cell_far (p := ⟨gb212, _, none⟩) NB211_212.out _).trans (((cell_far (p := ⟨gb212, _, none⟩) NB211_212.out _).trans (((cell_far (p := ⟨gb212, _, none⟩) NB211_212.out _).trans (hHeld.2.2.2.2.1)))))), ((cell_far (p := ⟨gb212, _, none⟩) NB211_212.out _).trans (((cell_far (p := ⟨gb212, _, none⟩) NB211_212.out _).trans (((cell_far (p := ⟨gb212, _, none⟩) NB211_212.out _).trans (hHeld.2.2.2.2.2.1)))))), ((cell_far (p := ⟨gb212, _, none⟩) (by first | exact Kd.own_blk (Kd.V_away HO0_1.out (fun _ hk => hk.2.2.2.1)) | (rw [add_block]; exact Kd.own_blk (Kd.V_away HO0_1.out (fun _ hk => hk.2.2.2.1))) | (show (Addr.add _ _).block ≠ _; rw [add_block]; exact Kd.own_blk (Kd.V_away HO0_1.out (fun _ hk => hk.2.2.2.1))) | (dsimp only; exact Kd.own_blk (Kd.V_away HO0_1.out (fun _ hk => hk.2.2.2.1)))) _).trans (((cell_far (p := ⟨gb212, _, none⟩) (by first | exact Kd.own_blk (Kd.V_away HO0_1.out (fun _ hk => hk.2.2.2.1)) | (rw [add_block]; exact Kd.own_blk (Kd.V_away HO0_1.out (fun _ hk => hk.2.2.2.1))) | (show (Addr.add _ _).block ≠ _; rw [add_block]; exact Kd.own_blk (Kd.V_away HO0_1.out (fun _ hk => hk.2.2.2.1))) | (dsimp only; exact Kd.own_blk (Kd.V_away HO0_1.out (fun _ hk => hk.2.2.2.1)))) _).trans (((cell_far (p := ⟨gb212, _, none⟩) (by first | exact Kd.own_blk (Kd.V_away HO0_1.out (fun _ hk => hk.2.2.2.1)) | (rw [add_block]; exact Kd.own_blk (Kd.V_away HO0_1.out (fun _ hk => hk.2.2.2.1))) | (show (Addr.add _ _).block ≠ _; rw [add_block]; exact Kd.own_blk (Kd.V_away HO0_1.out (fun _ hk => hk.2.2.2.1))) | (dsimp only; exact Kd.own_blk (Kd.V_away HO0_1.out (fun _ hk => hk.2.2.2.1)))) _).trans (hHeld.2.2.2.2.2.2))))))⟩ (fun hHeld => ?_)
     clear hK K
     refine pu_ (i := 6) (N := some 3) (tf 8 127) HT_ ?_
     refine pu_ (i := 7) (N := some 4) (tf 8 255) HT_ ?_
     refine done_ (done_of HT_.out (by kernel_rfl)) ?_
     try go_wp2
     refine bodyPost_ret (results_ctt rfl _ _ gb212 34 #[.int .i64 a0_0, .slice Ao24 y222.length co24, .bool a0_2] (0, 0) _ rfl (by (with_reducible repeat (first | refine blk_drewN ?_ _ | refine blk_drew ?_ | refine blk_alloc ?_ _)); refine blk_put (cs := #[.int .i64 a0_0, .slice Ao24 y222.length co24, .bool false]) ?_ 2 _ rfl; (with_reducible repeat (first | refine blk_drewN ?_ _ | refine blk_drew ?_ | refine blk_alloc ?_ _)); refine blk_put (cs := #[.int .i64 a0_0, .slice none 0 0, .bool false]) ?_ 1 _ rfl; (with_reducible repeat (first | refine blk_drewN ?_ _ | refine blk_drew ?_ | refine blk_alloc ?_ _)); refine blk_put (cs := #[.int .i64 0, .slice none 0 0, .bool false]) ?_ 0 _ rfl; (with_reducible repeat (first | refine blk_drewN ?_ _ | refine blk_drew ?_ | refine blk_alloc ?_ _)); exact BK212.out) Try.underlying34 rfl (by kernel_rfl)) rfl ?_
     exact ⟨_, by first | rfl | (simp [errW_none, errW_some] <;> rfl) | (simp [*, errW_none, errW_some] <;> rfl), Kd.V_mono (Kd.R_V (by (with_reducible repeat (first | apply Kd.R_alloc | apply Kd.R_drewN | apply Kd.R_drew)); exact Kd.R_mono (Kd.R_far (p := ⟨gb212, 2, none⟩) (Kd.R_far (p := ⟨gb212, 1, none⟩) (Kd.R_far (p := ⟨gb212, 0, none⟩) (Kd.R_types HO224.out BK212.out (by decide)) (fun _ hk => hk.2) (.int .i64 a0_0)) (fun _ hk => hk.2) (.slice Ao24 y222.length co24)) (fun _ hk => hk.2) (.bool a0_2)) (fun _ hk => hk.1))) (fun k_ hk => by first | exact ⟨(.inr (hk.1)), hk.2⟩ | exact (.inr (hk))), by repeat (first | (with_reducible first | exact HB.out | apply below_alloc | apply pw_below_drewN | apply below_drew1 | refine below_set ?_ GE211.out | refine below_set ?_ GE212.out | refine below_set ?_ GE213.out) | exact HB.out)⟩
    ·rw [if_neg c10] at H
     exact absurd H (by simp)
   ·rw [if_neg c9] at H
    exact absurd H (by simp)
  ·rw [if_neg c8] at H
   exact absurd H (by simp)

end Go.Proofs.Ytmchledhamhlgaa.PQueueDoes
