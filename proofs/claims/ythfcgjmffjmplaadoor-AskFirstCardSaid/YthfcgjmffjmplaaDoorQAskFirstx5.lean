/- The walk of AskFirst, part of it: what the Go functions answer; no condition. -/
import Derived.Test.YthfcgjmffjmplaaDoorQAskFirstx0
import Derived.Test.YthfcgjmffjmplaaDoorQAskFirstx3
namespace Go.Proofs.YthfcgjmffjmplaaDoor.PAskFirst
open Go.RowKit Go.Proofs.YthfcgjmffjmplaaDoorW.PrintWords Go.Proofs.YthfcgjmffjmplaaDoorW.PrintLast Go.Proofs.YthfcgjmffjmplaaDoorW.PrintMore
attribute [local go_sem] max2_int min2_int max_two min_two max_three min_three max_four min_four   -- for this text's walks alone
set_option linter.unusedVariables false
set_option linter.unusedSimpArgs false

/-! ### lodgerref10_Few: function 10 -/
def lodgerref10_Few.f (a0_0 : Int) (a0_1 : Int) (l0_2 : List Int) : Option (Bool) := some (decide ((l0_2.length : Int) ≤ 100))
set_option maxHeartbeats 8000000 in
set_option maxRecDepth 100000 in
theorem lodgerref10_Few.calls (a0_0 : Int) (a0_1 : Int) (A0_2 : Option Addr) (c0_2 : Nat) (l0_2 : List Int) (r : Bool) (w : World) (hr0_2 : Kd.C (Kd.int .u32) w A0_2 l0_2.length l0_2) (hc0_2 : l0_2.length ≤ c0_2) (h : lodgerref10_Few.f a0_0 a0_1 l0_2 = some r) :
  Calls Tryd.prog 10 #[.agg #[.int .i64 a0_0, .int .u32 a0_1, .slice A0_2 l0_2.length c0_2]] w fun e w' => e = .returned (.bool r) ∧ Below w.heap.size w w' := by
 have hu30 := Tryd.underlying30
 have HR0_2 := Aside0.mk hr0_2
 have HC0_2 := Aside0.mk hc0_2
 clear hr0_2 hc0_2
 have HB := Aside0.mk (Below.refl w.heap.size w)
 have H : (some (decide ((l0_2.length : Int) ≤ 100))) = some r := h
 clear h
 obtain rfl := Option.some.inj H
 go_enter Tryd.func10, Tryd.ntmps10
 go_wp2_with (first | ((with_reducible refine gate_dst (N := 1) rfl ?_); refine box_event ?hg (N := 1) ?hd (cs := #[.int .i64 a0_0, .int .u32 a0_1, .slice A0_2 l0_2.length c0_2]) (t := 30) ?hr ?_; (case hd => rfl); (case hg => rfl); (case hr => first | (go_simp; done) | (go_simp; rfl)); intro gb167 hg w2 hbox hb; have n0_ := Aside0.mk (below_step (by repeat (first | (with_reducible first | exact HB.out | apply below_alloc | apply pw_below_drewN | apply below_drew1) | exact HB.out)) hb); have n1_ := Aside0.mk (hbox); have n2_ := Aside0.mk ((by rw [hg]; exact (below_size (by repeat (first | (with_reducible first | exact HB.out | apply below_alloc | apply pw_below_drewN | apply below_drew1) | exact HB.out))) : w.heap.size ≤ gb167)); have n3_ := Aside0.mk ((by rw [hg]; exact (below_size (by repeat (first | (with_reducible first | exact HB.out | apply below_alloc | apply pw_below_drewN | apply below_drew1) | exact HB.out))) : w.heap.size ≤ gb167)); clear HB; have HB := n0_; have BK167 := n1_; have GW167 := n2_; have GE167 := n3_; clear n0_ n1_ n2_ n3_; clear hb hbox hg; have hcz3_0 : w2.cell? ⟨gb167, 0, none⟩ = some (.int .i64 a0_0) := (blk_cell BK167.out 0).trans rfl; have hcz3_1 : w2.cell? ⟨gb167, 1, none⟩ = some (.int .u32 a0_1) := (blk_cell BK167.out 1).trans rfl; have hcz3_2 : w2.cell? ⟨gb167, 2, none⟩ = some (.slice A0_2 l0_2.length c0_2) := (blk_cell BK167.out 2).trans rfl; have hfz3_0 := blk_frozen BK167.out 0; have hfz3_1 := blk_frozen BK167.out 1; have hfz3_2 := blk_frozen BK167.out 2))
 go_ret
 exact ⟨by first | rfl | (simp [errW_none, errW_some] <;> rfl) | (simp [*, errW_none, errW_some] <;> rfl), by repeat (first | (with_reducible first | exact HB.out | apply below_alloc | apply pw_below_drewN | apply below_drew1 | refine below_set ?_ GE167.out) | exact HB.out)⟩

/-! ### lodgerref05_Offset: function 25 -/
def lodgerref05_Offset.f (k : Nat) (a0_0 : Int) (a0_1 : Int) (a1 : Int) : Option (Int × Int) := if a1 < a0_0 then (some (0, 3)) else ((lodgerref05_Many.f k a0_0 a0_1).bind fun t169 => (if ((a1 - a0_0) % 4294967296) ≥ t169 then (some (0, 3)) else (some ((a1 - a0_0) % 4294967296, 0))))
theorem lodgerref05_Offset.mono : ∀ a0 a1 a2 k, LeO (lodgerref05_Offset.f k a0 a1 a2) (lodgerref05_Offset.f (k + 1) a0 a1 a2) := by
 intro a0 a1 a2 k
 unfold lodgerref05_Offset.f
 repeat' first
   | (with_reducible exact lodgerref05_Many.mono _ _ _)
   | (with_reducible exact LeO.refl _)
   | (with_reducible exact LeO.none _)
   | (with_reducible refine LeO.ite ?_ ?_)
   | (with_reducible refine LeO.bind ?_ (fun _ => ?_))
   | exact lodgerref05_Many.mono _ _ _
   | exact LeO.none _
   | refine LeO.ite ?_ ?_
   | refine LeO.bind ?_ (fun _ => ?_)
def lodgerref05_Offset.T1 : Bool × List (List Nat × List Nat) := (true, [([], []), ([], []), ([1], [1]), ([0, 2], [0, 2]), ([3], [3]), ([4], [4]), ([4], [4]), ([6, 4], [4, 6]), ([5, 7, 4], [4, 5, 7]), ([8, 4], [4, 8]), ([4], [4]), ([10, 4, 4], [4, 10]), ([9, 11, 4], [4, 9, 11]), ([4, 12], [4, 12])])
def lodgerref05_Offset.B1 : List Nat := [0, 0, 2, 7, 15, 31, 31, 95, 255, 511, 31, 1055, 4095, 8191]
theorem lodgerref05_Offset.tab1 : rtab .any (opsOf Tryd.f25 1) = lodgerref05_Offset.T1 := by kernel_rfl
theorem lodgerref05_Offset.bits1 : waitsOk lodgerref05_Offset.T1.2 lodgerref05_Offset.B1 = true := by kernel_rfl
set_option maxHeartbeats 8000000 in
set_option maxRecDepth 100000 in
theorem lodgerref05_Offset.calls (k : Nat) (a0_0 : Int) (a0_1 : Int) (a1 : Int) (r1 : Int) (r2 : Int) (w : World) (h : lodgerref05_Offset.f k a0_0 a0_1 a1 = some (r1, r2)) :
  Calls Tryd.prog 25 #[.agg #[.int .u32 a0_0, .int .i64 a0_1], .int .u32 a1] w fun e w' => e = .returned (.tuple #[.int .i64 r1, .int .i64 r2]) ∧ Below w.heap.size w w' := by
 have hu24 := Tryd.underlying24
 have HB := Aside0.mk (Below.refl w.heap.size w)
 have E1_ : wrap64 (IntKind.u32.wrap (a1 - a0_0)) = (a1 - a0_0) % 4294967296 := by rw [IntKind.wrap_u32]; unfold wrap64; omega
 have H : (if a1 < a0_0 then (some (0, 3)) else ((lodgerref05_Many.f k a0_0 a0_1).bind fun t169 => (if ((a1 - a0_0) % 4294967296) ≥ t169 then (some (0, 3)) else (some ((a1 - a0_0) % 4294967296, 0))))) = some (r1, r2) := h
 clear h
 by_cases c3 : a1 < a0_0
 ·rw [if_pos c3] at H
  have c3b0 : decide (a1 < a0_0) = true := decide_eq_true c3
  clear c3
  simp only [Option.some.injEq, Prod.mk.injEq] at H
  obtain ⟨rfl, rfl⟩ := H
  go_enter Tryd.func25, Tryd.ntmps25
  try go_wp2_with (first | ((with_reducible refine gate_dst (N := 2) rfl ?_); refine box_event ?hg (N := 2) ?hd (cs := #[.int .u32 a0_0, .int .i64 a0_1]) (t := 24) ?hr ?_; (case hd => rfl); (case hg => rfl); (case hr => first | (go_simp; done) | (go_simp; rfl)); intro gb168 hg w4 hbox hb; have n0_ := Aside0.mk (below_step (by repeat (first | (with_reducible first | exact HB.out | apply below_alloc | apply pw_below_drewN | apply below_drew1) | exact HB.out)) hb); have n1_ := Aside0.mk (hbox); have n2_ := Aside0.mk ((by rw [hg]; exact (below_size (by repeat (first | (with_reducible first | exact HB.out | apply below_alloc | apply pw_below_drewN | apply below_drew1) | exact HB.out))) : w.heap.size ≤ gb168)); have n3_ := Aside0.mk ((by rw [hg]; exact (below_size (by repeat (first | (with_reducible first | exact HB.out | apply below_alloc | apply pw_below_drewN | apply below_drew1) | exact HB.out))) : w.heap.size ≤ gb168)); clear HB; have HB := n0_; have BK168 := n1_; have GW168 := n2_; have GE168 := n3_; clear n0_ n1_ n2_ n3_; clear hb hbox hg))
  have n0_ := Aside0.mk (blk_drew BK168.out)
  have n1_ := Aside0.mk (below_drew1 HB.out)
  clear BK168
  clear HB
  have BK168 := n0_
  have HB := n1_
  clear n0_ n1_
  refine start_ (n := 14) (S := fun w' => w'.cell? ⟨gb168, 0, none⟩ = some (.int .u32 a0_0) ∧ w'.cell? ⟨gb168, 1, none⟩ = some (.int .i64 a0_1)) (ds := []) #[false, false, false, false, false, false, false, false, false, false, false, false, false, false] (by kernel_rfl) rfl rfl ⟨(blk_cell BK168.out 0).trans rfl, (blk_cell BK168.out 1).trans rfl⟩ (fun hHeld => ?_); refine with_tabW lodgerref05_Offset.tab1 lodgerref05_Offset.bits1 (fun HT_ HW_ => ?_)
  generalize w4.drew = w5 at BK168 HB hHeld ⊢
  refine pu_ (i := 0) (N := some 6) (tf 14 1) HT_ ?_
  refine pu_ (i := 1) (N := some 7) (tf 14 3) HT_ ?_
  refine tk_ (i := 2) (N := some 8) (tf 14 7) rfl rfl HT_ HW_ hHeld (by rintro w' ⟨s0, s1⟩; go_simp; with_reducible rfl) ?_
  refine pu_ (i := 3) (N := some 9) (tf 14 15) HT_ ?_
  refine pu_ (i := 4) (N := some 10) (tf 14 31) HT_ ?_
  refine pure_ (i := 5) (N := some 11) (v := undef) (a' := ?_) #[true, true, true, true, true, true, false, false, false, false, false, false, false, false] rfl rfl (any_of HT_.out (by kernel_rfl)) (fun _ _ _ h => h) (Or.inr ⟨by rfl, rfl⟩) ?_ ?_
  rotate_left
  ·simp only [Act.put, List.setIfInBounds_toArray, List.set_cons_zero, List.set_cons_succ, i64_w, i32_w]
   rfl
  refine pure_ (i := 6) (N := some 12) (v := undef) (a' := ?_) #[true, true, true, true, true, true, true, false, false, false, false, false, false, false] rfl rfl (any_of HT_.out (by kernel_rfl)) (fun _ _ _ h => h) (Or.inr ⟨by rfl, rfl⟩) ?_ ?_
  rotate_left
  ·simp only [Act.put, List.setIfInBounds_toArray, List.set_cons_zero, List.set_cons_succ, i64_w, i32_w]
   rfl
  refine pure_ (i := 7) (N := some 13) (v := undef) (a' := ?_) #[true, true, true, true, true, true, true, true, false, false, false, false, false, false] rfl rfl (any_of HT_.out (by kernel_rfl)) (fun _ _ _ h => h) (Or.inr ⟨by rfl, rfl⟩) ?_ ?_
  rotate_left
  ·simp only [Act.put, List.setIfInBounds_toArray, List.set_cons_zero, List.set_cons_succ, i64_w, i32_w]
   rfl
  refine pure_ (i := 8) (N := some 14) (v := undef) (a' := ?_) #[true, true, true, true, true, true, true, true, true, false, false, false, false, false] rfl rfl (any_of HT_.out (by kernel_rfl)) (fun _ _ _ h => h) (Or.inr ⟨by rfl, rfl⟩) ?_ ?_
  rotate_left
  ·simp only [Act.put, List.setIfInBounds_toArray, List.set_cons_zero, List.set_cons_succ, i64_w, i32_w]
   rfl
  refine pure_ (i := 9) (N := some 15) (v := undef) (a' := ?_) #[true, true, true, true, true, true, true, true, true, true, false, false, false, false] rfl rfl (any_of HT_.out (by kernel_rfl)) (fun _ _ _ h => h) (Or.inr ⟨by rfl, rfl⟩) ?_ ?_
  rotate_left
  ·simp only [Act.put, List.setIfInBounds_toArray, List.set_cons_zero, List.set_cons_succ, i64_w, i32_w]
   rfl
  refine pure_ (i := 10) (N := some 16) (v := undef) (a' := ?_) #[true, true, true, true, true, true, true, true, true, true, true, false, false, false] rfl rfl (any_of HT_.out (by kernel_rfl)) (fun _ _ _ h => h) (Or.inr ⟨by rfl, rfl⟩) ?_ ?_
  rotate_left
  ·simp only [Act.put, List.setIfInBounds_toArray, List.set_cons_zero, List.set_cons_succ, i64_w, i32_w]
   rfl
  refine pure_ (i := 11) (N := some 17) (v := undef) (a' := ?_) #[true, true, true, true, true, true, true, true, true, true, true, true, false, false] rfl rfl (any_of HT_.out (by kernel_rfl)) (fun _ _ _ h => h) (Or.inr ⟨by rfl, rfl⟩) ?_ ?_
  rotate_left
  ·simp only [Act.put, List.setIfInBounds_toArray, List.set_cons_zero, List.set_cons_succ, i64_w, i32_w]
   rfl
  refine pure_ (i := 12) (N := some 18) (v := undef) (a' := ?_) #[true, true, true, true, true, true, true, true, true, true, true, true, true, false] rfl rfl (any_of HT_.out (by kernel_rfl)) (fun _ _ _ h => h) (Or.inr ⟨by rfl, rfl⟩) ?_ ?_
  rotate_left
  ·simp only [Act.put, List.setIfInBounds_toArray, List.set_cons_zero, List.set_cons_succ, i64_w, i32_w]
   rfl
  refine pu_ (i := 13) (N := some 19) (tf 14 16383) HT_ ?_
  refine done_ (done_of HT_.out (by kernel_rfl)) ?_
  try go_wp2
  go_ret2
  exact ⟨by first | rfl | (simp [errW_none, errW_some] <;> rfl) | (simp [*, errW_none, errW_some] <;> rfl), by repeat (first | (with_reducible first | exact HB.out | apply below_alloc | apply pw_below_drewN | apply below_drew1 | refine below_set ?_ GE168.out) | exact HB.out)⟩
 ·rw [if_neg c3] at H
  have c3b0 : decide (a1 < a0_0) = false := decide_eq_false c3
  clear c3
  replace H := Option.bind_eq_some_iff.mp H
  obtain ⟨t169, A60, H⟩ := H
  replace H : (if ((a1 - a0_0) % 4294967296) ≥ t169 then (some (0, 3)) else (some ((a1 - a0_0) % 4294967296, 0))) = some (r1, r2) := H
  have A6 := Aside0.mk A60
  clear A60
  by_cases c7 : ((a1 - a0_0) % 4294967296) ≥ t169
  ·rw [if_pos c7] at H
   have c7b0 : decide (t169 ≤ ((a1 - a0_0) % 4294967296)) = true := decide_eq_true c7
   clear c7
   simp only [Option.some.injEq, Prod.mk.injEq] at H
   obtain ⟨rfl, rfl⟩ := H
   go_enter Tryd.func25, Tryd.ntmps25
   try go_wp2_with (first | ((with_reducible refine gate_dst (N := 2) rfl ?_); refine box_event ?hg (N := 2) ?hd (cs := #[.int .u32 a0_0, .int .i64 a0_1]) (t := 24) ?hr ?_; (case hd => rfl); (case hg => rfl); (case hr => first | (go_simp; done) | (go_simp; rfl)); intro gb168 hg w8 hbox hb; have n0_ := Aside0.mk (below_step (by repeat (first | (with_reducible first | exact HB.out | apply below_alloc | apply pw_below_drewN | apply below_drew1) | exact HB.out)) hb); have n1_ := Aside0.mk (hbox); have n2_ := Aside0.mk ((by rw [hg]; exact (below_size (by repeat (first | (with_reducible first | exact HB.out | apply below_alloc | apply pw_below_drewN | apply below_drew1) | exact HB.out))) : w.heap.size ≤ gb168)); have n3_ := Aside0.mk ((by rw [hg]; exact (below_size (by repeat (first | (with_reducible first | exact HB.out | apply below_alloc | apply pw_below_drewN | apply below_drew1) | exact HB.out))) : w.heap.size ≤ gb168)); clear HB; have HB := n0_; have BK168 := n1_; have GW168 := n2_; have GE168 := n3_; clear n0_ n1_ n2_ n3_; clear hb hbox hg))
   have n0_ := Aside0.mk (blk_drew BK168.out)
   have n1_ := Aside0.mk (below_drew1 HB.out)
   clear BK168
   clear HB
   have BK168 := n0_
   have HB := n1_
   clear n0_ n1_
   refine start_ (n := 14) (S := fun w' => w'.cell? ⟨gb168, 0, none⟩ = some (.int .u32 a0_0) ∧ w'.cell? ⟨gb168, 1, none⟩ = some (.int .i64 a0_1)) (ds := []) #[false, false, false, false, false, false, false, false, false, false, false, false, false, false] (by kernel_rfl) rfl rfl ⟨(blk_cell BK168.out 0).trans rfl, (blk_cell BK168.out 1).trans rfl⟩ (fun hHeld => ?_); refine with_tabW lodgerref05_Offset.tab1 lodgerref05_Offset.bits1 (fun HT_ HW_ => ?_)
   generalize w8.drew = w9 at BK168 HB hHeld ⊢
   refine pu_ (i := 0) (N := some 6) (tf 14 1) HT_ ?_
   refine pu_ (i := 1) (N := some 7) (tf 14 3) HT_ ?_
   refine tk_ (i := 2) (N := some 8) (tf 14 7) rfl rfl HT_ HW_ hHeld (by rintro w' ⟨s0, s1⟩; go_simp; with_reducible rfl) ?_
   refine pu_ (i := 3) (N := some 9) (tf 14 15) HT_ ?_
   refine pu_ (i := 4) (N := some 10) (tf 14 31) HT_ ?_
   refine pu_ (i := 5) (N := some 11) (tf 14 63) HT_ ?_
   refine pu_ (i := 6) (N := some 12) (tf 14 127) HT_ ?_
   refine tk_ (i := 7) (N := some 13) (tf 14 255) rfl rfl HT_ HW_ hHeld (by rintro w' ⟨s0, s1⟩; go_simp; with_reducible rfl) ?_
   refine pu_ (i := 8) (N := some 14) (tf 14 511) HT_ ?_
   refine pu_ (i := 9) (N := some 15) (tf 14 1023) HT_ ?_
   refine tk_ (i := 10) (N := some 16) (tf 14 2047) rfl rfl HT_ HW_ hHeld (by rintro w' ⟨s0, s1⟩; go_simp; with_reducible rfl) ?_
   refine one_ (i := 11) (N := some 17) #[true, true, true, true, true, true, true, true, true, true, true, true, false, false] rfl rfl (one_of HT_.out (by kernel_rfl)) (by decide) (fun K hK => ?_)
   refine goes_ Tryd.func20 (by kernel_rfl) rfl #[.agg #[.int .u32 a0_0, .int .i64 a0_1]] (by rfl) rfl rfl (by (try simp only [List.map_toArray, List.map_cons, List.map_nil]); first | done | rfl | (simp only [List.length_drop, List.length_take]; rfl)) ?_
   with_reducible refine (lodgerref05_Many.calls k a0_0 a0_1 t169 _ A6.out).mono ?_
   rintro e w10 ⟨rfl, hb⟩
   refine ⟨_, rfl, ?_⟩
   have n0_ := Aside0.mk (blk_below (g := gb168) (o := .cells #[.int .u32 a0_0, .int .i64 a0_1] 24 (0, 0)) (by (with_reducible repeat (first | refine blk_drewN ?_ _ | refine blk_drew ?_ | refine blk_alloc ?_ _)); exact BK168.out) hb)
   have n1_ := Aside0.mk (below_step (by repeat (first | (with_reducible first | exact HB.out | apply below_alloc | apply pw_below_drewN | apply below_drew1 | refine below_set ?_ GE168.out) | exact HB.out)) hb)
   clear BK168
   clear HB
   have BK168 := n0_
   have HB := n1_
   clear n0_ n1_
   (try clear hb)
   (try clear hb2)
   (try clear hk)
   (try clear hi)
   refine hK.out _ _ ⟨(blk_cell BK168.out 0).trans rfl, (blk_cell BK168.out 1).trans rfl⟩ (fun hHeld => ?_)
   clear hK K
   refine norm_ (a' := ?_) ?_ ?_
   rotate_left
   ·show Act.put _ (some 17) _ = _
    simp only [Act.put, List.setIfInBounds_toArray, List.set_cons_zero, List.set_cons_succ, i64_w, i32_w]
    rfl
   refine pu_ (i := 12) (N := some 18) (tf 14 8191) HT_ ?_
   refine pu_ (i := 13) (N := some 19) (tf 14 16383) HT_ ?_
   refine done_ (done_of HT_.out (by kernel_rfl)) ?_
   try go_wp2
   go_ret2
   exact ⟨by first | rfl | (simp [errW_none, errW_some] <;> rfl) | (simp [*, errW_none, errW_some] <;> rfl), by repeat (first | (with_reducible first | exact HB.out | apply below_alloc | apply pw_below_drewN | apply below_drew1 | refine below_set ?_ GE168.out) | exact HB.out)⟩
  ·rw [if_neg c7] at H
   have c7b0 : decide (t169 ≤ ((a1 - a0_0) % 4294967296)) = false := decide_eq_false c7
   clear c7
   simp only [Option.some.injEq, Prod.mk.injEq] at H
   obtain ⟨rfl, rfl⟩ := H
   go_enter Tryd.func25, Tryd.ntmps25
   try go_wp2_with (first | ((with_reducible refine gate_dst (N := 2) rfl ?_); refine box_event ?hg (N := 2) ?hd (cs := #[.int .u32 a0_0, .int .i64 a0_1]) (t := 24) ?hr ?_; (case hd => rfl); (case hg => rfl); (case hr => first | (go_simp; done) | (go_simp; rfl)); intro gb168 hg w11 hbox hb; have n0_ := Aside0.mk (below_step (by repeat (first | (with_reducible first | exact HB.out | apply below_alloc | apply pw_below_drewN | apply below_drew1) | exact HB.out)) hb); have n1_ := Aside0.mk (hbox); have n2_ := Aside0.mk ((by rw [hg]; exact (below_size (by repeat (first | (with_reducible first | exact HB.out | apply below_alloc | apply pw_below_drewN | apply below_drew1) | exact HB.out))) : w.heap.size ≤ gb168)); have n3_ := Aside0.mk ((by rw [hg]; exact (below_size (by repeat (first | (with_reducible first | exact HB.out | apply below_alloc | apply pw_below_drewN | apply below_drew1) | exact HB.out))) : w.heap.size ≤ gb168)); clear HB; have HB := n0_; have BK168 := n1_; have GW168 := n2_; have GE168 := n3_; clear n0_ n1_ n2_ n3_; clear hb hbox hg))
   have n0_ := Aside0.mk (blk_drew BK168.out)
   have n1_ := Aside0.mk (below_drew1 HB.out)
   clear BK168
   clear HB
   have BK168 := n0_
   have HB := n1_
   clear n0_ n1_
   refine start_ (n := 14) (S := fun w' => w'.cell? ⟨gb168, 0, none⟩ = some (.int .u32 a0_0) ∧ w'.cell? ⟨gb168, 1, none⟩ = some (.int .i64 a0_1)) (ds := []) #[false, false, false, false, false, false, false, false, false, false, false, false, false, false] (by kernel_rfl) rfl rfl ⟨(blk_cell BK168.out 0).trans rfl, (blk_cell BK168.out 1).trans rfl⟩ (fun hHeld => ?_); refine with_tabW lodgerref05_Offset.tab1 lodgerref05_Offset.bits1 (fun HT_ HW_ => ?_)
   generalize w11.drew = w12 at BK168 HB hHeld ⊢
   refine pu_ (i := 0) (N := some 6) (tf 14 1) HT_ ?_
   refine pu_ (i := 1) (N := some 7) (tf 14 3) HT_ ?_
   refine tk_ (i := 2) (N := some 8) (tf 14 7) rfl rfl HT_ HW_ hHeld (by rintro w' ⟨s0, s1⟩; go_simp; with_reducible rfl) ?_
   refine pu_ (i := 3) (N := some 9) (tf 14 15) HT_ ?_
   refine pu_ (i := 4) (N := some 10) (tf 14 31) HT_ ?_
   refine pu_ (i := 5) (N := some 11) (tf 14 63) HT_ ?_
   refine pu_ (i := 6) (N := some 12) (tf 14 127) HT_ ?_
   refine tk_ (i := 7) (N := some 13) (tf 14 255) rfl rfl HT_ HW_ hHeld (by rintro w' ⟨s0, s1⟩; go_simp; with_reducible rfl) ?_
   refine pu_ (i := 8) (N := some 14) (tf 14 511) HT_ ?_
   refine pu_ (i := 9) (N := some 15) (tf 14 1023) HT_ ?_
   refine tk_ (i := 10) (N := some 16) (tf 14 2047) rfl rfl HT_ HW_ hHeld (by rintro w' ⟨s0, s1⟩; go_simp; with_reducible rfl) ?_
   refine one_ (i := 11) (N := some 17) #[true, true, true, true, true, true, true, true, true, true, true, true, false, false] rfl rfl (one_of HT_.out (by kernel_rfl)) (by decide) (fun K hK => ?_)
   refine goes_ Tryd.func20 (by kernel_rfl) rfl #[.agg #[.int .u32 a0_0, .int .i64 a0_1]] (by rfl) rfl rfl (by (try simp only [List.map_toArray, List.map_cons, List.map_nil]); first | done | rfl | (simp only [List.length_drop, List.length_take]; rfl)) ?_
   with_reducible refine (lodgerref05_Many.calls k a0_0 a0_1 t169 _ A6.out).mono ?_
   rintro e w13 ⟨rfl, hb⟩
   refine ⟨_, rfl, ?_⟩
   have n0_ := Aside0.mk (blk_below (g := gb168) (o := .cells #[.int .u32 a0_0, .int .i64 a0_1] 24 (0, 0)) (by (with_reducible repeat (first | refine blk_drewN ?_ _ | refine blk_drew ?_ | refine blk_alloc ?_ _)); exact BK168.out) hb)
   have n1_ := Aside0.mk (below_step (by repeat (first | (with_reducible first | exact HB.out | apply below_alloc | apply pw_below_drewN | apply below_drew1 | refine below_set ?_ GE168.out) | exact HB.out)) hb)
   clear BK168
   clear HB
   have BK168 := n0_
   have HB := n1_
   clear n0_ n1_
   (try clear hb)
   (try clear hb2)
   (try clear hk)
   (try clear hi)
   refine hK.out _ _ ⟨(blk_cell BK168.out 0).trans rfl, (blk_cell BK168.out 1).trans rfl⟩ (fun hHeld => ?_)
   clear hK K
   refine norm_ (a' := ?_) ?_ ?_
   rotate_left
   ·show Act.put _ (some 17) _ = _
    simp only [Act.put, List.setIfInBounds_toArray, List.set_cons_zero, List.set_cons_succ, i64_w, i32_w]
    rfl
   refine pu_ (i := 12) (N := some 18) (tf 14 8191) HT_ ?_
   refine pu_ (i := 13) (N := some 19) (tf 14 16383) HT_ ?_
   refine done_ (done_of HT_.out (by kernel_rfl)) ?_
   have hcz14_0 : w13.cell? ⟨gb168, 0, none⟩ = some (.int .u32 a0_0) := (blk_cell BK168.out 0).trans rfl
   have hcz14_1 : w13.cell? ⟨gb168, 1, none⟩ = some (.int .i64 a0_1) := (blk_cell BK168.out 1).trans rfl
   have hfz14_0 := blk_frozen BK168.out 0
   have hfz14_1 := blk_frozen BK168.out 1
   try go_wp2
   go_ret2
   exact ⟨by first | rfl | (simp [errW_none, errW_some] <;> rfl) | (simp [*, errW_none, errW_some] <;> rfl), by repeat (first | (with_reducible first | exact HB.out | apply below_alloc | apply pw_below_drewN | apply below_drew1 | refine below_set ?_ GE168.out) | exact HB.out)⟩

/-! ### lodgerref05_Held: function 26 -/
def lodgerref05_Held.l0 : Nat → Int → Int → Int → Int → List Int → Int → Int → Int → Int → Option (Bool)
 | 0, _, _, _, _, _, _, _, _, _ => none
 | k + 1, x1, x5, x171000, x171001, x171002, x171003, x171004, x171005, x171006 => if x5 < (x171002.length : Int) then (if 0 ≤ x5 then (if (rd x171002 x5) = x1 then (some true) else (lodgerref05_Held.l0 k x1 (wrap64 (x5 + 1)) x171000 x171001 x171002 x171003 x171004 x171005 x171006)) else (none)) else (some false)
def lodgerref05_Held.f (k : Nat) (a0_0 : Int) (a0_1 : Int) (l0_2 : List Int) (a0_3 : Int) (a0_4 : Int) (a0_5 : Int) (a0_6 : Int) (a1 : Int) : Option (Bool) := lodgerref05_Held.l0 k a1 0 a0_0 a0_1 l0_2 a0_3 a0_4 a0_5 a0_6
theorem lodgerref05_Held.mono_l : ∀ k, (∀ y0 y1 y2 y3 y4 y5 y6 y7 y8, LeO (lodgerref05_Held.l0 k y0 y1 y2 y3 y4 y5 y6 y7 y8) (lodgerref05_Held.l0 (k + 1) y0 y1 y2 y3 y4 y5 y6 y7 y8))
 | 0 => fun _ _ _ _ _ _ _ _ _ r h => by simp [lodgerref05_Held.l0] at h
 | k + 1 => by
  have ih0 := lodgerref05_Held.mono_l k
  ·intro y0 y1 y2 y3 y4 y5 y6 y7 y8
   unfold lodgerref05_Held.l0
   repeat' first
   | (with_reducible exact ih0 _ _ _ _ _ _ _ _ _)
   | (with_reducible exact LeO.refl _)
   | (with_reducible exact LeO.none _)
   | (with_reducible refine LeO.ite ?_ ?_)
   | (with_reducible refine LeO.bind ?_ (fun _ => ?_))
   | exact ih0 _ _ _ _ _ _ _ _ _
   | exact LeO.none _
   | refine LeO.ite ?_ ?_
   | refine LeO.bind ?_ (fun _ => ?_)
theorem lodgerref05_Held.mono : ∀ a0 a1 a2 a3 a4 a5 a6 a7 k, LeO (lodgerref05_Held.f k a0 a1 a2 a3 a4 a5 a6 a7) (lodgerref05_Held.f (k + 1) a0 a1 a2 a3 a4 a5 a6 a7) := by
 intro a0 a1 a2 a3 a4 a5 a6 a7 k
 have ih0 := lodgerref05_Held.mono_l k
 unfold lodgerref05_Held.f
 repeat' first
   | (with_reducible exact ih0 _ _ _ _ _ _ _ _ _)
   | (with_reducible exact LeO.refl _)
   | (with_reducible exact LeO.none _)
   | (with_reducible refine LeO.ite ?_ ?_)
   | (with_reducible refine LeO.bind ?_ (fun _ => ?_))
   | exact ih0 _ _ _ _ _ _ _ _ _
   | exact LeO.none _
   | refine LeO.ite ?_ ?_
   | refine LeO.bind ?_ (fun _ => ?_)
set_option maxHeartbeats 8000000 in
set_option maxRecDepth 100000 in
theorem lodgerref05_Held.calls (k : Nat) (a0_0 : Int) (a0_1 : Int) (A0_2 : Option Addr) (c0_2 : Nat) (l0_2 : List Int) (a0_3 : Int) (a0_4 : Int) (a0_5 : Int) (a0_6 : Int) (a1 : Int) (r : Bool) (w : World) (hr0_2 : Kd.C (Kd.int .i64) w A0_2 l0_2.length l0_2) (hc0_2 : l0_2.length ≤ c0_2) (h : lodgerref05_Held.f k a0_0 a0_1 l0_2 a0_3 a0_4 a0_5 a0_6 a1 = some r) :
  Calls Tryd.prog 26 #[.agg #[.int .u32 a0_0, .int .i64 a0_1, .slice A0_2 l0_2.length c0_2, .int .i64 a0_3, .int .i64 a0_4, .int .i64 a0_5, .int .i64 a0_6], .int .i64 a1] w fun e w' => e = .returned (.bool r) ∧ Below w.heap.size w w' := by
 have hu27 := Tryd.underlying27
 have HR0_2 := Aside0.mk hr0_2
 have HC0_2 := Aside0.mk hc0_2
 clear hr0_2 hc0_2
 have HB := Aside0.mk (Below.refl w.heap.size w)
 have H : (lodgerref05_Held.l0 k a1 0 a0_0 a0_1 l0_2 a0_3 a0_4 a0_5 a0_6) = some r := h
 clear h
 have H' := Aside0.mk H
 clear H
 go_enter Tryd.func26, Tryd.ntmps26
 go_wp2_with (first | ((with_reducible refine gate_dst (N := 2) rfl ?_); refine box_event ?hg (N := 2) ?hd (cs := #[.int .u32 a0_0, .int .i64 a0_1, .slice A0_2 l0_2.length c0_2, .int .i64 a0_3, .int .i64 a0_4, .int .i64 a0_5, .int .i64 a0_6]) (t := 27) ?hr ?_; (case hd => rfl); (case hg => rfl); (case hr => first | (go_simp; done) | (go_simp; rfl)); intro gb170 hg w3 hbox hb; have n0_ := Aside0.mk (below_step (by repeat (first | (with_reducible first | exact HB.out | apply below_alloc | apply pw_below_drewN | apply below_drew1) | exact HB.out)) hb); have n1_ := Aside0.mk (hbox); have n2_ := Aside0.mk ((by rw [hg]; exact (below_size (by repeat (first | (with_reducible first | exact HB.out | apply below_alloc | apply pw_below_drewN | apply below_drew1) | exact HB.out))) : w.heap.size ≤ gb170)); have n3_ := Aside0.mk ((by rw [hg]; exact (below_size (by repeat (first | (with_reducible first | exact HB.out | apply below_alloc | apply pw_below_drewN | apply below_drew1) | exact HB.out))) : w.heap.size ≤ gb170)); clear HB; have HB := n0_; have BK170 := n1_; have GW170 := n2_; have GE170 := n3_; clear n0_ n1_ n2_ n3_; clear hb hbox hg))
 go_loopg [5] k (fun kq v5 w' => ∃ (x5_1 : Int), v5 = .int .i64 x5_1 ∧ Aside0 (lodgerref05_Held.l0 kq a1 x5_1 a0_0 a0_1 l0_2 a0_3 a0_4 a0_5 a0_6 = some r) ∧ Aside0 (kq ≤ k) ∧ Aside0 (w'.heap[gb170]? = some (.cells #[.int .u32 a0_0, .int .i64 a0_1, (.slice A0_2 l0_2.length c0_2), .int .i64 a0_3, .int .i64 a0_4, .int .i64 a0_5, .int .i64 a0_6] 27 (0, 0))) ∧ Aside0 (Below w.heap.size w w'))
 case atStart => exact ⟨(0), (by first | rfl | (simp; done) | (simp [*]; done)), H', ⟨Nat.le_refl _⟩, ⟨by (with_reducible repeat (first | refine blk_drewN ?_ _ | refine blk_drew ?_ | refine blk_alloc ?_ _)); exact BK170.out⟩, ⟨by repeat (first | (with_reducible first | exact HB.out | apply below_alloc | apply pw_below_drewN | apply below_drew1 | refine below_set ?_ GE170.out) | exact HB.out)⟩⟩
 case round =>
  clear H'
  try clear c2
  try clear p2
  obtain ⟨x5_1, rfl, HA, HK1, BK170, HB⟩ := hrel
  cases gk with
  | zero => exact absurd HA.out (by simp [lodgerref05_Held.l0])
  | succ k1 =>
   have H := HA.out
   clear HA
   simp only [lodgerref05_Held.l0] at H
   by_cases c4 : x5_1 < (l0_2.length : Int)
   ·rw [if_pos c4] at H
    have c4b0 : decide (x5_1 < (l0_2.length : Int)) = true := decide_eq_true c4
    clear c4
    by_cases c5 : 0 ≤ x5_1
    ·rw [if_pos c5] at H
     have c5b0 : decide (0 ≤ x5_1) = true := decide_eq_true c5
     clear c5
     by_cases c6 : (rd l0_2 x5_1) = a1
     ·rw [if_pos c6] at H
      have c6b0 : ((rd l0_2 x5_1) == a1) = true := beq_iff_eq.mpr c6
      have c6b1 : ((rd l0_2 x5_1) != a1) = false := bne_eq_false_iff_eq.mpr c6
      clear c6
      obtain rfl := Option.some.inj H
      have hcz7_0 : wr.cell? ⟨gb170, 0, none⟩ = some (.int .u32 a0_0) := (blk_cell BK170.out 0).trans rfl
      have hcz7_1 : wr.cell? ⟨gb170, 1, none⟩ = some (.int .i64 a0_1) := (blk_cell BK170.out 1).trans rfl
      have hcz7_2 : wr.cell? ⟨gb170, 2, none⟩ = some (.slice A0_2 l0_2.length c0_2) := (blk_cell BK170.out 2).trans rfl
      have hcz7_3 : wr.cell? ⟨gb170, 3, none⟩ = some (.int .i64 a0_3) := (blk_cell BK170.out 3).trans rfl
      have hcz7_4 : wr.cell? ⟨gb170, 4, none⟩ = some (.int .i64 a0_4) := (blk_cell BK170.out 4).trans rfl
      have hcz7_5 : wr.cell? ⟨gb170, 5, none⟩ = some (.int .i64 a0_5) := (blk_cell BK170.out 5).trans rfl
      have hcz7_6 : wr.cell? ⟨gb170, 6, none⟩ = some (.int .i64 a0_6) := (blk_cell BK170.out 6).trans rfl
      have hfz7_0 := blk_frozen BK170.out 0
      have hfz7_1 := blk_frozen BK170.out 1
      have hfz7_2 := blk_frozen BK170.out 2
      have hfz7_3 := blk_frozen BK170.out 3
      have hfz7_4 := blk_frozen BK170.out 4
      have hfz7_5 := blk_frozen BK170.out 5
      have hfz7_6 := blk_frozen BK170.out 6
      have p171 : 0 ≤ (x5_1 : Int) := od_
      have q171 : x5_1 < (l0_2.length : Int) := od_
      obtain ⟨ad171, e171, hx171_0⟩ := Kd.at_int HR0_2.out x5_1 p171 q171
      cases e171
      replace hx171_0 := (HB.out.cell (World.block_lt_of_cell? w _ hx171_0)).trans hx171_0
      replace p171 := eq_true p171
      replace q171 := eq_true q171
      go_wp2
      go_ret
      exact ⟨by first | rfl | (simp [errW_none, errW_some] <;> rfl) | (simp [*, errW_none, errW_some] <;> rfl), by repeat (first | (with_reducible first | exact HB.out | apply below_alloc | apply pw_below_drewN | apply below_drew1 | refine below_set ?_ GE170.out) | exact HB.out)⟩
     ·rw [if_neg c6] at H
      have c6b0 : ((rd l0_2 x5_1) == a1) = false := beq_eq_false_iff_ne.mpr c6
      have c6b1 : ((rd l0_2 x5_1) != a1) = true := bne_iff_ne.mpr c6
      have H' := Aside0.mk H
      clear H
      have hcz8_0 : wr.cell? ⟨gb170, 0, none⟩ = some (.int .u32 a0_0) := (blk_cell BK170.out 0).trans rfl
      have hcz8_1 : wr.cell? ⟨gb170, 1, none⟩ = some (.int .i64 a0_1) := (blk_cell BK170.out 1).trans rfl
      have hcz8_2 : wr.cell? ⟨gb170, 2, none⟩ = some (.slice A0_2 l0_2.length c0_2) := (blk_cell BK170.out 2).trans rfl
      have hcz8_3 : wr.cell? ⟨gb170, 3, none⟩ = some (.int .i64 a0_3) := (blk_cell BK170.out 3).trans rfl
      have hcz8_4 : wr.cell? ⟨gb170, 4, none⟩ = some (.int .i64 a0_4) := (blk_cell BK170.out 4).trans rfl
      have hcz8_5 : wr.cell? ⟨gb170, 5, none⟩ = some (.int .i64 a0_5) := (blk_cell BK170.out 5).trans rfl
      have hcz8_6 : wr.cell? ⟨gb170, 6, none⟩ = some (.int .i64 a0_6) := (blk_cell BK170.out 6).trans rfl
      have hfz8_0 := blk_frozen BK170.out 0
      have hfz8_1 := blk_frozen BK170.out 1
      have hfz8_2 := blk_frozen BK170.out 2
      have hfz8_3 := blk_frozen BK170.out 3
      have hfz8_4 := blk_frozen BK170.out 4
      have hfz8_5 := blk_frozen BK170.out 5
      have hfz8_6 := blk_frozen BK170.out 6
      have p171 : 0 ≤ (x5_1 : Int) := od_
      have q171 : x5_1 < (l0_2.length : Int) := od_
      obtain ⟨ad171, e171, hx171_0⟩ := Kd.at_int HR0_2.out x5_1 p171 q171
      cases e171
      replace hx171_0 := (HB.out.cell (World.block_lt_of_cell? w _ hx171_0)).trans hx171_0
      replace p171 := eq_true p171
      replace q171 := eq_true q171
      go_wp2
      go_roundg k1
      case measure => have := HK1.out; omega
      case rel => exact ⟨(wrap64 (x5_1 + 1)), (by first | rfl | (simp; done) | (simp [*]; done)), H', ⟨by have := HK1.out; omega⟩, ⟨by (with_reducible repeat (first | refine blk_drewN ?_ _ | refine blk_drew ?_ | refine blk_alloc ?_ _)); exact BK170.out⟩, ⟨by repeat (first | (with_reducible first | exact HB.out | apply below_alloc | apply pw_below_drewN | apply below_drew1 | refine below_set ?_ GE170.out) | exact HB.out)⟩⟩
    ·rw [if_neg c5] at H
     exact absurd H (by simp)
   ·rw [if_neg c4] at H
    have c4b0 : decide (x5_1 < (l0_2.length : Int)) = false := decide_eq_false c4
    clear c4
    obtain rfl := Option.some.inj H
    have hcz9_0 : wr.cell? ⟨gb170, 0, none⟩ = some (.int .u32 a0_0) := (blk_cell BK170.out 0).trans rfl
    have hcz9_1 : wr.cell? ⟨gb170, 1, none⟩ = some (.int .i64 a0_1) := (blk_cell BK170.out 1).trans rfl
    have hcz9_2 : wr.cell? ⟨gb170, 2, none⟩ = some (.slice A0_2 l0_2.length c0_2) := (blk_cell BK170.out 2).trans rfl
    have hcz9_3 : wr.cell? ⟨gb170, 3, none⟩ = some (.int .i64 a0_3) := (blk_cell BK170.out 3).trans rfl
    have hcz9_4 : wr.cell? ⟨gb170, 4, none⟩ = some (.int .i64 a0_4) := (blk_cell BK170.out 4).trans rfl
    have hcz9_5 : wr.cell? ⟨gb170, 5, none⟩ = some (.int .i64 a0_5) := (blk_cell BK170.out 5).trans rfl
    have hcz9_6 : wr.cell? ⟨gb170, 6, none⟩ = some (.int .i64 a0_6) := (blk_cell BK170.out 6).trans rfl
    have hfz9_0 := blk_frozen BK170.out 0
    have hfz9_1 := blk_frozen BK170.out 1
    have hfz9_2 := blk_frozen BK170.out 2
    have hfz9_3 := blk_frozen BK170.out 3
    have hfz9_4 := blk_frozen BK170.out 4
    have hfz9_5 := blk_frozen BK170.out 5
    have hfz9_6 := blk_frozen BK170.out 6
    go_wp2
    go_ret
    exact ⟨by first | rfl | (simp [errW_none, errW_some] <;> rfl) | (simp [*, errW_none, errW_some] <;> rfl), by repeat (first | (with_reducible first | exact HB.out | apply below_alloc | apply pw_below_drewN | apply below_drew1 | refine below_set ?_ GE170.out) | exact HB.out)⟩

/-! ### lodgerref05_Find: function 18 -/
def lodgerref05_Find.f (k : Nat) (a0_0 : Int) (a0_1 : Int) (l0_2 : List Int) (a0_3 : Int) (a0_4 : Int) (a0_5 : Int) (a0_6 : Int) (a1 : Int) : Option (Int × Int) := (lodgerref05_Offset.f k a0_0 a0_1 a1).bind fun bt173 => (if bt173.2 = 0 then ((lodgerref05_Held.f k a0_0 a0_1 l0_2 a0_3 a0_4 a0_5 a0_6 bt173.1).bind fun t175 => (if t175 = true then (some (0, 4)) else (some (bt173.1, 0)))) else (some (0, 3)))
theorem lodgerref05_Find.mono : ∀ a0 a1 a2 a3 a4 a5 a6 a7 k, LeO (lodgerref05_Find.f k a0 a1 a2 a3 a4 a5 a6 a7) (lodgerref05_Find.f (k + 1) a0 a1 a2 a3 a4 a5 a6 a7) := by
 intro a0 a1 a2 a3 a4 a5 a6 a7 k
 unfold lodgerref05_Find.f
 repeat' first
   | (with_reducible exact lodgerref05_Held.mono _ _ _ _ _ _ _ _ _)
   | (with_reducible exact lodgerref05_Offset.mono _ _ _ _)
   | (with_reducible exact LeO.refl _)
   | (with_reducible exact LeO.none _)
   | (with_reducible refine LeO.ite ?_ ?_)
   | (with_reducible refine LeO.bind ?_ (fun _ => ?_))
   | exact lodgerref05_Held.mono _ _ _ _ _ _ _ _ _
   | exact lodgerref05_Offset.mono _ _ _ _
   | exact LeO.none _
   | refine LeO.ite ?_ ?_
   | refine LeO.bind ?_ (fun _ => ?_)
set_option maxHeartbeats 8000000 in
set_option maxRecDepth 100000 in
theorem lodgerref05_Find.calls (k : Nat) (a0_0 : Int) (a0_1 : Int) (A0_2 : Option Addr) (c0_2 : Nat) (l0_2 : List Int) (a0_3 : Int) (a0_4 : Int) (a0_5 : Int) (a0_6 : Int) (a1 : Int) (r1 : Int) (r2 : Int) (w : World) (hr0_2 : Kd.C (Kd.int .i64) w A0_2 l0_2.length l0_2) (hc0_2 : l0_2.length ≤ c0_2) (h : lodgerref05_Find.f k a0_0 a0_1 l0_2 a0_3 a0_4 a0_5 a0_6 a1 = some (r1, r2)) :
  Calls Tryd.prog 18 #[.agg #[.int .u32 a0_0, .int .i64 a0_1, .slice A0_2 l0_2.length c0_2, .int .i64 a0_3, .int .i64 a0_4, .int .i64 a0_5, .int .i64 a0_6], .int .u32 a1] w fun e w' => e = .returned (.tuple #[.int .i64 r1, .int .i64 r2]) ∧ Below w.heap.size w w' := by
 have hu27 := Tryd.underlying27
 have hu24 := Tryd.underlying24
 have HR0_2 := Aside0.mk hr0_2
 have HC0_2 := Aside0.mk hc0_2
 clear hr0_2 hc0_2
 have HB := Aside0.mk (Below.refl w.heap.size w)
 have H : ((lodgerref05_Offset.f k a0_0 a0_1 a1).bind fun bt173 => (if bt173.2 = 0 then ((lodgerref05_Held.f k a0_0 a0_1 l0_2 a0_3 a0_4 a0_5 a0_6 bt173.1).bind fun t175 => (if t175 = true then (some (0, 4)) else (some (bt173.1, 0)))) else (some (0, 3)))) = some (r1, r2) := h
 clear h
 replace H := Option.bind_eq_some_iff.mp H
 obtain ⟨⟨t173, t174⟩, A30, H⟩ := H
 replace H : (if t174 = 0 then ((lodgerref05_Held.f k a0_0 a0_1 l0_2 a0_3 a0_4 a0_5 a0_6 t173).bind fun t175 => (if t175 = true then (some (0, 4)) else (some (t173, 0)))) else (some (0, 3))) = some (r1, r2) := H
 have A3 := Aside0.mk A30
 clear A30
 by_cases c4 : t174 = 0
 ·rw [if_pos c4] at H
  have c4b0 : (t174 == 0) = true := beq_iff_eq.mpr c4
  have c4b1 : (t174 != 0) = false := bne_eq_false_iff_eq.mpr c4
  clear c4
  replace H := Option.bind_eq_some_iff.mp H
  obtain ⟨t175, A50, H⟩ := H
  replace H : (if t175 = true then (some (0, 4)) else (some (t173, 0))) = some (r1, r2) := H
  have A5 := Aside0.mk A50
  clear A50
  by_cases c6 : t175 = true
  ·subst c6
   have H1 : (some (0, 4)) = some (r1, r2) := by rw [if_pos rfl] at H; exact H
   clear H
   have H := H1
   clear H1
   simp only [Option.some.injEq, Prod.mk.injEq] at H
   obtain ⟨rfl, rfl⟩ := H
   go_enter Tryd.func18, Tryd.ntmps18
   go_wp2_with (first | ((with_reducible refine gate_dst (N := 2) rfl ?_); refine box_event ?hg (N := 2) ?hd (cs := #[.int .u32 a0_0, .int .i64 a0_1, .slice A0_2 l0_2.length c0_2, .int .i64 a0_3, .int .i64 a0_4, .int .i64 a0_5, .int .i64 a0_6]) (t := 27) ?hr ?_; (case hd => rfl); (case hg => rfl); (case hr => first | (go_simp; done) | (go_simp; rfl)); intro gb172 hg w7 hbox hb; have n0_ := Aside0.mk (below_step (by repeat (first | (with_reducible first | exact HB.out | apply below_alloc | apply pw_below_drewN | apply below_drew1) | exact HB.out)) hb); have n1_ := Aside0.mk (hbox); have n2_ := Aside0.mk ((by rw [hg]; exact (below_size (by repeat (first | (with_reducible first | exact HB.out | apply below_alloc | apply pw_below_drewN | apply below_drew1) | exact HB.out))) : w.heap.size ≤ gb172)); have n3_ := Aside0.mk ((by rw [hg]; exact (below_size (by repeat (first | (with_reducible first | exact HB.out | apply below_alloc | apply pw_below_drewN | apply below_drew1) | exact HB.out))) : w.heap.size ≤ gb172)); clear HB; have HB := n0_; have BK172 := n1_; have GW172 := n2_; have GE172 := n3_; clear n0_ n1_ n2_ n3_; clear hb hbox hg; have hcz8_0 : w7.cell? ⟨gb172, 0, none⟩ = some (.int .u32 a0_0) := (blk_cell BK172.out 0).trans rfl; have hcz8_1 : w7.cell? ⟨gb172, 1, none⟩ = some (.int .i64 a0_1) := (blk_cell BK172.out 1).trans rfl; have hcz8_2 : w7.cell? ⟨gb172, 2, none⟩ = some (.slice A0_2 l0_2.length c0_2) := (blk_cell BK172.out 2).trans rfl; have hcz8_3 : w7.cell? ⟨gb172, 3, none⟩ = some (.int .i64 a0_3) := (blk_cell BK172.out 3).trans rfl; have hcz8_4 : w7.cell? ⟨gb172, 4, none⟩ = some (.int .i64 a0_4) := (blk_cell BK172.out 4).trans rfl; have hcz8_5 : w7.cell? ⟨gb172, 5, none⟩ = some (.int .i64 a0_5) := (blk_cell BK172.out 5).trans rfl; have hcz8_6 : w7.cell? ⟨gb172, 6, none⟩ = some (.int .i64 a0_6) := (blk_cell BK172.out 6).trans rfl; have hfz8_0 := blk_frozen BK172.out 0; have hfz8_1 := blk_frozen BK172.out 1; have hfz8_2 := blk_frozen BK172.out 2; have hfz8_3 := blk_frozen BK172.out 3; have hfz8_4 := blk_frozen BK172.out 4; have hfz8_5 := blk_frozen BK172.out 5; have hfz8_6 := blk_frozen BK172.out 6) | ((with_reducible refine gate_callee (f := 25) rfl ?_); refine goesL_ (some 12) rfl rfl Tryd.func25 (by kernel_rfl) rfl #[.agg #[.int .u32 a0_0, .int .i64 a0_1], .int .u32 a1] rfl (by (try simp only [List.map_toArray, List.map_cons, List.map_nil]); first | done | rfl | (simp only [List.length_drop, List.length_take]; rfl)) ?_; (with_reducible refine (lodgerref05_Offset.calls k a0_0 a0_1 a1 t173 t174 _ A3.out).mono ?_); rintro e w9 ⟨rfl, hb⟩; refine ⟨_, rfl, ?_⟩; have n0_ := Aside0.mk (blk_below (g := gb172) (o := .cells #[.int .u32 a0_0, .int .i64 a0_1, .slice A0_2 l0_2.length c0_2, .int .i64 a0_3, .int .i64 a0_4, .int .i64 a0_5, .int .i64 a0_6] 27 (0, 0)) (by (with_reducible repeat (first | refine blk_drewN ?_ _ | refine blk_drew ?_ | refine blk_alloc ?_ _)); exact BK172.out) hb); have n1_ := Aside0.mk (below_step (by repeat (first | (with_reducible first | exact HB.out | apply below_alloc | apply pw_below_drewN | apply below_drew1 | refine below_set ?_ GE172.out) | exact HB.out)) hb); clear BK172; clear HB; have BK172 := n0_; have HB := n1_; clear n0_ n1_; (try clear hb); (try clear hb2); (try clear hk); (try clear hi); have hcz10_0 : w9.cell? ⟨gb172, 0, none⟩ = some (.int .u32 a0_0) := (blk_cell BK172.out 0).trans rfl; have hcz10_1 : w9.cell? ⟨gb172, 1, none⟩ = some (.int .i64 a0_1) := (blk_cell BK172.out 1).trans rfl; have hcz10_2 : w9.cell? ⟨gb172, 2, none⟩ = some (.slice A0_2 l0_2.length c0_2) := (blk_cell BK172.out 2).trans rfl; have hcz10_3 : w9.cell? ⟨gb172, 3, none⟩ = some (.int .i64 a0_3) := (blk_cell BK172.out 3).trans rfl; have hcz10_4 : w9.cell? ⟨gb172, 4, none⟩ = some (.int .i64 a0_4) := (blk_cell BK172.out 4).trans rfl; have hcz10_5 : w9.cell? ⟨gb172, 5, none⟩ = some (.int .i64 a0_5) := (blk_cell BK172.out 5).trans rfl; have hcz10_6 : w9.cell? ⟨gb172, 6, none⟩ = some (.int .i64 a0_6) := (blk_cell BK172.out 6).trans rfl; have hfz10_0 := blk_frozen BK172.out 0; have hfz10_1 := blk_frozen BK172.out 1; have hfz10_2 := blk_frozen BK172.out 2; have hfz10_3 := blk_frozen BK172.out 3; have hfz10_4 := blk_frozen BK172.out 4; have hfz10_5 := blk_frozen BK172.out 5; have hfz10_6 := blk_frozen BK172.out 6) | ((with_reducible refine gate_callee (f := 26) rfl ?_); refine goesL_ (some 19) rfl rfl Tryd.func26 (by kernel_rfl) rfl #[.agg #[.int .u32 a0_0, .int .i64 a0_1, .slice A0_2 l0_2.length c0_2, .int .i64 a0_3, .int .i64 a0_4, .int .i64 a0_5, .int .i64 a0_6], .int .i64 t173] rfl (by (try simp only [List.map_toArray, List.map_cons, List.map_nil]); first | done | rfl | (simp only [List.length_drop, List.length_take]; rfl)) ?_; (with_reducible refine (lodgerref05_Held.calls k a0_0 a0_1 _ _ l0_2 a0_3 a0_4 a0_5 a0_6 t173 true _ ?side1 ?side2 A5.out).mono ?_); (case side1 => repeat (first | exact (Kd.C_below HR0_2.out HB.out) | (with_reducible refine Kd.C_alloc ?_ _) | (with_reducible refine Kd.C_drewN ?_ _) | (with_reducible refine Kd.C_drew ?_))); (case side2 => exact HC0_2.out); rintro e w11 ⟨rfl, hb⟩; refine ⟨_, rfl, ?_⟩; have n0_ := Aside0.mk (blk_below (g := gb172) (o := .cells #[.int .u32 a0_0, .int .i64 a0_1, .slice A0_2 l0_2.length c0_2, .int .i64 a0_3, .int .i64 a0_4, .int .i64 a0_5, .int .i64 a0_6] 27 (0, 0)) (by (with_reducible repeat (first | refine blk_drewN ?_ _ | refine blk_drew ?_ | refine blk_alloc ?_ _)); exact BK172.out) hb); have n1_ := Aside0.mk (below_step (by repeat (first | (with_reducible first | exact HB.out | apply below_alloc | apply pw_below_drewN | apply below_drew1 | refine below_set ?_ GE172.out) | exact HB.out)) hb); clear BK172; clear HB; have BK172 := n0_; have HB := n1_; clear n0_ n1_; (try clear hb); (try clear hb2); (try clear hk); (try clear hi)))
   go_ret2
   exact ⟨by first | rfl | (simp [errW_none, errW_some] <;> rfl) | (simp [*, errW_none, errW_some] <;> rfl), by repeat (first | (with_reducible first | exact HB.out | apply below_alloc | apply pw_below_drewN | apply below_drew1 | refine below_set ?_ GE172.out) | exact HB.out)⟩
  ·replace c6 := Bool.eq_false_iff.mpr c6
   subst c6
   have H1 : (some (t173, 0)) = some (r1, r2) := by rw [if_neg (show ¬ (false = true) by decide)] at H; exact H
   clear H
   have H := H1
   clear H1
   simp only [Option.some.injEq, Prod.mk.injEq] at H
   obtain ⟨rfl, rfl⟩ := H
   go_enter Tryd.func18, Tryd.ntmps18
   go_wp2_with (first | ((with_reducible refine gate_dst (N := 2) rfl ?_); refine box_event ?hg (N := 2) ?hd (cs := #[.int .u32 a0_0, .int .i64 a0_1, .slice A0_2 l0_2.length c0_2, .int .i64 a0_3, .int .i64 a0_4, .int .i64 a0_5, .int .i64 a0_6]) (t := 27) ?hr ?_; (case hd => rfl); (case hg => rfl); (case hr => first | (go_simp; done) | (go_simp; rfl)); intro gb172 hg w12 hbox hb; have n0_ := Aside0.mk (below_step (by repeat (first | (with_reducible first | exact HB.out | apply below_alloc | apply pw_below_drewN | apply below_drew1) | exact HB.out)) hb); have n1_ := Aside0.mk (hbox); have n2_ := Aside0.mk ((by rw [hg]; exact (below_size (by repeat (first | (with_reducible first | exact HB.out | apply below_alloc | apply pw_below_drewN | apply below_drew1) | exact HB.out))) : w.heap.size ≤ gb172)); have n3_ := Aside0.mk ((by rw [hg]; exact (below_size (by repeat (first | (with_reducible first | exact HB.out | apply below_alloc | apply pw_below_drewN | apply below_drew1) | exact HB.out))) : w.heap.size ≤ gb172)); clear HB; have HB := n0_; have BK172 := n1_; have GW172 := n2_; have GE172 := n3_; clear n0_ n1_ n2_ n3_; clear hb hbox hg; have hcz13_0 : w12.cell? ⟨gb172, 0, none⟩ = some (.int .u32 a0_0) := (blk_cell BK172.out 0).trans rfl; have hcz13_1 : w12.cell? ⟨gb172, 1, none⟩ = some (.int .i64 a0_1) := (blk_cell BK172.out 1).trans rfl; have hcz13_2 : w12.cell? ⟨gb172, 2, none⟩ = some (.slice A0_2 l0_2.length c0_2) := (blk_cell BK172.out 2).trans rfl; have hcz13_3 : w12.cell? ⟨gb172, 3, none⟩ = some (.int .i64 a0_3) := (blk_cell BK172.out 3).trans rfl; have hcz13_4 : w12.cell? ⟨gb172, 4, none⟩ = some (.int .i64 a0_4) := (blk_cell BK172.out 4).trans rfl; have hcz13_5 : w12.cell? ⟨gb172, 5, none⟩ = some (.int .i64 a0_5) := (blk_cell BK172.out 5).trans rfl; have hcz13_6 : w12.cell? ⟨gb172, 6, none⟩ = some (.int .i64 a0_6) := (blk_cell BK172.out 6).trans rfl; have hfz13_0 := blk_frozen BK172.out 0; have hfz13_1 := blk_frozen BK172.out 1; have hfz13_2 := blk_frozen BK172.out 2; have hfz13_3 := blk_frozen BK172.out 3; have hfz13_4 := blk_frozen BK172.out 4; have hfz13_5 := blk_frozen BK172.out 5; have hfz13_6 := blk_frozen BK172.out 6) | ((with_reducible refine gate_callee (f := 25) rfl ?_); refine goesL_ (some 12) rfl rfl Tryd.func25 (by kernel_rfl) rfl #[.agg #[.int .u32 a0_0, .int .i64 a0_1], .int .u32 a1] rfl (by (try simp only [List.map_toArray, List.map_cons, List.map_nil]); first | done | rfl | (simp only [List.length_drop, List.length_take]; rfl)) ?_; (with_reducible refine (lodgerref05_Offset.calls k a0_0 a0_1 a1 t173 t174 _ A3.out).mono ?_); rintro e w14 ⟨rfl, hb⟩; refine ⟨_, rfl, ?_⟩; have n0_ := Aside0.mk (blk_below (g := gb172) (o := .cells #[.int .u32 a0_0, .int .i64 a0_1, .slice A0_2 l0_2.length c0_2, .int .i64 a0_3, .int .i64 a0_4, .int .i64 a0_5, .int .i64 a0_6] 27 (0, 0)) (by (with_reducible repeat (first | refine blk_drewN ?_ _ | refine blk_drew ?_ | refine blk_alloc ?_ _)); exact BK172.out) hb); have n1_ := Aside0.mk (below_step (by repeat (first | (with_reducible first | exact HB.out | apply below_alloc | apply pw_below_drewN | apply below_drew1 | refine below_set ?_ GE172.out) | exact HB.out)) hb); clear BK172; clear HB; have BK172 := n0_; have HB := n1_; clear n0_ n1_; (try clear hb); (try clear hb2); (try clear hk); (try clear hi); have hcz15_0 : w14.cell? ⟨gb172, 0, none⟩ = some (.int .u32 a0_0) := (blk_cell BK172.out 0).trans rfl; have hcz15_1 : w14.cell? ⟨gb172, 1, none⟩ = some (.int .i64 a0_1) := (blk_cell BK172.out 1).trans rfl; have hcz15_2 : w14.cell? ⟨gb172, 2, none⟩ = some (.slice A0_2 l0_2.length c0_2) := (blk_cell BK172.out 2).trans rfl; have hcz15_3 : w14.cell? ⟨gb172, 3, none⟩ = some (.int .i64 a0_3) := (blk_cell BK172.out 3).trans rfl; have hcz15_4 : w14.cell? ⟨gb172, 4, none⟩ = some (.int .i64 a0_4) := (blk_cell BK172.out 4).trans rfl; have hcz15_5 : w14.cell? ⟨gb172, 5, none⟩ = some (.int .i64 a0_5) := (blk_cell BK172.out 5).trans rfl; have hcz15_6 : w14.cell? ⟨gb172, 6, none⟩ = some (.int .i64 a0_6) := (blk_cell BK172.out 6).trans rfl; have hfz15_0 := blk_frozen BK172.out 0; have hfz15_1 := blk_frozen BK172.out 1; have hfz15_2 := blk_frozen BK172.out 2; have hfz15_3 := blk_frozen BK172.out 3; have hfz15_4 := blk_frozen BK172.out 4; have hfz15_5 := blk_frozen BK172.out 5; have hfz15_6 := blk_frozen BK172.out 6) | ((with_reducible refine gate_callee (f := 26) rfl ?_); refine goesL_ (some 19) rfl rfl Tryd.func26 (by kernel_rfl) rfl #[.agg #[.int .u32 a0_0, .int .i64 a0_1, .slice A0_2 l0_2.length c0_2, .int .i64 a0_3, .int .i64 a0_4, .int .i64 a0_5, .int .i64 a0_6], .int .i64 t173] rfl (by (try simp only [List.map_toArray, List.map_cons, List.map_nil]); first | done | rfl | (simp only [List.length_drop, List.length_take]; rfl)) ?_; (with_reducible refine (lodgerref05_Held.calls k a0_0 a0_1 _ _ l0_2 a0_3 a0_4 a0_5 a0_6 t173 false _ ?side1 ?side2 A5.out).mono ?_); (case side1 => repeat (first | exact (Kd.C_below HR0_2.out HB.out) | (with_reducible refine Kd.C_alloc ?_ _) | (with_reducible refine Kd.C_drewN ?_ _) | (with_reducible refine Kd.C_drew ?_))); (case side2 => exact HC0_2.out); rintro e w16 ⟨rfl, hb⟩; refine ⟨_, rfl, ?_⟩; have n0_ := Aside0.mk (blk_below (g := gb172) (o := .cells #[.int .u32 a0_0, .int .i64 a0_1, .slice A0_2 l0_2.length c0_2, .int .i64 a0_3, .int .i64 a0_4, .int .i64 a0_5, .int .i64 a0_6] 27 (0, 0)) (by (with_reducible repeat (first | refine blk_drewN ?_ _ | refine blk_drew ?_ | refine blk_alloc ?_ _)); exact BK172.out) hb); have n1_ := Aside0.mk (below_step (by repeat (first | (with_reducible first | exact HB.out | apply below_alloc | apply pw_below_drewN | apply below_drew1 | refine below_set ?_ GE172.out) | exact HB.out)) hb); clear BK172; clear HB; have BK172 := n0_; have HB := n1_; clear n0_ n1_; (try clear hb); (try clear hb2); (try clear hk); (try clear hi)))
   go_ret2
   exact ⟨by first | rfl | (simp [errW_none, errW_some] <;> rfl) | (simp [*, errW_none, errW_some] <;> rfl), by repeat (first | (with_reducible first | exact HB.out | apply below_alloc | apply pw_below_drewN | apply below_drew1 | refine below_set ?_ GE172.out) | exact HB.out)⟩
 ·rw [if_neg c4] at H
  have c4b0 : (t174 == 0) = false := beq_eq_false_iff_ne.mpr c4
  have c4b1 : (t174 != 0) = true := bne_iff_ne.mpr c4
  simp only [Option.some.injEq, Prod.mk.injEq] at H
  obtain ⟨rfl, rfl⟩ := H
  go_enter Tryd.func18, Tryd.ntmps18
  go_wp2_with (first | ((with_reducible refine gate_dst (N := 2) rfl ?_); refine box_event ?hg (N := 2) ?hd (cs := #[.int .u32 a0_0, .int .i64 a0_1, .slice A0_2 l0_2.length c0_2, .int .i64 a0_3, .int .i64 a0_4, .int .i64 a0_5, .int .i64 a0_6]) (t := 27) ?hr ?_; (case hd => rfl); (case hg => rfl); (case hr => first | (go_simp; done) | (go_simp; rfl)); intro gb172 hg w17 hbox hb; have n0_ := Aside0.mk (below_step (by repeat (first | (with_reducible first | exact HB.out | apply below_alloc | apply pw_below_drewN | apply below_drew1) | exact HB.out)) hb); have n1_ := Aside0.mk (hbox); have n2_ := Aside0.mk ((by rw [hg]; exact (below_size (by repeat (first | (with_reducible first | exact HB.out | apply below_alloc | apply pw_below_drewN | apply below_drew1) | exact HB.out))) : w.heap.size ≤ gb172)); have n3_ := Aside0.mk ((by rw [hg]; exact (below_size (by repeat (first | (with_reducible first | exact HB.out | apply below_alloc | apply pw_below_drewN | apply below_drew1) | exact HB.out))) : w.heap.size ≤ gb172)); clear HB; have HB := n0_; have BK172 := n1_; have GW172 := n2_; have GE172 := n3_; clear n0_ n1_ n2_ n3_; clear hb hbox hg; have hcz18_0 : w17.cell? ⟨gb172, 0, none⟩ = some (.int .u32 a0_0) := (blk_cell BK172.out 0).trans rfl; have hcz18_1 : w17.cell? ⟨gb172, 1, none⟩ = some (.int .i64 a0_1) := (blk_cell BK172.out 1).trans rfl; have hcz18_2 : w17.cell? ⟨gb172, 2, none⟩ = some (.slice A0_2 l0_2.length c0_2) := (blk_cell BK172.out 2).trans rfl; have hcz18_3 : w17.cell? ⟨gb172, 3, none⟩ = some (.int .i64 a0_3) := (blk_cell BK172.out 3).trans rfl; have hcz18_4 : w17.cell? ⟨gb172, 4, none⟩ = some (.int .i64 a0_4) := (blk_cell BK172.out 4).trans rfl; have hcz18_5 : w17.cell? ⟨gb172, 5, none⟩ = some (.int .i64 a0_5) := (blk_cell BK172.out 5).trans rfl; have hcz18_6 : w17.cell? ⟨gb172, 6, none⟩ = some (.int .i64 a0_6) := (blk_cell BK172.out 6).trans rfl; have hfz18_0 := blk_frozen BK172.out 0; have hfz18_1 := blk_frozen BK172.out 1; have hfz18_2 := blk_frozen BK172.out 2; have hfz18_3 := blk_frozen BK172.out 3; have hfz18_4 := blk_frozen BK172.out 4; have hfz18_5 := blk_frozen BK172.out 5; have hfz18_6 := blk_frozen BK172.out 6) | ((with_reducible refine gate_callee (f := 25) rfl ?_); refine goesL_ (some 12) rfl rfl Tryd.func25 (by kernel_rfl) rfl #[.agg #[.int .u32 a0_0, .int .i64 a0_1], .int .u32 a1] rfl (by (try simp only [List.map_toArray, List.map_cons, List.map_nil]); first | done | rfl | (simp only [List.length_drop, List.length_take]; rfl)) ?_; (with_reducible refine (lodgerref05_Offset.calls k a0_0 a0_1 a1 t173 t174 _ A3.out).mono ?_); rintro e w19 ⟨rfl, hb⟩; refine ⟨_, rfl, ?_⟩; have n0_ := Aside0.mk (blk_below (g := gb172) (o := .cells #[.int .u32 a0_0, .int .i64 a0_1, .slice A0_2 l0_2.length c0_2, .int .i64 a0_3, .int .i64 a0_4, .int .i64 a0_5, .int .i64 a0_6] 27 (0, 0)) (by (with_reducible repeat (first | refine blk_drewN ?_ _ | refine blk_drew ?_ | refine blk_alloc ?_ _)); exact BK172.out) hb); have n1_ := Aside0.mk (below_step (by repeat (first | (with_reducible first | exact HB.out | apply below_alloc | apply pw_below_drewN | apply below_drew1 | refine below_set ?_ GE172.out) | exact HB.out)) hb); clear BK172; clear HB; have BK172 := n0_; have HB := n1_; clear n0_ n1_; (try clear hb); (try clear hb2); (try clear hk); (try clear hi)))
  go_ret2
  exact ⟨by first | rfl | (simp [errW_none, errW_some] <;> rfl) | (simp [*, errW_none, errW_some] <;> rfl), by repeat (first | (with_reducible first | exact HB.out | apply below_alloc | apply pw_below_drewN | apply below_drew1 | refine below_set ?_ GE172.out) | exact HB.out)⟩

end Go.Proofs.YthfcgjmffjmplaaDoor.PAskFirst
