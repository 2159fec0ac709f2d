/- The walk of ShardParts, part of it: what the Go functions answer; no condition. -/
import Derived.Test.YteieippmopfnaaaQShardPartsx0
namespace Go.Proofs.Yteieippmopfnaaa.PShardParts
open Go.RowKit Go.Proofs.YteieippmopfnaaaW.PrintWords Go.Proofs.YteieippmopfnaaaW.PrintLast Go.Proofs.YteieippmopfnaaaW.PrintMore
attribute [local go_sem] max2_int min2_int max_two min_two max_three min_three max_four min_four   -- for this text's walks alone
set_option linter.unusedVariables false
set_option linter.unusedSimpArgs false

/-! ### lodgerref06_Leaves: function 21 -/
def lodgerref06_Leaves.l0 : Nat → Int → Int → Option (Int)
  | 0, _, _ => none
  | k + 1, x0, x3 => if (wrap64 (32 * x3)) < x0 then (lodgerref06_Leaves.l0 k x0 (wrap64 (x3 + 1))) else (some x3)
def lodgerref06_Leaves.f (k : Nat) (a0 : Int) : Option (Int) := lodgerref06_Leaves.l0 k a0 0
theorem lodgerref06_Leaves.mono_l : ∀ k, (∀ y0 y1, LeO (lodgerref06_Leaves.l0 k y0 y1) (lodgerref06_Leaves.l0 (k + 1) y0 y1))
  | 0 => fun _ _ r h => by simp [lodgerref06_Leaves.l0] at h
  | k + 1 => by
    have ih0 := lodgerref06_Leaves.mono_l k
    · intro y0 y1
      unfold lodgerref06_Leaves.l0
      repeat' first
      | (with_reducible exact ih0 _ _)
      | (with_reducible exact LeO.refl _)
      | (with_reducible exact LeO.none _)
      | (with_reducible refine LeO.ite ?_ ?_)
      | (with_reducible refine LeO.bind ?_ (fun _ => ?_))
      | exact ih0 _ _
      | exact LeO.none _
      | refine LeO.ite ?_ ?_
      | refine LeO.bind ?_ (fun _ => ?_)
theorem lodgerref06_Leaves.mono : ∀ a0 k, LeO (lodgerref06_Leaves.f k a0) (lodgerref06_Leaves.f (k + 1) a0) := by
  intro a0 k
  have ih0 := lodgerref06_Leaves.mono_l k
  unfold lodgerref06_Leaves.f
  repeat' first
      | (with_reducible exact ih0 _ _)
      | (with_reducible exact LeO.refl _)
      | (with_reducible exact LeO.none _)
      | (with_reducible refine LeO.ite ?_ ?_)
      | (with_reducible refine LeO.bind ?_ (fun _ => ?_))
      | exact ih0 _ _
      | exact LeO.none _
      | refine LeO.ite ?_ ?_
      | refine LeO.bind ?_ (fun _ => ?_)
set_option maxHeartbeats 8000000 in
set_option maxRecDepth 100000 in
theorem lodgerref06_Leaves.calls (k : Nat) (a0 : Int) (r : Int) (w : World) (h : lodgerref06_Leaves.f k a0 = some r) :
    Calls Try.prog 21 #[.int .i64 a0] w fun e w' => e = .returned (.int .i64 r) ∧ Drawn0 w w' := by
  have H : (lodgerref06_Leaves.l0 k a0 0) = some r := h
  clear h
  have H' := Aside0.mk H
  clear H
  go_enter Try.func21, Try.ntmps21
  go_wp2
  go_loopg [3] k (fun kq v3 w' => ∃ (x3_1 : Int), v3 = .int .i64 x3_1 ∧ Aside0 (lodgerref06_Leaves.l0 kq a0 x3_1 = some r) ∧ Aside0 (kq ≤ k) ∧ Drawn0 w w')
  case atStart => exact ⟨(0), (by first | rfl | (simp; done) | (simp [*]; done)), H', ⟨Nat.le_refl _⟩, by repeat (first | exact Drawn0.refl _ | apply Drawn0.step)⟩
  case round =>
    clear H'
    obtain ⟨x3_1, rfl, HA, HK1, ⟨m1, rfl⟩⟩ := hrel
    cases gk with
    | zero => exact absurd HA.out (by simp [lodgerref06_Leaves.l0])
    | succ k1 =>
      have H := HA.out
      clear HA
      simp only [lodgerref06_Leaves.l0] at H
      by_cases c2 : (wrap64 (32 * x3_1)) < a0
      · rw [if_pos c2] at H
        have c2b0 : decide ((wrap64 (32 * x3_1)) < a0) = true := decide_eq_true c2
        clear c2
        have H' := Aside0.mk H
        clear H
        go_wp2
        go_roundg k1
        case measure => have := HK1.out; omega
        case rel => exact ⟨(wrap64 (x3_1 + 1)), (by first | rfl | (simp; done) | (simp [*]; done)), H', ⟨by have := HK1.out; omega⟩, by repeat (first | exact Drawn0.refl _ | apply Drawn0.step)⟩
      · rw [if_neg c2] at H
        have c2b0 : decide ((wrap64 (32 * x3_1)) < a0) = false := decide_eq_false c2
        clear c2
        obtain rfl := Option.some.inj H
        go_wp2
        go_ret
        exact ⟨by first | rfl | (simp; done) | (simp [*]; done), by repeat (first | exact Drawn0.refl _ | apply Drawn0.step)⟩

/-! ### shard_Home: function 42 -/
def shard_Home.f (a0 : Int) (a1 : Int) : Option (Int) := if a0 = 0 then (none) else (some (Int.tmod a1 a0))
set_option maxHeartbeats 8000000 in
set_option maxRecDepth 100000 in
theorem shard_Home.calls (a0 : Int) (a1 : Int) (r : Int) (w : World) (h : shard_Home.f a0 a1 = some r) :
    Calls Try.prog 42 #[.int .i64 a0, .int .i64 a1] w fun e w' => e = .returned (.int .i64 r) ∧ Drawn0 w w' := by
  have H : (if a0 = 0 then (none) else (some (Int.tmod a1 a0))) = some r := h
  clear h
  by_cases c3 : a0 = 0
  · rw [if_pos c3] at H
    exact absurd H (by simp)
  · rw [if_neg c3] at H
    have c3b0 : (a0 == 0) = false := beq_eq_false_iff_ne.mpr c3
    have c3b1 : (a0 != 0) = true := bne_iff_ne.mpr c3
    obtain rfl := Option.some.inj H
    go_enter Try.func42, Try.ntmps42
    go_wp2
    go_ret
    exact ⟨by first | rfl | (simp; done) | (simp [*]; done), by repeat (first | exact Drawn0.refl _ | apply Drawn0.step)⟩

/-! ### shard_From: function 43 -/
def shard_From.f (a0 : Int) (a1 : Int) (a2 : Int) : Option (Int) := if a0 = 0 then (none) else (some (Int.tmod (wrap64 (a1 + a2)) a0))
set_option maxHeartbeats 8000000 in
set_option maxRecDepth 100000 in
theorem shard_From.calls (a0 : Int) (a1 : Int) (a2 : Int) (r : Int) (w : World) (h : shard_From.f a0 a1 a2 = some r) :
    Calls Try.prog 43 #[.int .i64 a0, .int .i64 a1, .int .i64 a2] w fun e w' => e = .returned (.int .i64 r) ∧ Drawn0 w w' := by
  have H : (if a0 = 0 then (none) else (some (Int.tmod (wrap64 (a1 + a2)) a0))) = some r := h
  clear h
  by_cases c4 : a0 = 0
  · rw [if_pos c4] at H
    exact absurd H (by simp)
  · rw [if_neg c4] at H
    have c4b0 : (a0 == 0) = false := beq_eq_false_iff_ne.mpr c4
    have c4b1 : (a0 != 0) = true := bne_iff_ne.mpr c4
    obtain rfl := Option.some.inj H
    go_enter Try.func43, Try.ntmps43
    go_wp2
    go_ret
    exact ⟨by first | rfl | (simp; done) | (simp [*]; done), by repeat (first | exact Drawn0.refl _ | apply Drawn0.step)⟩

/-! ### place_up_int: function 46 -/
def place_up_int.f (a0 : Int) (a1 : Int) : Option (Int) := if a1 = 0 then (none) else (some (wrap64 (Int.tdiv (wrap64 ((wrap64 (a0 + a1)) - 1)) a1)))
set_option maxHeartbeats 8000000 in
set_option maxRecDepth 100000 in
theorem place_up_int.calls (a0 : Int) (a1 : Int) (r : Int) (w : World) (h : place_up_int.f a0 a1 = some r) :
    Calls Try.prog 46 #[.int .i64 a0, .int .i64 a1] w fun e w' => e = .returned (.int .i64 r) ∧ Drawn0 w w' := by
  have H : (if a1 = 0 then (none) else (some (wrap64 (Int.tdiv (wrap64 ((wrap64 (a0 + a1)) - 1)) a1)))) = some r := h
  clear h
  by_cases c3 : a1 = 0
  · rw [if_pos c3] at H
    exact absurd H (by simp)
  · rw [if_neg c3] at H
    have c3b0 : (a1 == 0) = false := beq_eq_false_iff_ne.mpr c3
    have c3b1 : (a1 != 0) = true := bne_iff_ne.mpr c3
    obtain rfl := Option.some.inj H
    go_enter Try.func46, Try.ntmps46
    go_wp2
    go_ret
    exact ⟨by first | rfl | (simp; done) | (simp [*]; done), by repeat (first | exact Drawn0.refl _ | apply Drawn0.step)⟩

/-! ### place_Leaves: function 20 -/
def place_Leaves.f (a0 : Int) : Option (Int) := (place_up_int.f a0 32).bind fun t101 => (some t101)
set_option maxHeartbeats 8000000 in
set_option maxRecDepth 100000 in
theorem place_Leaves.calls (a0 : Int) (r : Int) (w : World) (h : place_Leaves.f a0 = some r) :
    Calls Try.prog 20 #[.int .i64 a0] w fun e w' => e = .returned (.int .i64 r) ∧ Drawn0 w w' := by
  have H : ((place_up_int.f a0 32).bind fun t101 => (some t101)) = some r := h
  clear h
  replace H := Option.bind_eq_some_iff.mp H
  obtain ⟨t101, A20, H⟩ := H
  replace H : (some t101) = some r := H
  have A2 := Aside0.mk A20
  clear A20
  obtain rfl := Option.some.inj H
  go_enter Try.func20, Try.ntmps20
  go_wp2_with (first | ((with_reducible refine gate_callee (f := 46) rfl ?_); refine goesL_ (some 4) rfl rfl Try.func46 (by kernel_rfl) rfl #[.int .i64 a0, .int .i64 32] rfl (by (try simp only [List.map_toArray, List.map_cons, List.map_nil]); first | done | rfl | (simp only [List.length_drop, List.length_take]; rfl)) ?_; (with_reducible refine (place_up_int.calls a0 32 t101 _ A2.out).mono ?_); rintro e w' ⟨rfl, ⟨nd, rfl⟩⟩; refine ⟨_, rfl, ?_⟩) | (go_at_call 46; (with_reducible refine (place_up_int.calls a0 32 t101 _ A2.out).mono ?_); rintro e w' ⟨rfl, ⟨nd, rfl⟩⟩))
  go_ret
  exact ⟨by first | rfl | (simp; done) | (simp [*]; done), by repeat (first | exact Drawn0.refl _ | apply Drawn0.step)⟩

/-! ### shard_Range: function 44 -/
def shard_Range.f (a0 : Int) (a1 : Int) (a2 : Int) : Option (Int × Int) := (place_Leaves.f a0).bind fun t102 => (if a1 = 0 then (none) else (some (wrap64 (Int.tdiv (wrap64 (a2 * t102)) a1), wrap64 (Int.tdiv (wrap64 ((wrap64 (a2 + 1)) * t102)) a1))))
set_option maxHeartbeats 8000000 in
set_option maxRecDepth 100000 in
theorem shard_Range.calls (a0 : Int) (a1 : Int) (a2 : Int) (r1 : Int) (r2 : Int) (w : World) (h : shard_Range.f a0 a1 a2 = some (r1, r2)) :
    Calls Try.prog 44 #[.int .i64 a0, .int .i64 a1, .int .i64 a2] w fun e w' => e = .returned (.tuple #[.int .i64 r1, .int .i64 r2]) ∧ Drawn0 w w' := by
  have H : ((place_Leaves.f a0).bind fun t102 => (if a1 = 0 then (none) else (some (wrap64 (Int.tdiv (wrap64 (a2 * t102)) a1), wrap64 (Int.tdiv (wrap64 ((wrap64 (a2 + 1)) * t102)) a1))))) = some (r1, r2) := h
  clear h
  replace H := Option.bind_eq_some_iff.mp H
  obtain ⟨t102, A40, H⟩ := H
  replace H : (if a1 = 0 then (none) else (some (wrap64 (Int.tdiv (wrap64 (a2 * t102)) a1), wrap64 (Int.tdiv (wrap64 ((wrap64 (a2 + 1)) * t102)) a1)))) = some (r1, r2) := H
  have A4 := Aside0.mk A40
  clear A40
  by_cases c5 : a1 = 0
  · rw [if_pos c5] at H
    exact absurd H (by simp)
  · rw [if_neg c5] at H
    have c5b0 : (a1 == 0) = false := beq_eq_false_iff_ne.mpr c5
    have c5b1 : (a1 != 0) = true := bne_iff_ne.mpr c5
    simp only [Option.some.injEq, Prod.mk.injEq] at H
    obtain ⟨rfl, rfl⟩ := H
    go_enter Try.func44, Try.ntmps44
    go_wp2_with (first | (go_at_call 20; (with_reducible refine (place_Leaves.calls a0 t102 _ A4.out).mono ?_); rintro e w' ⟨rfl, ⟨nd, rfl⟩⟩; (try first | exact ⟨rfl, _, World.drewN_drewN _ _ _⟩ | exact ⟨rfl, _, Eq.trans (World.drewN_drewN _ _ _) (congrArg (World.drewN _) (Nat.add_assoc _ _ _))⟩)))
    repeat (go_quiet (first | (go_at_call 20; (with_reducible refine (place_Leaves.calls a0 t102 _ A4.out).mono ?_); rintro e w' ⟨rfl, ⟨nd, rfl⟩⟩; (try first | exact ⟨rfl, _, World.drewN_drewN _ _ _⟩ | exact ⟨rfl, _, Eq.trans (World.drewN_drewN _ _ _) (congrArg (World.drewN _) (Nat.add_assoc _ _ _))⟩))); try go_wp2_with (first | (go_at_call 20; (with_reducible refine (place_Leaves.calls a0 t102 _ A4.out).mono ?_); rintro e w' ⟨rfl, ⟨nd, rfl⟩⟩; (try first | exact ⟨rfl, _, World.drewN_drewN _ _ _⟩ | exact ⟨rfl, _, Eq.trans (World.drewN_drewN _ _ _) (congrArg (World.drewN _) (Nat.add_assoc _ _ _))⟩))))
    go_ret2
    exact ⟨by first | rfl | (simp; done) | (simp [*]; done), by repeat (first | exact Drawn0.refl _ | apply Drawn0.step)⟩

/-! ### shard_span_int_has: function 48 -/
def shard_span_int_has.f (a0_0 : Int) (a0_1 : Int) (a1 : Int) : Option (Bool) := if a1 ≥ a0_0 then (some (decide (a1 < a0_1))) else (some false)
set_option maxHeartbeats 8000000 in
set_option maxRecDepth 100000 in
theorem shard_span_int_has.calls (a0_0 : Int) (a0_1 : Int) (a1 : Int) (r : Bool) (w : World) (h : shard_span_int_has.f a0_0 a0_1 a1 = some r) :
    Calls Try.prog 48 #[.agg #[.int .i64 a0_0, .int .i64 a0_1], .int .i64 a1] w fun e w' => e = .returned (.bool r) ∧ Below w.heap.size w w' := by
  have hu47 := Try.underlying47
  have HB := Aside0.mk (Below.refl w.heap.size w)
  have H : (if a1 ≥ a0_0 then (some (decide (a1 < a0_1))) else (some false)) = some r := h
  clear h
  by_cases c3 : a1 ≥ a0_0
  · rw [if_pos c3] at H
    have c3b0 : decide (a0_0 ≤ a1) = true := decide_eq_true c3
    clear c3
    obtain rfl := Option.some.inj H
    go_enter Try.func48, Try.ntmps48
    go_wp2_with (first | ((with_reducible refine gate_dst (N := 2) rfl ?_); refine box_event ?hg (N := 2) ?hd (cs := #[.int .i64 a0_0, .int .i64 a0_1]) (t := 47) ?hr ?_; (case hd => rfl); (case hg => rfl); (case hr => first | (go_simp; done) | (go_simp; rfl)); intro gb103 hg w4 hbox hb; have n0_ := Aside0.mk (below_step (by repeat (first | (with_reducible first | exact HB.out | apply below_alloc | apply pw_below_drewN | apply below_drew1) | exact HB.out)) hb); have n1_ := Aside0.mk (hbox); have n2_ := Aside0.mk ((by rw [hg]; exact (below_size (by repeat (first | (with_reducible first | exact HB.out | apply below_alloc | apply pw_below_drewN | apply below_drew1) | exact HB.out))) : w.heap.size ≤ gb103)); have n3_ := Aside0.mk ((by rw [hg]; exact (below_size (by repeat (first | (with_reducible first | exact HB.out | apply below_alloc | apply pw_below_drewN | apply below_drew1) | exact HB.out))) : w.heap.size ≤ gb103)); clear HB; have HB := n0_; have BK103 := n1_; have GW103 := n2_; have GE103 := n3_; clear n0_ n1_ n2_ n3_; clear hb hbox hg; have hcz5_0 : w4.cell? ⟨gb103, 0, none⟩ = some (.int .i64 a0_0) := (blk_cell BK103.out 0).trans rfl; have hcz5_1 : w4.cell? ⟨gb103, 1, none⟩ = some (.int .i64 a0_1) := (blk_cell BK103.out 1).trans rfl; have hfz5_0 := blk_frozen BK103.out 0; have hfz5_1 := blk_frozen BK103.out 1))
    go_ret
    exact ⟨by first | rfl | (simp [errW_none, errW_some] <;> rfl) | (simp [*, errW_none, errW_some] <;> rfl), by repeat (first | (with_reducible first | exact HB.out | apply below_alloc | apply pw_below_drewN | apply below_drew1 | refine below_set ?_ GE103.out) | exact HB.out)⟩
  · rw [if_neg c3] at H
    have c3b0 : decide (a0_0 ≤ a1) = false := decide_eq_false c3
    clear c3
    obtain rfl := Option.some.inj H
    go_enter Try.func48, Try.ntmps48
    go_wp2_with (first | ((with_reducible refine gate_dst (N := 2) rfl ?_); refine box_event ?hg (N := 2) ?hd (cs := #[.int .i64 a0_0, .int .i64 a0_1]) (t := 47) ?hr ?_; (case hd => rfl); (case hg => rfl); (case hr => first | (go_simp; done) | (go_simp; rfl)); intro gb103 hg w6 hbox hb; have n0_ := Aside0.mk (below_step (by repeat (first | (with_reducible first | exact HB.out | apply below_alloc | apply pw_below_drewN | apply below_drew1) | exact HB.out)) hb); have n1_ := Aside0.mk (hbox); have n2_ := Aside0.mk ((by rw [hg]; exact (below_size (by repeat (first | (with_reducible first | exact HB.out | apply below_alloc | apply pw_below_drewN | apply below_drew1) | exact HB.out))) : w.heap.size ≤ gb103)); have n3_ := Aside0.mk ((by rw [hg]; exact (below_size (by repeat (first | (with_reducible first | exact HB.out | apply below_alloc | apply pw_below_drewN | apply below_drew1) | exact HB.out))) : w.heap.size ≤ gb103)); clear HB; have HB := n0_; have BK103 := n1_; have GW103 := n2_; have GE103 := n3_; clear n0_ n1_ n2_ n3_; clear hb hbox hg; have hcz7_0 : w6.cell? ⟨gb103, 0, none⟩ = some (.int .i64 a0_0) := (blk_cell BK103.out 0).trans rfl; have hcz7_1 : w6.cell? ⟨gb103, 1, none⟩ = some (.int .i64 a0_1) := (blk_cell BK103.out 1).trans rfl; have hfz7_0 := blk_frozen BK103.out 0; have hfz7_1 := blk_frozen BK103.out 1))
    go_ret
    exact ⟨by first | rfl | (simp [errW_none, errW_some] <;> rfl) | (simp [*, errW_none, errW_some] <;> rfl), by repeat (first | (with_reducible first | exact HB.out | apply below_alloc | apply pw_below_drewN | apply below_drew1 | refine below_set ?_ GE103.out) | exact HB.out)⟩

/-! ### shard_Of: function 45 -/
def shard_Of.l0 : Nat → Int → Int → Int → Int → Int → Int → Option (Int)
  | 0, _, _, _, _, _, _ => none
  | k + 1, x0, x1, x2, x7, x11, x12 => if x12 < x11 then ((shard_Range.f x0 x1 x12).bind fun bt104 => ((shard_span_int_has.f bt104.1 bt104.2 x2).bind fun t106 => (if t106 = true then (some x12) else (shard_Of.l0 k x0 x1 x2 x7 x11 (wrap64 (x12 + 1)))))) else (some x7)
def shard_Of.f (k : Nat) (a0 : Int) (a1 : Int) (a2 : Int) : Option (Int) := shard_Of.l0 k a0 a1 a2 0 a1 0
theorem shard_Of.mono_l : ∀ k, (∀ y0 y1 y2 y3 y4 y5, LeO (shard_Of.l0 k y0 y1 y2 y3 y4 y5) (shard_Of.l0 (k + 1) y0 y1 y2 y3 y4 y5))
  | 0 => fun _ _ _ _ _ _ r h => by simp [shard_Of.l0] at h
  | k + 1 => by
    have ih0 := shard_Of.mono_l k
    · intro y0 y1 y2 y3 y4 y5
      unfold shard_Of.l0
      repeat' first
      | (with_reducible exact ih0 _ _ _ _ _ _)
      | (with_reducible exact LeO.refl _)
      | (with_reducible exact LeO.none _)
      | (with_reducible refine LeO.ite ?_ ?_)
      | (with_reducible refine LeO.bind ?_ (fun _ => ?_))
      | exact ih0 _ _ _ _ _ _
      | exact LeO.none _
      | refine LeO.ite ?_ ?_
      | refine LeO.bind ?_ (fun _ => ?_)
theorem shard_Of.mono : ∀ a0 a1 a2 k, LeO (shard_Of.f k a0 a1 a2) (shard_Of.f (k + 1) a0 a1 a2) := by
  intro a0 a1 a2 k
  have ih0 := shard_Of.mono_l k
  unfold shard_Of.f
  repeat' first
      | (with_reducible exact ih0 _ _ _ _ _ _)
      | (with_reducible exact LeO.refl _)
      | (with_reducible exact LeO.none _)
      | (with_reducible refine LeO.ite ?_ ?_)
      | (with_reducible refine LeO.bind ?_ (fun _ => ?_))
      | exact ih0 _ _ _ _ _ _
      | exact LeO.none _
      | refine LeO.ite ?_ ?_
      | refine LeO.bind ?_ (fun _ => ?_)
set_option maxHeartbeats 8000000 in
set_option maxRecDepth 100000 in
theorem shard_Of.calls (k : Nat) (a0 : Int) (a1 : Int) (a2 : Int) (r : Int) (w : World) (h : shard_Of.f k a0 a1 a2 = some r) :
    Calls Try.prog 45 #[.int .i64 a0, .int .i64 a1, .int .i64 a2] w fun e w' => e = .returned (.int .i64 r) ∧ Below w.heap.size w w' := by
  have hu47 := Try.underlying47
  have HB := Aside0.mk (Below.refl w.heap.size w)
  have H : (shard_Of.l0 k a0 a1 a2 0 a1 0) = some r := h
  clear h
  have H' := Aside0.mk H
  clear H
  go_enter Try.func45, Try.ntmps45
  go_wp2
  go_step3
  go_wp2
  go_step3
  go_wp2
  go_loopg [7, 12] k (fun kq v7 v12 w' => ∃ (x7_1 : Int) (x12_1 : Int), v7 = .int .i64 x7_1 ∧ v12 = .int .i64 x12_1 ∧ Aside0 (shard_Of.l0 kq a0 a1 a2 x7_1 a1 x12_1 = some r) ∧ Aside0 (kq ≤ k) ∧ Aside0 (Below w.heap.size w w'))
  case atStart => exact ⟨(0), (0), (by first | rfl | (simp; done) | (simp [*]; done)), (by first | rfl | (simp; done) | (simp [*]; done)), H', ⟨Nat.le_refl _⟩, ⟨by repeat (first | (with_reducible first | exact HB.out | apply below_alloc | apply pw_below_drewN | apply below_drew1) | exact HB.out)⟩⟩
  case round =>
    clear H'
    try clear p2
    try clear p3
    obtain ⟨x7_1, x12_1, rfl, rfl, HA, HK1, HB⟩ := hrel
    cases gk with
    | zero => exact absurd HA.out (by simp [shard_Of.l0])
    | succ k1 =>
      have H := HA.out
      clear HA
      simp only [shard_Of.l0] at H
      by_cases c4 : x12_1 < a1
      · rw [if_pos c4] at H
        have c4b0 : decide (x12_1 < a1) = true := decide_eq_true c4
        clear c4
        replace H := Option.bind_eq_some_iff.mp H
        obtain ⟨⟨t104, t105⟩, A50, H⟩ := H
        replace H : ((shard_span_int_has.f t104 t105 a2).bind fun t106 => (if t106 = true then (some x12_1) else (shard_Of.l0 k1 a0 a1 a2 x7_1 a1 (wrap64 (x12_1 + 1))))) = some r := H
        have A5 := Aside0.mk A50
        clear A50
        replace H := Option.bind_eq_some_iff.mp H
        obtain ⟨t106, A60, H⟩ := H
        replace H : (if t106 = true then (some x12_1) else (shard_Of.l0 k1 a0 a1 a2 x7_1 a1 (wrap64 (x12_1 + 1)))) = some r := H
        have A6 := Aside0.mk A60
        clear A60
        by_cases c7 : t106 = true
        · subst c7
          have H1 : (some x12_1) = some r := by rw [if_pos rfl] at H; exact H
          clear H
          have H := H1
          clear H1
          obtain rfl := Option.some.inj H
          go_wp2_with (first | ((with_reducible refine gate_callee (f := 44) rfl ?_); refine goesL_ (some 19) rfl rfl Try.func44 (by kernel_rfl) rfl #[.int .i64 a0, .int .i64 a1, .int .i64 x12_1] rfl (by (try simp only [List.map_toArray, List.map_cons, List.map_nil]); first | done | rfl | (simp only [List.length_drop, List.length_take]; rfl)) ?_; (with_reducible refine (shard_Range.calls a0 a1 x12_1 t104 t105 _ A5.out).mono ?_); rintro e w' ⟨rfl, ⟨nd, rfl⟩⟩; refine ⟨_, rfl, ?_⟩) | ((with_reducible refine gate_callee (f := 48) rfl ?_); refine goesL_ (some 26) rfl rfl Try.func48 (by kernel_rfl) rfl #[.agg #[.int .i64 t104, .int .i64 t105], .int .i64 a2] rfl (by (try simp only [List.map_toArray, List.map_cons, List.map_nil]); first | done | rfl | (simp only [List.length_drop, List.length_take]; rfl)) ?_; (with_reducible refine (shard_span_int_has.calls t104 t105 a2 true _ A6.out).mono ?_); rintro e w8 ⟨rfl, hb⟩; refine ⟨_, rfl, ?_⟩; have n0_ := Aside0.mk (below_step (by repeat (first | (with_reducible first | exact HB.out | apply below_alloc | apply pw_below_drewN | apply below_drew1) | exact HB.out)) hb); clear HB; have HB := n0_; clear n0_; (try clear hb); (try clear hb2); (try clear hk); (try clear hi)) | (go_at_call 44; (with_reducible refine (shard_Range.calls a0 a1 x12_1 t104 t105 _ A5.out).mono ?_); rintro e w' ⟨rfl, ⟨nd, rfl⟩⟩))
          go_ret
          exact ⟨by first | rfl | (simp [errW_none, errW_some] <;> rfl) | (simp [*, errW_none, errW_some] <;> rfl), by repeat (first | (with_reducible first | exact HB.out | apply below_alloc | apply pw_below_drewN | apply below_drew1) | exact HB.out)⟩
        · replace c7 := Bool.eq_false_iff.mpr c7
          subst c7
          have H1 : (shard_Of.l0 k1 a0 a1 a2 x7_1 a1 (wrap64 (x12_1 + 1))) = some r := by rw [if_neg (show ¬ (false = true) by decide)] at H; exact H
          clear H
          have H := H1
          clear H1
          have H' := Aside0.mk H
          clear H
          go_wp2_with (first | ((with_reducible refine gate_callee (f := 44) rfl ?_); refine goesL_ (some 19) rfl rfl Try.func44 (by kernel_rfl) rfl #[.int .i64 a0, .int .i64 a1, .int .i64 x12_1] rfl (by (try simp only [List.map_toArray, List.map_cons, List.map_nil]); first | done | rfl | (simp only [List.length_drop, List.length_take]; rfl)) ?_; (with_reducible refine (shard_Range.calls a0 a1 x12_1 t104 t105 _ A5.out).mono ?_); rintro e w' ⟨rfl, ⟨nd, rfl⟩⟩; refine ⟨_, rfl, ?_⟩) | ((with_reducible refine gate_callee (f := 48) rfl ?_); refine goesL_ (some 26) rfl rfl Try.func48 (by kernel_rfl) rfl #[.agg #[.int .i64 t104, .int .i64 t105], .int .i64 a2] rfl (by (try simp only [List.map_toArray, List.map_cons, List.map_nil]); first | done | rfl | (simp only [List.length_drop, List.length_take]; rfl)) ?_; (with_reducible refine (shard_span_int_has.calls t104 t105 a2 false _ A6.out).mono ?_); rintro e w9 ⟨rfl, hb⟩; refine ⟨_, rfl, ?_⟩; have n0_ := Aside0.mk (below_step (by repeat (first | (with_reducible first | exact HB.out | apply below_alloc | apply pw_below_drewN | apply below_drew1) | exact HB.out)) hb); clear HB; have HB := n0_; clear n0_; (try clear hb); (try clear hb2); (try clear hk); (try clear hi)) | (go_at_call 44; (with_reducible refine (shard_Range.calls a0 a1 x12_1 t104 t105 _ A5.out).mono ?_); rintro e w' ⟨rfl, ⟨nd, rfl⟩⟩))
          go_roundg k1
          case measure => have := HK1.out; omega
          case rel => exact ⟨(x7_1), (wrap64 (x12_1 + 1)), (by first | rfl | (simp; done) | (simp [*]; done)), (by first | rfl | (simp; done) | (simp [*]; done)), H', ⟨by have := HK1.out; omega⟩, ⟨by repeat (first | (with_reducible first | exact HB.out | apply below_alloc | apply pw_below_drewN | apply below_drew1) | exact HB.out)⟩⟩
      · rw [if_neg c4] at H
        have c4b0 : decide (x12_1 < a1) = false := decide_eq_false c4
        clear c4
        obtain rfl := Option.some.inj H
        go_wp2
        go_ret
        exact ⟨by first | rfl | (simp [errW_none, errW_some] <;> rfl) | (simp [*, errW_none, errW_some] <;> rfl), by repeat (first | (with_reducible first | exact HB.out | apply below_alloc | apply pw_below_drewN | apply below_drew1) | exact HB.out)⟩

/-! ### lodgerlaw12_awake: function 41 -/
def lodgerlaw12_awake.f (k : Nat)  : Option (Bool) := (shard_Range.f 96 2 0).bind fun bt107 => ((shard_Range.f 96 2 1).bind fun bt109 => ((shard_Range.f 1 64 3).bind fun bt111 => (if bt107.1 = 0 then (if bt107.2 = 1 then (if bt109.1 = 1 then (if bt109.2 = 3 then (if bt111.1 = bt111.2 then ((shard_Of.f k 96 2 2).bind fun t113 => (if t113 = 1 then ((shard_Of.f k 1 64 0).bind fun t114 => (if t114 = 63 then ((shard_Home.f 4 9).bind fun t115 => (if t115 = 1 then ((shard_From.f 4 3 2).bind fun t116 => (some (t116 == 1))) else (some false))) else (some false))) else (some false))) else (some false)) else (some false)) else (some false)) else (some false)) else (some false))))
theorem lodgerlaw12_awake.mono : ∀ k, LeO (lodgerlaw12_awake.f k ) (lodgerlaw12_awake.f (k + 1) ) := by
  intro  k
  unfold lodgerlaw12_awake.f
  repeat' first
      | (with_reducible exact shard_Of.mono _ _ _ _)
      | (with_reducible exact LeO.refl _)
      | (with_reducible exact LeO.none _)
      | (with_reducible refine LeO.ite ?_ ?_)
      | (with_reducible refine LeO.bind ?_ (fun _ => ?_))
      | exact shard_Of.mono _ _ _ _
      | exact LeO.none _
      | refine LeO.ite ?_ ?_
      | refine LeO.bind ?_ (fun _ => ?_)
set_option maxHeartbeats 8000000 in
set_option maxRecDepth 100000 in
theorem lodgerlaw12_awake.only {k : Nat} {r : Bool} (h : lodgerlaw12_awake.f k = some r) : r = true := by
  have e : lodgerlaw12_awake.f 500 = some true := by decide +kernel
  have h1 := at_rounds lodgerlaw12_awake.mono (Nat.le_max_left k 500) h
  rw [at_rounds lodgerlaw12_awake.mono (Nat.le_max_right k 500) e] at h1
  exact (Option.some.inj h1).symm
theorem lodgerlaw12_awake.calls (k : Nat)  (r : Bool) (w : World) (h : lodgerlaw12_awake.f k  = some r) :
    Calls Try.prog 41 #[] w fun e w' => e = .returned (.bool r) ∧ Below w.heap.size w w' := by
  have HB := Aside0.mk (Below.refl w.heap.size w)
  have hr_ := Aside0.mk (lodgerlaw12_awake.only h)
  have H : ((shard_Range.f 96 2 0).bind fun bt107 => ((shard_Range.f 96 2 1).bind fun bt109 => ((shard_Range.f 1 64 3).bind fun bt111 => (if bt107.1 = 0 then (if bt107.2 = 1 then (if bt109.1 = 1 then (if bt109.2 = 3 then (if bt111.1 = bt111.2 then ((shard_Of.f k 96 2 2).bind fun t113 => (if t113 = 1 then ((shard_Of.f k 1 64 0).bind fun t114 => (if t114 = 63 then ((shard_Home.f 4 9).bind fun t115 => (if t115 = 1 then ((shard_From.f 4 3 2).bind fun t116 => (some (t116 == 1))) else (some false))) else (some false))) else (some false))) else (some false)) else (some false)) else (some false)) else (some false)) else (some false))))) = some r := h
  clear h
  replace H := Option.bind_eq_some_iff.mp H
  obtain ⟨⟨t107, t108⟩, A10, H⟩ := H
  replace H : ((shard_Range.f 96 2 1).bind fun bt109 => ((shard_Range.f 1 64 3).bind fun bt111 => (if t107 = 0 then (if t108 = 1 then (if bt109.1 = 1 then (if bt109.2 = 3 then (if bt111.1 = bt111.2 then ((shard_Of.f k 96 2 2).bind fun t113 => (if t113 = 1 then ((shard_Of.f k 1 64 0).bind fun t114 => (if t114 = 63 then ((shard_Home.f 4 9).bind fun t115 => (if t115 = 1 then ((shard_From.f 4 3 2).bind fun t116 => (some (t116 == 1))) else (some false))) else (some false))) else (some false))) else (some false)) else (some false)) else (some false)) else (some false)) else (some false)))) = some r := H
  have A1 := Aside0.mk A10
  clear A10
  replace H := Option.bind_eq_some_iff.mp H
  obtain ⟨⟨t109, t110⟩, A20, H⟩ := H
  replace H : ((shard_Range.f 1 64 3).bind fun bt111 => (if t107 = 0 then (if t108 = 1 then (if t109 = 1 then (if t110 = 3 then (if bt111.1 = bt111.2 then ((shard_Of.f k 96 2 2).bind fun t113 => (if t113 = 1 then ((shard_Of.f k 1 64 0).bind fun t114 => (if t114 = 63 then ((shard_Home.f 4 9).bind fun t115 => (if t115 = 1 then ((shard_From.f 4 3 2).bind fun t116 => (some (t116 == 1))) else (some false))) else (some false))) else (some false))) else (some false)) else (some false)) else (some false)) else (some false)) else (some false))) = some r := H
  have A2 := Aside0.mk A20
  clear A20
  replace H := Option.bind_eq_some_iff.mp H
  obtain ⟨⟨t111, t112⟩, A30, H⟩ := H
  replace H : (if t107 = 0 then (if t108 = 1 then (if t109 = 1 then (if t110 = 3 then (if t111 = t112 then ((shard_Of.f k 96 2 2).bind fun t113 => (if t113 = 1 then ((shard_Of.f k 1 64 0).bind fun t114 => (if t114 = 63 then ((shard_Home.f 4 9).bind fun t115 => (if t115 = 1 then ((shard_From.f 4 3 2).bind fun t116 => (some (t116 == 1))) else (some false))) else (some false))) else (some false))) else (some false)) else (some false)) else (some false)) else (some false)) else (some false)) = some r := H
  have A3 := Aside0.mk A30
  clear A30
  by_cases c4 : t107 = 0
  · rw [if_pos c4] at H
    have c4b0 : (t107 == 0) = true := beq_iff_eq.mpr c4
    have c4b1 : (t107 != 0) = false := bne_eq_false_iff_eq.mpr c4
    clear c4
    by_cases c5 : t108 = 1
    · rw [if_pos c5] at H
      have c5b0 : (t108 == 1) = true := beq_iff_eq.mpr c5
      have c5b1 : (t108 != 1) = false := bne_eq_false_iff_eq.mpr c5
      clear c5
      by_cases c6 : t109 = 1
      · rw [if_pos c6] at H
        have c6b0 : (t109 == 1) = true := beq_iff_eq.mpr c6
        have c6b1 : (t109 != 1) = false := bne_eq_false_iff_eq.mpr c6
        clear c6
        by_cases c7 : t110 = 3
        · rw [if_pos c7] at H
          have c7b0 : (t110 == 3) = true := beq_iff_eq.mpr c7
          have c7b1 : (t110 != 3) = false := bne_eq_false_iff_eq.mpr c7
          clear c7
          by_cases c8 : t111 = t112
          · rw [if_pos c8] at H
            have c8b0 : (t111 == t112) = true := beq_iff_eq.mpr c8
            have c8b1 : (t111 != t112) = false := bne_eq_false_iff_eq.mpr c8
            clear c8
            replace H := Option.bind_eq_some_iff.mp H
            obtain ⟨t113, A90, H⟩ := H
            replace H : (if t113 = 1 then ((shard_Of.f k 1 64 0).bind fun t114 => (if t114 = 63 then ((shard_Home.f 4 9).bind fun t115 => (if t115 = 1 then ((shard_From.f 4 3 2).bind fun t116 => (some (t116 == 1))) else (some false))) else (some false))) else (some false)) = some r := H
            have A9 := Aside0.mk A90
            clear A90
            by_cases c10 : t113 = 1
            · rw [if_pos c10] at H
              have c10b0 : (t113 == 1) = true := beq_iff_eq.mpr c10
              have c10b1 : (t113 != 1) = false := bne_eq_false_iff_eq.mpr c10
              clear c10
              replace H := Option.bind_eq_some_iff.mp H
              obtain ⟨t114, A110, H⟩ := H
              replace H : (if t114 = 63 then ((shard_Home.f 4 9).bind fun t115 => (if t115 = 1 then ((shard_From.f 4 3 2).bind fun t116 => (some (t116 == 1))) else (some false))) else (some false)) = some r := H
              have A11 := Aside0.mk A110
              clear A110
              by_cases c12 : t114 = 63
              · rw [if_pos c12] at H
                have c12b0 : (t114 == 63) = true := beq_iff_eq.mpr c12
                have c12b1 : (t114 != 63) = false := bne_eq_false_iff_eq.mpr c12
                clear c12
                replace H := Option.bind_eq_some_iff.mp H
                obtain ⟨t115, A130, H⟩ := H
                replace H : (if t115 = 1 then ((shard_From.f 4 3 2).bind fun t116 => (some (t116 == 1))) else (some false)) = some r := H
                have A13 := Aside0.mk A130
                clear A130
                by_cases c14 : t115 = 1
                · rw [if_pos c14] at H
                  have c14b0 : (t115 == 1) = true := beq_iff_eq.mpr c14
                  have c14b1 : (t115 != 1) = false := bne_eq_false_iff_eq.mpr c14
                  clear c14
                  replace H := Option.bind_eq_some_iff.mp H
                  obtain ⟨t116, A150, H⟩ := H
                  replace H : (some (t116 == 1)) = some r := H
                  have A15 := Aside0.mk A150
                  clear A150
                  first | (exfalso; rw [hr_.out] at H; exact absurd (Option.some.inj H) (by decide)) | (try clear hr_)
                  all_goals
                    obtain rfl := Option.some.inj H
                    go_enter Try.func41, Try.ntmps41
                    go_wp2_with (first | ((with_reducible refine gate_callee (f := 44) rfl ?_); refine goesL_ (some 8) rfl rfl Try.func44 (by kernel_rfl) rfl #[.int .i64 96, .int .i64 2, .int .i64 0] rfl (by (try simp only [List.map_toArray, List.map_cons, List.map_nil]); first | done | rfl | (simp only [List.length_drop, List.length_take]; rfl)) ?_; (with_reducible refine (shard_Range.calls 96 2 0 t107 t108 _ A1.out).mono ?_); rintro e w' ⟨rfl, ⟨nd, rfl⟩⟩; refine ⟨_, rfl, ?_⟩) | ((with_reducible refine gate_callee (f := 44) rfl ?_); refine goesL_ (some 12) rfl rfl Try.func44 (by kernel_rfl) rfl #[.int .i64 96, .int .i64 2, .int .i64 1] rfl (by (try simp only [List.map_toArray, List.map_cons, List.map_nil]); first | done | rfl | (simp only [List.length_drop, List.length_take]; rfl)) ?_; (with_reducible refine (shard_Range.calls 96 2 1 t109 t110 _ A2.out).mono ?_); rintro e w' ⟨rfl, ⟨nd, rfl⟩⟩; refine ⟨_, rfl, ?_⟩) | ((with_reducible refine gate_callee (f := 44) rfl ?_); refine goesL_ (some 16) rfl rfl Try.func44 (by kernel_rfl) rfl #[.int .i64 1, .int .i64 64, .int .i64 3] rfl (by (try simp only [List.map_toArray, List.map_cons, List.map_nil]); first | done | rfl | (simp only [List.length_drop, List.length_take]; rfl)) ?_; (with_reducible refine (shard_Range.calls 1 64 3 t111 t112 _ A3.out).mono ?_); rintro e w' ⟨rfl, ⟨nd, rfl⟩⟩; refine ⟨_, rfl, ?_⟩) | (go_at_call 45; (with_reducible refine (shard_Of.calls k 96 2 2 t113 _ A9.out).mono ?_); rintro e w16 ⟨rfl, hb⟩; have n0_ := Aside0.mk (below_step (by repeat (first | (with_reducible first | exact HB.out | apply below_alloc | apply pw_below_drewN | apply below_drew1) | exact HB.out)) hb); clear HB; have HB := n0_; clear n0_; (try clear hb); (try clear hb2); (try clear hk); (try clear hi)) | (go_at_call 45; (with_reducible refine (shard_Of.calls k 1 64 0 t114 _ A11.out).mono ?_); rintro e w17 ⟨rfl, hb⟩; have n0_ := Aside0.mk (below_step (by repeat (first | (with_reducible first | exact HB.out | apply below_alloc | apply pw_below_drewN | apply below_drew1) | exact HB.out)) hb); clear HB; have HB := n0_; clear n0_; (try clear hb); (try clear hb2); (try clear hk); (try clear hi)) | (go_at_call 42; (with_reducible refine (shard_Home.calls 4 9 t115 _ A13.out).mono ?_); rintro e w' ⟨rfl, ⟨nd, rfl⟩⟩) | (go_at_call 43; (with_reducible refine (shard_From.calls 4 3 2 t116 _ A15.out).mono ?_); rintro e w' ⟨rfl, ⟨nd, rfl⟩⟩) | (go_at_call 44; (with_reducible refine (shard_Range.calls 96 2 0 t107 t108 _ A1.out).mono ?_); rintro e w' ⟨rfl, ⟨nd, rfl⟩⟩) | (go_at_call 44; (with_reducible refine (shard_Range.calls 96 2 1 t109 t110 _ A2.out).mono ?_); rintro e w' ⟨rfl, ⟨nd, rfl⟩⟩) | (go_at_call 44; (with_reducible refine (shard_Range.calls 1 64 3 t111 t112 _ A3.out).mono ?_); rintro e w' ⟨rfl, ⟨nd, rfl⟩⟩))
                    go_ret
                    exact ⟨by first | rfl | (simp [errW_none, errW_some] <;> rfl) | (simp [*, errW_none, errW_some] <;> rfl), by repeat (first | (with_reducible first | exact HB.out | apply below_alloc | apply pw_below_drewN | apply below_drew1) | exact HB.out)⟩
                · rw [if_neg c14] at H
                  rw [hr_.out] at H
                  exact absurd (Option.some.inj H) (by decide)
              · rw [if_neg c12] at H
                rw [hr_.out] at H
                exact absurd (Option.some.inj H) (by decide)
            · rw [if_neg c10] at H
              rw [hr_.out] at H
              exact absurd (Option.some.inj H) (by decide)
          · rw [if_neg c8] at H
            rw [hr_.out] at H
            exact absurd (Option.some.inj H) (by decide)
        · rw [if_neg c7] at H
          rw [hr_.out] at H
          exact absurd (Option.some.inj H) (by decide)
      · rw [if_neg c6] at H
        rw [hr_.out] at H
        exact absurd (Option.some.inj H) (by decide)
    · rw [if_neg c5] at H
      rw [hr_.out] at H
      exact absurd (Option.some.inj H) (by decide)
  · rw [if_neg c4] at H
    rw [hr_.out] at H
    exact absurd (Option.some.inj H) (by decide)

end Go.Proofs.Yteieippmopfnaaa.PShardParts
