/- The walk of ShardParts, part of it: what the Go functions answer; no condition. -/
import Derived.Test.YteieippmopfnaaaQShardPartsx0
import Derived.Test.YteieippmopfnaaaQShardPartsx1
namespace Go.Proofs.Yteieippmopfnaaa.PShardParts
open Go.RowKit Go.Proofs.YteieippmopfnaaaW.PrintWords Go.Proofs.YteieippmopfnaaaW.PrintLast Go.Proofs.YteieippmopfnaaaW.PrintMore
attribute [local go_sem] max2_int min2_int max_two min_two max_three min_three max_four min_four   -- for this text's walks alone
set_option linter.unusedVariables false
set_option linter.unusedSimpArgs false

/-! ### lodgerlaw12_ShardParts: function 13 -/
mutual
def lodgerlaw12_ShardParts.j0 : Nat → Int → Int → Int → Bool → Option (Bool)
  | 0, _, _, _, _ => none
  | k + 1, x1, x5, x6, x36 => if x36 = true then (some false) else (if x6 ≤ 64 then (lodgerlaw12_ShardParts.l0 k x1 x5 x6 0) else (lodgerlaw12_ShardParts.j2 k x1 x5 x6))
def lodgerlaw12_ShardParts.j2 : Nat → Int → Int → Int → Option (Bool)
  | 0, _, _, _ => none
  | k + 1, x1, x5, x6 => lodgerlaw12_ShardParts.l1 k x5 x6 (wrap64 (1 + (wrap64 (Int.tmod x1 64)))) 0 0
def lodgerlaw12_ShardParts.l1 : Nat → Int → Int → Int → Int → Int → Option (Bool)
  | 0, _, _, _, _, _ => none
  | k + 1, x5, x6, x12, x13, x14 => if x14 < x12 then ((shard_Range.f x5 x12 x14).bind fun bt124 => (if bt124.1 = bt124.2 then (lodgerlaw12_ShardParts.l1 k x5 x6 x12 (wrap64 (x13 + 1)) (wrap64 (x14 + 1))) else (lodgerlaw12_ShardParts.l1 k x5 x6 x12 x13 (wrap64 (x14 + 1))))) else (some (x13 == (mx 0 (wrap64 (x12 - x6)))))
def lodgerlaw12_ShardParts.l0 : Nat → Int → Int → Int → Int → Option (Bool)
  | 0, _, _, _, _ => none
  | k + 1, x1, x5, x6, x9 => if x9 < x6 then ((shard_Range.f x5 x6 x9).bind fun bt121 => (if bt121.1 = x9 then (if bt121.2 = (wrap64 (x9 + 1)) then ((shard_Of.f k x5 x6 x9).bind fun t123 => (if t123 = x9 then (lodgerlaw12_ShardParts.l0 k x1 x5 x6 (wrap64 (x9 + 1))) else (some false))) else (some false)) else (some false))) else (lodgerlaw12_ShardParts.j2 k x1 x5 x6)
end
def lodgerlaw12_ShardParts.f (k : Nat) (a0 : Int) (a1 : Int) : Option (Bool) := (lodgerlaw12_awake.f k).bind fun t117 => (if t117 = true then ((lodgerref06_Leaves.f k (wrap64 (1 + (Int.tmod (wrap64 (a0)) 2048)))).bind fun t118 => ((shard_Range.f (wrap64 (1 + (Int.tmod (wrap64 (a0)) 2048))) 1 0).bind fun bt119 => (if bt119.1 = 0 then (lodgerlaw12_ShardParts.j0 k a1 (wrap64 (1 + (Int.tmod (wrap64 (a0)) 2048))) t118 (bt119.2 != t118)) else (lodgerlaw12_ShardParts.j0 k a1 (wrap64 (1 + (Int.tmod (wrap64 (a0)) 2048))) t118 true)))) else (some false))
theorem lodgerlaw12_ShardParts.mono_l : ∀ k, (∀ y0 y1 y2 y3, LeO (lodgerlaw12_ShardParts.j0 k y0 y1 y2 y3) (lodgerlaw12_ShardParts.j0 (k + 1) y0 y1 y2 y3)) ∧ (∀ y0 y1 y2, LeO (lodgerlaw12_ShardParts.j2 k y0 y1 y2) (lodgerlaw12_ShardParts.j2 (k + 1) y0 y1 y2)) ∧ (∀ y0 y1 y2 y3 y4, LeO (lodgerlaw12_ShardParts.l1 k y0 y1 y2 y3 y4) (lodgerlaw12_ShardParts.l1 (k + 1) y0 y1 y2 y3 y4)) ∧ (∀ y0 y1 y2 y3, LeO (lodgerlaw12_ShardParts.l0 k y0 y1 y2 y3) (lodgerlaw12_ShardParts.l0 (k + 1) y0 y1 y2 y3))
  | 0 => ⟨fun _ _ _ _ r h => by simp [lodgerlaw12_ShardParts.j0] at h, fun _ _ _ r h => by simp [lodgerlaw12_ShardParts.j2] at h, fun _ _ _ _ _ r h => by simp [lodgerlaw12_ShardParts.l1] at h, fun _ _ _ _ r h => by simp [lodgerlaw12_ShardParts.l0] at h⟩
  | k + 1 => by
    obtain ⟨ih0, ih1, ih2, ih3⟩ := lodgerlaw12_ShardParts.mono_l k
    refine ⟨?_, ?_, ?_, ?_⟩
    · intro y0 y1 y2 y3
      unfold lodgerlaw12_ShardParts.j0
      repeat' first
      | (with_reducible exact ih0 _ _ _ _)
      | (with_reducible exact ih1 _ _ _)
      | (with_reducible exact ih2 _ _ _ _ _)
      | (with_reducible exact ih3 _ _ _ _)
      | (with_reducible exact lodgerlaw12_awake.mono _)
      | (with_reducible exact lodgerref06_Leaves.mono _ _)
      | (with_reducible exact shard_Of.mono _ _ _ _)
      | (with_reducible exact LeO.refl _)
      | (with_reducible exact LeO.none _)
      | (with_reducible refine LeO.ite ?_ ?_)
      | (with_reducible refine LeO.bind ?_ (fun _ => ?_))
      | exact ih0 _ _ _ _
      | exact ih1 _ _ _
      | exact ih2 _ _ _ _ _
      | exact ih3 _ _ _ _
      | exact lodgerlaw12_awake.mono _
      | exact lodgerref06_Leaves.mono _ _
      | exact shard_Of.mono _ _ _ _
      | exact LeO.none _
      | refine LeO.ite ?_ ?_
      | refine LeO.bind ?_ (fun _ => ?_)
    · intro y0 y1 y2
      unfold lodgerlaw12_ShardParts.j2
      repeat' first
      | (with_reducible exact ih0 _ _ _ _)
      | (with_reducible exact ih1 _ _ _)
      | (with_reducible exact ih2 _ _ _ _ _)
      | (with_reducible exact ih3 _ _ _ _)
      | (with_reducible exact lodgerlaw12_awake.mono _)
      | (with_reducible exact lodgerref06_Leaves.mono _ _)
      | (with_reducible exact shard_Of.mono _ _ _ _)
      | (with_reducible exact LeO.refl _)
      | (with_reducible exact LeO.none _)
      | (with_reducible refine LeO.ite ?_ ?_)
      | (with_reducible refine LeO.bind ?_ (fun _ => ?_))
      | exact ih0 _ _ _ _
      | exact ih1 _ _ _
      | exact ih2 _ _ _ _ _
      | exact ih3 _ _ _ _
      | exact lodgerlaw12_awake.mono _
      | exact lodgerref06_Leaves.mono _ _
      | exact shard_Of.mono _ _ _ _
      | exact LeO.none _
      | refine LeO.ite ?_ ?_
      | refine LeO.bind ?_ (fun _ => ?_)
    · intro y0 y1 y2 y3 y4
      unfold lodgerlaw12_ShardParts.l1
      repeat' first
      | (with_reducible exact ih0 _ _ _ _)
      | (with_reducible exact ih1 _ _ _)
      | (with_reducible exact ih2 _ _ _ _ _)
      | (with_reducible exact ih3 _ _ _ _)
      | (with_reducible exact lodgerlaw12_awake.mono _)
      | (with_reducible exact lodgerref06_Leaves.mono _ _)
      | (with_reducible exact shard_Of.mono _ _ _ _)
      | (with_reducible exact LeO.refl _)
      | (with_reducible exact LeO.none _)
      | (with_reducible refine LeO.ite ?_ ?_)
      | (with_reducible refine LeO.bind ?_ (fun _ => ?_))
      | exact ih0 _ _ _ _
      | exact ih1 _ _ _
      | exact ih2 _ _ _ _ _
      | exact ih3 _ _ _ _
      | exact lodgerlaw12_awake.mono _
      | exact lodgerref06_Leaves.mono _ _
      | exact shard_Of.mono _ _ _ _
      | exact LeO.none _
      | refine LeO.ite ?_ ?_
      | refine LeO.bind ?_ (fun _ => ?_)
    · intro y0 y1 y2 y3
      unfold lodgerlaw12_ShardParts.l0
      repeat' first
      | (with_reducible exact ih0 _ _ _ _)
      | (with_reducible exact ih1 _ _ _)
      | (with_reducible exact ih2 _ _ _ _ _)
      | (with_reducible exact ih3 _ _ _ _)
      | (with_reducible exact lodgerlaw12_awake.mono _)
      | (with_reducible exact lodgerref06_Leaves.mono _ _)
      | (with_reducible exact shard_Of.mono _ _ _ _)
      | (with_reducible exact LeO.refl _)
      | (with_reducible exact LeO.none _)
      | (with_reducible refine LeO.ite ?_ ?_)
      | (with_reducible refine LeO.bind ?_ (fun _ => ?_))
      | exact ih0 _ _ _ _
      | exact ih1 _ _ _
      | exact ih2 _ _ _ _ _
      | exact ih3 _ _ _ _
      | exact lodgerlaw12_awake.mono _
      | exact lodgerref06_Leaves.mono _ _
      | exact shard_Of.mono _ _ _ _
      | exact LeO.none _
      | refine LeO.ite ?_ ?_
      | refine LeO.bind ?_ (fun _ => ?_)
theorem lodgerlaw12_ShardParts.mono : ∀ a0 a1 k, LeO (lodgerlaw12_ShardParts.f k a0 a1) (lodgerlaw12_ShardParts.f (k + 1) a0 a1) := by
  intro a0 a1 k
  obtain ⟨ih0, ih1, ih2, ih3⟩ := lodgerlaw12_ShardParts.mono_l k
  unfold lodgerlaw12_ShardParts.f
  repeat' first
      | (with_reducible exact ih0 _ _ _ _)
      | (with_reducible exact ih1 _ _ _)
      | (with_reducible exact ih2 _ _ _ _ _)
      | (with_reducible exact ih3 _ _ _ _)
      | (with_reducible exact lodgerlaw12_awake.mono _)
      | (with_reducible exact lodgerref06_Leaves.mono _ _)
      | (with_reducible exact shard_Of.mono _ _ _ _)
      | (with_reducible exact LeO.refl _)
      | (with_reducible exact LeO.none _)
      | (with_reducible refine LeO.ite ?_ ?_)
      | (with_reducible refine LeO.bind ?_ (fun _ => ?_))
      | exact ih0 _ _ _ _
      | exact ih1 _ _ _
      | exact ih2 _ _ _ _ _
      | exact ih3 _ _ _ _
      | exact lodgerlaw12_awake.mono _
      | exact lodgerref06_Leaves.mono _ _
      | exact shard_Of.mono _ _ _ _
      | exact LeO.none _
      | refine LeO.ite ?_ ?_
      | refine LeO.bind ?_ (fun _ => ?_)
set_option maxHeartbeats 8000000 in
set_option maxRecDepth 100000 in
theorem lodgerlaw12_ShardParts.calls (k : Nat) (a0 : Int) (a1 : Int) (r : Bool) (w : World) (hr_ : r = true) (h : lodgerlaw12_ShardParts.f k a0 a1 = some r) :
    Calls Try.prog 13 #[.int .u16 a0, .int .u8 a1] w fun e w' => e = .returned (.bool r) ∧ Below w.heap.size w w' := by
  have HB := Aside0.mk (Below.refl w.heap.size w)
  replace hr_ := Aside0.mk hr_
  have H : ((lodgerlaw12_awake.f k).bind fun t117 => (if t117 = true then ((lodgerref06_Leaves.f k (wrap64 (1 + (Int.tmod (wrap64 (a0)) 2048)))).bind fun t118 => ((shard_Range.f (wrap64 (1 + (Int.tmod (wrap64 (a0)) 2048))) 1 0).bind fun bt119 => (if bt119.1 = 0 then (lodgerlaw12_ShardParts.j0 k a1 (wrap64 (1 + (Int.tmod (wrap64 (a0)) 2048))) t118 (bt119.2 != t118)) else (lodgerlaw12_ShardParts.j0 k a1 (wrap64 (1 + (Int.tmod (wrap64 (a0)) 2048))) t118 true)))) else (some false))) = some r := h
  clear h
  replace H := Option.bind_eq_some_iff.mp H
  obtain ⟨t117, A30, H⟩ := H
  replace H : (if t117 = true then ((lodgerref06_Leaves.f k (wrap64 (1 + (Int.tmod (wrap64 (a0)) 2048)))).bind fun t118 => ((shard_Range.f (wrap64 (1 + (Int.tmod (wrap64 (a0)) 2048))) 1 0).bind fun bt119 => (if bt119.1 = 0 then (lodgerlaw12_ShardParts.j0 k a1 (wrap64 (1 + (Int.tmod (wrap64 (a0)) 2048))) t118 (bt119.2 != t118)) else (lodgerlaw12_ShardParts.j0 k a1 (wrap64 (1 + (Int.tmod (wrap64 (a0)) 2048))) t118 true)))) else (some false)) = some r := H
  have A3 := Aside0.mk A30
  clear A30
  by_cases c4 : t117 = true
  · subst c4
    have H1 : ((lodgerref06_Leaves.f k (wrap64 (1 + (Int.tmod (wrap64 (a0)) 2048)))).bind fun t118 => ((shard_Range.f (wrap64 (1 + (Int.tmod (wrap64 (a0)) 2048))) 1 0).bind fun bt119 => (if bt119.1 = 0 then (lodgerlaw12_ShardParts.j0 k a1 (wrap64 (1 + (Int.tmod (wrap64 (a0)) 2048))) t118 (bt119.2 != t118)) else (lodgerlaw12_ShardParts.j0 k a1 (wrap64 (1 + (Int.tmod (wrap64 (a0)) 2048))) t118 true)))) = some r := by rw [if_pos rfl] at H; exact H
    clear H
    have H := H1
    clear H1
    replace H := Option.bind_eq_some_iff.mp H
    obtain ⟨t118, A50, H⟩ := H
    replace H : ((shard_Range.f (wrap64 (1 + (Int.tmod (wrap64 (a0)) 2048))) 1 0).bind fun bt119 => (if bt119.1 = 0 then (lodgerlaw12_ShardParts.j0 k a1 (wrap64 (1 + (Int.tmod (wrap64 (a0)) 2048))) t118 (bt119.2 != t118)) else (lodgerlaw12_ShardParts.j0 k a1 (wrap64 (1 + (Int.tmod (wrap64 (a0)) 2048))) t118 true))) = some r := H
    have A5 := Aside0.mk A50
    clear A50
    replace H := Option.bind_eq_some_iff.mp H
    obtain ⟨⟨t119, t120⟩, A60, H⟩ := H
    replace H : (if t119 = 0 then (lodgerlaw12_ShardParts.j0 k a1 (wrap64 (1 + (Int.tmod (wrap64 (a0)) 2048))) t118 (t120 != t118)) else (lodgerlaw12_ShardParts.j0 k a1 (wrap64 (1 + (Int.tmod (wrap64 (a0)) 2048))) t118 true)) = some r := H
    have A6 := Aside0.mk A60
    clear A60
    have HC7 := Aside0.mk H
    clear H
    go_enter Try.func13, Try.ntmps13
    go_upto_region 6 with (first | ((with_reducible refine gate_callee (f := 41) rfl ?_); refine goesL_ (some 17) rfl rfl Try.func41 (by kernel_rfl) rfl #[] rfl (by (try simp only [List.map_toArray, List.map_cons, List.map_nil]); first | done | rfl | (simp only [List.length_drop, List.length_take]; rfl)) ?_; (with_reducible refine (lodgerlaw12_awake.calls k  true _ A3.out).mono ?_); rintro e w8 ⟨rfl, hb⟩; refine ⟨_, rfl, ?_⟩; have n0_ := Aside0.mk (below_step (by repeat (first | (with_reducible first | exact HB.out | apply below_alloc | apply pw_below_drewN | apply below_drew1) | exact HB.out)) hb); clear HB; have HB := n0_; clear n0_; (try clear hb); (try clear hb2); (try clear hk); (try clear hi)) | ((with_reducible refine gate_callee (f := 21) rfl ?_); refine goesL_ (some 24) rfl rfl Try.func21 (by kernel_rfl) rfl #[.int .i64 (wrap64 (1 + (Int.tmod (wrap64 (a0)) 2048)))] rfl (by (try simp only [List.map_toArray, List.map_cons, List.map_nil]); first | done | rfl | (simp only [List.length_drop, List.length_take]; rfl)) ?_; (with_reducible refine (lodgerref06_Leaves.calls k (wrap64 (1 + (Int.tmod (wrap64 (a0)) 2048))) t118 _ A5.out).mono ?_); rintro e w' ⟨rfl, ⟨nd, rfl⟩⟩; refine ⟨_, rfl, ?_⟩) | ((with_reducible refine gate_callee (f := 44) rfl ?_); refine goesL_ (some 27) rfl rfl Try.func44 (by kernel_rfl) rfl #[.int .i64 (wrap64 (1 + (Int.tmod (wrap64 (a0)) 2048))), .int .i64 1, .int .i64 0] rfl (by (try simp only [List.map_toArray, List.map_cons, List.map_nil]); first | done | rfl | (simp only [List.length_drop, List.length_take]; rfl)) ?_; (with_reducible refine (shard_Range.calls (wrap64 (1 + (Int.tmod (wrap64 (a0)) 2048))) 1 0 t119 t120 _ A6.out).mono ?_); rintro e w' ⟨rfl, ⟨nd, rfl⟩⟩; refine ⟨_, rfl, ?_⟩))
    (try simp only [Act.put, List.setIfInBounds_toArray, List.set_cons_zero, List.set_cons_succ])
    go_cut [36] (fun v36 wc => ∃ (kq : Nat) (x36_6 : Bool), v36 = .bool x36_6 ∧ Aside0 (lodgerlaw12_ShardParts.j0 kq a1 (wrap64 (1 + (Int.tmod (wrap64 (a0)) 2048))) t118 x36_6 = some r) ∧ Aside0 (kq ≤ k) ∧ Aside0 (Below w.heap.size w wc))
    case first =>
      have H := HC7.out
      clear HC7
      by_cases c9 : t119 = 0
      · rw [if_pos c9] at H
        have c9b0 : (t119 == 0) = true := beq_iff_eq.mpr c9
        have c9b1 : (t119 != 0) = false := bne_eq_false_iff_eq.mpr c9
        clear c9
        (first | rw [c9b0] | (simp only [i64_w, i32_w]; rw [c9b0]) | skip)
        have H' := Aside0.mk H
        clear H
        go_wp2
        go_meet
        case rel => exact ⟨_, ((t120 != t118)), (by first | rfl | (simp; done) | (simp [*]; done)), H', ⟨by first | omega | exact Nat.le_refl _⟩, ⟨by repeat (first | (with_reducible first | exact HB.out | apply below_alloc | apply pw_below_drewN | apply below_drew1) | exact HB.out)⟩⟩
      · rw [if_neg c9] at H
        have c9b0 : (t119 == 0) = false := beq_eq_false_iff_ne.mpr c9
        have c9b1 : (t119 != 0) = true := bne_iff_ne.mpr c9
        (first | rw [c9b0] | (simp only [i64_w, i32_w]; rw [c9b0]) | skip)
        have H' := Aside0.mk H
        clear H
        go_wp2
        go_meet
        case rel => exact ⟨_, (true), (by first | rfl | (simp; done) | (simp [*]; done)), H', ⟨by first | omega | exact Nat.le_refl _⟩, ⟨by repeat (first | (with_reducible first | exact HB.out | apply below_alloc | apply pw_below_drewN | apply below_drew1) | exact HB.out)⟩⟩
    case rest =>
      clear HC7
      try clear c1
      try clear c2
      try clear p2
      try clear c4
      try clear p6
      try clear c9
      try clear c9b0
      try clear c9b1
      obtain ⟨kq, x36_6, rfl, HA, HJ6, HB⟩ := hcut
      cases kq with
      | zero => exact absurd HA.out (by simp [lodgerlaw12_ShardParts.j0])
      | succ kj6 =>
        have H := HA.out
        clear HA
        simp only [lodgerlaw12_ShardParts.j0] at H
        by_cases c10 : x36_6 = true
        · subst c10
          have H1 : (some false) = some r := by rw [if_pos rfl] at H; exact H
          rw [hr_.out] at H1
          exact absurd (Option.some.inj H1) (by decide)
        · replace c10 := Bool.eq_false_iff.mpr c10
          subst c10
          have H1 : (if t118 ≤ 64 then (lodgerlaw12_ShardParts.l0 kj6 a1 (wrap64 (1 + (Int.tmod (wrap64 (a0)) 2048))) t118 0) else (lodgerlaw12_ShardParts.j2 kj6 a1 (wrap64 (1 + (Int.tmod (wrap64 (a0)) 2048))) t118)) = some r := by rw [if_neg (show ¬ (false = true) by decide)] at H; exact H
          clear H
          have H := H1
          clear H1
          have HC11 := Aside0.mk H
          clear H
          go_upto_if 38 with (fail)
          go_cut [] (fun wc => ∃ (kq : Nat), Aside0 (lodgerlaw12_ShardParts.j2 kq a1 (wrap64 (1 + (Int.tmod (wrap64 (a0)) 2048))) t118 = some r) ∧ Aside0 (kq ≤ kj6) ∧ Aside0 (Below w.heap.size w wc))
          case first =>
            have H := HC11.out
            clear HC11
            by_cases c12 : t118 ≤ 64
            · rw [if_pos c12] at H
              have c12b0 : decide (t118 ≤ 64) = true := decide_eq_true c12
              clear c12
              (first | rw [c12b0] | (simp only [i64_w, i32_w]; rw [c12b0]) | skip)
              have H' := Aside0.mk H
              clear H
              go_wp2
              go_loopg [9] kj6 (fun kq v9 w' => ∃ (x9_2 : Int), v9 = .int .i64 x9_2 ∧ Aside0 (lodgerlaw12_ShardParts.l0 kq a1 (wrap64 (1 + (Int.tmod (wrap64 (a0)) 2048))) t118 x9_2 = some r) ∧ Aside0 (kq ≤ kj6) ∧ Aside0 (Below w.heap.size w w'))
              case atStart => exact ⟨(0), (by first | rfl | (simp; done) | (simp [*]; done)), H', ⟨Nat.le_refl _⟩, ⟨by repeat (first | (with_reducible first | exact HB.out | apply below_alloc | apply pw_below_drewN | apply below_drew1) | exact HB.out)⟩⟩
              case round =>
                clear H'
                try clear c1
                try clear c2
                try clear p2
                try clear c4
                try clear p6
                try clear c9
                try clear c9b0
                try clear c9b1
                try clear c10
                try clear c12
                try clear c12b0
                try clear p2
                try clear p6
                obtain ⟨x9_2, rfl, HA, HK2, HB⟩ := hrel
                cases gk with
                | zero => exact absurd HA.out (by simp [lodgerlaw12_ShardParts.l0])
                | succ k2 =>
                  have H := HA.out
                  clear HA
                  simp only [lodgerlaw12_ShardParts.l0] at H
                  by_cases c13 : x9_2 < t118
                  · rw [if_pos c13] at H
                    have c13b0 : decide (x9_2 < t118) = true := decide_eq_true c13
                    clear c13
                    replace H := Option.bind_eq_some_iff.mp H
                    obtain ⟨⟨t121, t122⟩, A140, H⟩ := H
                    replace H : (if t121 = x9_2 then (if t122 = (wrap64 (x9_2 + 1)) then ((shard_Of.f k2 (wrap64 (1 + (Int.tmod (wrap64 (a0)) 2048))) t118 x9_2).bind fun t123 => (if t123 = x9_2 then (lodgerlaw12_ShardParts.l0 k2 a1 (wrap64 (1 + (Int.tmod (wrap64 (a0)) 2048))) t118 (wrap64 (x9_2 + 1))) else (some false))) else (some false)) else (some false)) = some r := H
                    have A14 := Aside0.mk A140
                    clear A140
                    by_cases c15 : t121 = x9_2
                    · rw [if_pos c15] at H
                      have c15b0 : (t121 == x9_2) = true := beq_iff_eq.mpr c15
                      have c15b1 : (t121 != x9_2) = false := bne_eq_false_iff_eq.mpr c15
                      clear c15
                      by_cases c16 : t122 = (wrap64 (x9_2 + 1))
                      · rw [if_pos c16] at H
                        have c16b0 : (t122 == (wrap64 (x9_2 + 1))) = true := beq_iff_eq.mpr c16
                        have c16b1 : (t122 != (wrap64 (x9_2 + 1))) = false := bne_eq_false_iff_eq.mpr c16
                        clear c16
                        replace H := Option.bind_eq_some_iff.mp H
                        obtain ⟨t123, A170, H⟩ := H
                        replace H : (if t123 = x9_2 then (lodgerlaw12_ShardParts.l0 k2 a1 (wrap64 (1 + (Int.tmod (wrap64 (a0)) 2048))) t118 (wrap64 (x9_2 + 1))) else (some false)) = some r := H
                        have A17 := Aside0.mk A170
                        clear A170
                        by_cases c18 : t123 = x9_2
                        · rw [if_pos c18] at H
                          have c18b0 : (t123 == x9_2) = true := beq_iff_eq.mpr c18
                          have c18b1 : (t123 != x9_2) = false := bne_eq_false_iff_eq.mpr c18
                          clear c18
                          have H' := Aside0.mk H
                          clear H
                          go_wp2_with (first | ((with_reducible refine gate_callee (f := 44) rfl ?_); refine goesL_ (some 48) rfl rfl Try.func44 (by kernel_rfl) rfl #[.int .i64 (wrap64 (1 + (Int.tmod (wrap64 (a0)) 2048))), .int .i64 t118, .int .i64 x9_2] rfl (by (try simp only [List.map_toArray, List.map_cons, List.map_nil]); first | done | rfl | (simp only [List.length_drop, List.length_take]; rfl)) ?_; (with_reducible refine (shard_Range.calls (wrap64 (1 + (Int.tmod (wrap64 (a0)) 2048))) t118 x9_2 t121 t122 _ A14.out).mono ?_); rintro e w' ⟨rfl, ⟨nd, rfl⟩⟩; refine ⟨_, rfl, ?_⟩) | (go_at_call 45; (with_reducible refine (shard_Of.calls k2 (wrap64 (1 + (Int.tmod (wrap64 (a0)) 2048))) t118 x9_2 t123 _ A17.out).mono ?_); rintro e w19 ⟨rfl, hb⟩; have n0_ := Aside0.mk (below_step (by repeat (first | (with_reducible first | exact HB.out | apply below_alloc | apply pw_below_drewN | apply below_drew1) | exact HB.out)) hb); clear HB; have HB := n0_; clear n0_; (try clear hb); (try clear hb2); (try clear hk); (try clear hi)) | (go_at_call 44; (with_reducible refine (shard_Range.calls (wrap64 (1 + (Int.tmod (wrap64 (a0)) 2048))) t118 x9_2 t121 t122 _ A14.out).mono ?_); rintro e w' ⟨rfl, ⟨nd, rfl⟩⟩))
                          go_roundg k2
                          case measure => have := HJ6.out; have := HK2.out; omega
                          case rel => exact ⟨(wrap64 (x9_2 + 1)), (by first | rfl | (simp; done) | (simp [*]; done)), H', ⟨by have := HJ6.out; have := HK2.out; omega⟩, ⟨by repeat (first | (with_reducible first | exact HB.out | apply below_alloc | apply pw_below_drewN | apply below_drew1) | exact HB.out)⟩⟩
                        · rw [if_neg c18] at H
                          rw [hr_.out] at H
                          exact absurd (Option.some.inj H) (by decide)
                      · rw [if_neg c16] at H
                        rw [hr_.out] at H
                        exact absurd (Option.some.inj H) (by decide)
                    · rw [if_neg c15] at H
                      rw [hr_.out] at H
                      exact absurd (Option.some.inj H) (by decide)
                  · rw [if_neg c13] at H
                    have c13b0 : decide (x9_2 < t118) = false := decide_eq_false c13
                    clear c13
                    have H' := Aside0.mk H
                    clear H
                    go_wp2
                    go_meet
                    case rel => exact ⟨_, H', ⟨by have := HJ6.out; have := HK2.out; first | omega | exact Nat.le_refl _⟩, ⟨by repeat (first | (with_reducible first | exact HB.out | apply below_alloc | apply pw_below_drewN | apply below_drew1) | exact HB.out)⟩⟩
            · rw [if_neg c12] at H
              have c12b0 : decide (t118 ≤ 64) = false := decide_eq_false c12
              clear c12
              (first | rw [c12b0] | (simp only [i64_w, i32_w]; rw [c12b0]) | skip)
              have H' := Aside0.mk H
              clear H
              go_wp2
              go_meet
              case rel => exact ⟨_, H', ⟨by have := HJ6.out; first | omega | exact Nat.le_refl _⟩, ⟨by repeat (first | (with_reducible first | exact HB.out | apply below_alloc | apply pw_below_drewN | apply below_drew1) | exact HB.out)⟩⟩
          case rest =>
            clear HC11
            try clear c1
            try clear c2
            try clear p2
            try clear c4
            try clear p6
            try clear c9
            try clear c9b0
            try clear c9b1
            try clear c10
            try clear c12
            try clear c12b0
            try clear c13
            try clear c13b0
            try clear c15
            try clear c15b0
            try clear c15b1
            try clear c16
            try clear c16b0
            try clear c16b1
            try clear c18
            try clear c18b0
            try clear c18b1
            try clear p2
            try clear p6
            obtain ⟨kq, HA, HJ10, HB⟩ := hcut
            cases kq with
            | zero => exact absurd HA.out (by simp [lodgerlaw12_ShardParts.j2])
            | succ kj10 =>
              have H := HA.out
              clear HA
              simp only [lodgerlaw12_ShardParts.j2] at H
              have H' := Aside0.mk H
              clear H
              go_wp2
              go_loopg [13, 14] kj10 (fun kq v13 v14 w' => ∃ (x13_3 : Int) (x14_3 : Int), v13 = .int .i64 x13_3 ∧ v14 = .int .i64 x14_3 ∧ Aside0 (lodgerlaw12_ShardParts.l1 kq (wrap64 (1 + (Int.tmod (wrap64 (a0)) 2048))) t118 (wrap64 (1 + (wrap64 (Int.tmod a1 64)))) x13_3 x14_3 = some r) ∧ Aside0 (kq ≤ kj10) ∧ Aside0 (Below w.heap.size w w'))
              case atStart => exact ⟨(0), (0), (by first | rfl | (simp; done) | (simp [*]; done)), (by first | rfl | (simp; done) | (simp [*]; done)), H', ⟨Nat.le_refl _⟩, ⟨by repeat (first | (with_reducible first | exact HB.out | apply below_alloc | apply pw_below_drewN | apply below_drew1) | exact HB.out)⟩⟩
              case round =>
                clear H'
                try clear c1
                try clear c2
                try clear p2
                try clear c4
                try clear p6
                try clear c9
                try clear c9b0
                try clear c9b1
                try clear c10
                try clear c12
                try clear c12b0
                try clear c13
                try clear c13b0
                try clear c15
                try clear c15b0
                try clear c15b1
                try clear c16
                try clear c16b0
                try clear c16b1
                try clear c18
                try clear c18b0
                try clear c18b1
                try clear p2
                try clear p6
                obtain ⟨x13_3, x14_3, rfl, rfl, HA, HK3, HB⟩ := hrel
                cases gk with
                | zero => exact absurd HA.out (by simp [lodgerlaw12_ShardParts.l1])
                | succ k3 =>
                  have H := HA.out
                  clear HA
                  simp only [lodgerlaw12_ShardParts.l1] at H
                  by_cases c21 : x14_3 < (wrap64 (1 + (wrap64 (Int.tmod a1 64))))
                  · rw [if_pos c21] at H
                    have c21b0 : decide (x14_3 < (wrap64 (1 + (wrap64 (Int.tmod a1 64))))) = true := decide_eq_true c21
                    clear c21
                    replace H := Option.bind_eq_some_iff.mp H
                    obtain ⟨⟨t124, t125⟩, A220, H⟩ := H
                    replace H : (if t124 = t125 then (lodgerlaw12_ShardParts.l1 k3 (wrap64 (1 + (Int.tmod (wrap64 (a0)) 2048))) t118 (wrap64 (1 + (wrap64 (Int.tmod a1 64)))) (wrap64 (x13_3 + 1)) (wrap64 (x14_3 + 1))) else (lodgerlaw12_ShardParts.l1 k3 (wrap64 (1 + (Int.tmod (wrap64 (a0)) 2048))) t118 (wrap64 (1 + (wrap64 (Int.tmod a1 64)))) x13_3 (wrap64 (x14_3 + 1)))) = some r := H
                    have A22 := Aside0.mk A220
                    clear A220
                    by_cases c23 : t124 = t125
                    · rw [if_pos c23] at H
                      have c23b0 : (t124 == t125) = true := beq_iff_eq.mpr c23
                      have c23b1 : (t124 != t125) = false := bne_eq_false_iff_eq.mpr c23
                      clear c23
                      have H' := Aside0.mk H
                      clear H
                      go_wp2_with (first | ((with_reducible refine gate_callee (f := 44) rfl ?_); refine goesL_ (some 81) rfl rfl Try.func44 (by kernel_rfl) rfl #[.int .i64 (wrap64 (1 + (Int.tmod (wrap64 (a0)) 2048))), .int .i64 (wrap64 (1 + (wrap64 (Int.tmod a1 64)))), .int .i64 x14_3] rfl (by (try simp only [List.map_toArray, List.map_cons, List.map_nil]); first | done | rfl | (simp only [List.length_drop, List.length_take]; rfl)) ?_; (with_reducible refine (shard_Range.calls (wrap64 (1 + (Int.tmod (wrap64 (a0)) 2048))) (wrap64 (1 + (wrap64 (Int.tmod a1 64)))) x14_3 t124 t125 _ A22.out).mono ?_); rintro e w' ⟨rfl, ⟨nd, rfl⟩⟩; refine ⟨_, rfl, ?_⟩) | (go_at_call 44; (with_reducible refine (shard_Range.calls (wrap64 (1 + (Int.tmod (wrap64 (a0)) 2048))) (wrap64 (1 + (wrap64 (Int.tmod a1 64)))) x14_3 t124 t125 _ A22.out).mono ?_); rintro e w' ⟨rfl, ⟨nd, rfl⟩⟩))
                      go_roundg k3
                      case measure => have := HJ6.out; have := HJ10.out; have := HK3.out; omega
                      case rel => exact ⟨(wrap64 (x13_3 + 1)), (wrap64 (x14_3 + 1)), (by first | rfl | (simp; done) | (simp [*]; done)), (by first | rfl | (simp; done) | (simp [*]; done)), H', ⟨by have := HJ6.out; have := HJ10.out; have := HK3.out; omega⟩, ⟨by repeat (first | (with_reducible first | exact HB.out | apply below_alloc | apply pw_below_drewN | apply below_drew1) | exact HB.out)⟩⟩
                    · rw [if_neg c23] at H
                      have c23b0 : (t124 == t125) = false := beq_eq_false_iff_ne.mpr c23
                      have c23b1 : (t124 != t125) = true := bne_iff_ne.mpr c23
                      have H' := Aside0.mk H
                      clear H
                      go_wp2_with (first | ((with_reducible refine gate_callee (f := 44) rfl ?_); refine goesL_ (some 81) rfl rfl Try.func44 (by kernel_rfl) rfl #[.int .i64 (wrap64 (1 + (Int.tmod (wrap64 (a0)) 2048))), .int .i64 (wrap64 (1 + (wrap64 (Int.tmod a1 64)))), .int .i64 x14_3] rfl (by (try simp only [List.map_toArray, List.map_cons, List.map_nil]); first | done | rfl | (simp only [List.length_drop, List.length_take]; rfl)) ?_; (with_reducible refine (shard_Range.calls (wrap64 (1 + (Int.tmod (wrap64 (a0)) 2048))) (wrap64 (1 + (wrap64 (Int.tmod a1 64)))) x14_3 t124 t125 _ A22.out).mono ?_); rintro e w' ⟨rfl, ⟨nd, rfl⟩⟩; refine ⟨_, rfl, ?_⟩) | (go_at_call 44; (with_reducible refine (shard_Range.calls (wrap64 (1 + (Int.tmod (wrap64 (a0)) 2048))) (wrap64 (1 + (wrap64 (Int.tmod a1 64)))) x14_3 t124 t125 _ A22.out).mono ?_); rintro e w' ⟨rfl, ⟨nd, rfl⟩⟩))
                      go_roundg k3
                      case measure => have := HJ6.out; have := HJ10.out; have := HK3.out; omega
                      case rel => exact ⟨(x13_3), (wrap64 (x14_3 + 1)), (by first | rfl | (simp; done) | (simp [*]; done)), (by first | rfl | (simp; done) | (simp [*]; done)), H', ⟨by have := HJ6.out; have := HJ10.out; have := HK3.out; omega⟩, ⟨by repeat (first | (with_reducible first | exact HB.out | apply below_alloc | apply pw_below_drewN | apply below_drew1) | exact HB.out)⟩⟩
                  · rw [if_neg c21] at H
                    have c21b0 : decide (x14_3 < (wrap64 (1 + (wrap64 (Int.tmod a1 64))))) = false := decide_eq_false c21
                    clear c21
                    obtain ⟨ji24, hji24⟩ : ∃ j_ : Int, (mx 0 (wrap64 ((wrap64 (1 + (wrap64 (Int.tmod a1 64)))) - t118))) = j_ := ⟨_, rfl⟩
                    replace H : (some (x13_3 == (ji24))) = some r := by first | (rw [hji24] at H; exact H) | (simp only [hji24] at H ⊢; exact H)
                    have hji24_ : (if 0 < (wrap64 ((wrap64 (1 + (wrap64 (Int.tmod a1 64)))) - t118)) then (wrap64 ((wrap64 (1 + (wrap64 (Int.tmod a1 64)))) - t118)) else 0) = ji24 := hji24
                    first | (exfalso; rw [hr_.out] at H; exact absurd (Option.some.inj H) (by decide)) | (try clear hr_)
                    all_goals
                      obtain rfl := Option.some.inj H
                      go_wp2
                      go_ret
                      exact ⟨by first | rfl | (simp [errW_none, errW_some] <;> rfl) | (simp only [← hji24]; first | rfl | (simp [errW_none, errW_some] <;> rfl)) | (simp [*, errW_none, errW_some] <;> rfl), by repeat (first | (with_reducible first | exact HB.out | apply below_alloc | apply pw_below_drewN | apply below_drew1) | exact HB.out)⟩
  · replace c4 := Bool.eq_false_iff.mpr c4
    subst c4
    have H1 : (some false) = some r := by rw [if_neg (show ¬ (false = true) by decide)] at H; exact H
    rw [hr_.out] at H1
    exact absurd (Option.some.inj H1) (by decide)

/-- THE ONE PURE STATEMENT of lodgerlaw12_ShardParts: yours. -/
def lodgerlaw12_ShardParts.Pure : Prop := ∀ (a0 : Int) (a1 : Int), (Lit.int .u16 a0).wf = true → (Lit.int .u8 a1).wf = true → ∃ k, lodgerlaw12_ShardParts.f k a0 a1 = some true
theorem lodgerlaw12_ShardParts.walk (P : lodgerlaw12_ShardParts.Pure) (a0 : Int) (a1 : Int) (w : World) (w0 : (Lit.int .u16 a0).wf = true) (w1 : (Lit.int .u8 a1).wf = true) :
    Calls Try.prog 13 #[.int .u16 a0, .int .u8 a1] w fun e w' => e = .returned (.bool true) ∧ Below w.heap.size w w' := by
  obtain ⟨k, h⟩ := P a0 a1 w0 w1
  refine (lodgerlaw12_ShardParts.calls k a0 a1 true w rfl h).mono ?_
  rintro e w' ⟨rfl, hd⟩
  exact ⟨rfl, hd⟩

end Go.Proofs.Yteieippmopfnaaa.PShardParts
