/- The walk of BitsDo, part of it: what the Go functions answer; no condition. -/
import Derived.Test.YteieippmopfnaaaQBitsDox0
import Derived.Test.YteieippmopfnaaaQBitsDox1
namespace Go.Proofs.Yteieippmopfnaaa.PBitsDo
open Go.RowKit Go.Proofs.YteieippmopfnaaaW.PrintWords Go.Proofs.YteieippmopfnaaaW.PrintLast Go.Proofs.YteieippmopfnaaaW.PrintMore
attribute [local go_sem] max2_int min2_int max_two min_two max_three min_three max_four min_four   -- for this text's walks alone
set_option linter.unusedVariables false
set_option linter.unusedSimpArgs false

/-! ### lodgerref01_Count: function 39 -/
def lodgerref01_Count.l0 : Nat → Int → Int → Int → Int → Option (Int)
  | 0, _, _, _, _ => none
  | k + 1, x0, x1, x5, x6 => if x6 < x1 then ((lodgerref01_Has.f k x0 x6).bind fun t121 => (if t121 = true then (lodgerref01_Count.l0 k x0 x1 (wrap64 (x5 + 1)) (wrap64 (x6 + 1))) else (lodgerref01_Count.l0 k x0 x1 x5 (wrap64 (x6 + 1))))) else (some x5)
def lodgerref01_Count.f (k : Nat) (a0 : Int) (a1 : Int) : Option (Int) := lodgerref01_Count.l0 k a0 a1 0 0
theorem lodgerref01_Count.mono_l : ∀ k, (∀ y0 y1 y2 y3, LeO (lodgerref01_Count.l0 k y0 y1 y2 y3) (lodgerref01_Count.l0 (k + 1) y0 y1 y2 y3))
  | 0 => fun _ _ _ _ r h => by simp [lodgerref01_Count.l0] at h
  | k + 1 => by
    have ih0 := lodgerref01_Count.mono_l k
    · intro y0 y1 y2 y3
      unfold lodgerref01_Count.l0
      repeat' first
      | (with_reducible exact ih0 _ _ _ _)
      | (with_reducible exact lodgerref01_Has.mono _ _ _)
      | (with_reducible exact LeO.refl _)
      | (with_reducible exact LeO.none _)
      | (with_reducible refine LeO.ite ?_ ?_)
      | (with_reducible refine LeO.bind ?_ (fun _ => ?_))
      | exact ih0 _ _ _ _
      | exact lodgerref01_Has.mono _ _ _
      | exact LeO.none _
      | refine LeO.ite ?_ ?_
      | refine LeO.bind ?_ (fun _ => ?_)
theorem lodgerref01_Count.mono : ∀ a0 a1 k, LeO (lodgerref01_Count.f k a0 a1) (lodgerref01_Count.f (k + 1) a0 a1) := by
  intro a0 a1 k
  have ih0 := lodgerref01_Count.mono_l k
  unfold lodgerref01_Count.f
  repeat' first
      | (with_reducible exact ih0 _ _ _ _)
      | (with_reducible exact lodgerref01_Has.mono _ _ _)
      | (with_reducible exact LeO.refl _)
      | (with_reducible exact LeO.none _)
      | (with_reducible refine LeO.ite ?_ ?_)
      | (with_reducible refine LeO.bind ?_ (fun _ => ?_))
      | exact ih0 _ _ _ _
      | exact lodgerref01_Has.mono _ _ _
      | exact LeO.none _
      | refine LeO.ite ?_ ?_
      | refine LeO.bind ?_ (fun _ => ?_)
set_option maxHeartbeats 8000000 in
set_option maxRecDepth 100000 in
theorem lodgerref01_Count.calls (k : Nat) (a0 : Int) (a1 : Int) (r : Int) (w : World) (h : lodgerref01_Count.f k a0 a1 = some r) :
    Calls Try.prog 39 #[.int .u64 a0, .int .i64 a1] w fun e w' => e = .returned (.int .i64 r) ∧ Drawn0 w w' := by
  have H : (lodgerref01_Count.l0 k a0 a1 0 0) = some r := h
  clear h
  have H' := Aside0.mk H
  clear H
  go_enter Try.func39, Try.ntmps39
  go_wp2
  go_loopg [5, 6] k (fun kq v5 v6 w' => ∃ (x5_1 : Int) (x6_1 : Int), v5 = .int .i64 x5_1 ∧ v6 = .int .i64 x6_1 ∧ Aside0 (lodgerref01_Count.l0 kq a0 a1 x5_1 x6_1 = some r) ∧ Aside0 (kq ≤ k) ∧ Drawn0 w w')
  case atStart => exact ⟨(0), (0), (by first | rfl | (simp; done) | (simp [*]; done)), (by first | rfl | (simp; done) | (simp [*]; done)), H', ⟨Nat.le_refl _⟩, by repeat (first | exact Drawn0.refl _ | apply Drawn0.step)⟩
  case round =>
    clear H'
    try clear p2
    obtain ⟨x5_1, x6_1, rfl, rfl, HA, HK1, ⟨m1, rfl⟩⟩ := hrel
    cases gk with
    | zero => exact absurd HA.out (by simp [lodgerref01_Count.l0])
    | succ k1 =>
      have H := HA.out
      clear HA
      simp only [lodgerref01_Count.l0] at H
      by_cases c3 : x6_1 < a1
      · rw [if_pos c3] at H
        have c3b0 : decide (x6_1 < a1) = true := decide_eq_true c3
        clear c3
        replace H := Option.bind_eq_some_iff.mp H
        obtain ⟨t121, A40, H⟩ := H
        replace H : (if t121 = true then (lodgerref01_Count.l0 k1 a0 a1 (wrap64 (x5_1 + 1)) (wrap64 (x6_1 + 1))) else (lodgerref01_Count.l0 k1 a0 a1 x5_1 (wrap64 (x6_1 + 1)))) = some r := H
        have A4 := Aside0.mk A40
        clear A40
        by_cases c5 : t121 = true
        · subst c5
          have H1 : (lodgerref01_Count.l0 k1 a0 a1 (wrap64 (x5_1 + 1)) (wrap64 (x6_1 + 1))) = some r := by rw [if_pos rfl] at H; exact H
          clear H
          have H := H1
          clear H1
          have H' := Aside0.mk H
          clear H
          go_wp2_with (first | ((with_reducible refine gate_callee (f := 33) rfl ?_); refine goesL_ (some 14) rfl rfl Try.func33 (by kernel_rfl) rfl #[.int .u64 a0, .int .i64 x6_1] rfl (by (try simp only [List.map_toArray, List.map_cons, List.map_nil]); first | done | rfl | (simp only [List.length_drop, List.length_take]; rfl)) ?_; (with_reducible refine (lodgerref01_Has.calls k1 a0 x6_1 true _ A4.out).mono ?_); rintro e w' ⟨rfl, ⟨nd, rfl⟩⟩; refine ⟨_, rfl, ?_⟩) | (go_at_call 33; (with_reducible refine (lodgerref01_Has.calls k1 a0 x6_1 true _ A4.out).mono ?_); rintro e w' ⟨rfl, ⟨nd, rfl⟩⟩))
          go_roundg k1
          case measure => have := HK1.out; omega
          case rel => exact ⟨(wrap64 (x5_1 + 1)), (wrap64 (x6_1 + 1)), (by first | rfl | (simp; done) | (simp [*]; done)), (by first | rfl | (simp; done) | (simp [*]; done)), H', ⟨by have := HK1.out; omega⟩, by repeat (first | exact Drawn0.refl _ | apply Drawn0.step)⟩
        · replace c5 := Bool.eq_false_iff.mpr c5
          subst c5
          have H1 : (lodgerref01_Count.l0 k1 a0 a1 x5_1 (wrap64 (x6_1 + 1))) = some r := by rw [if_neg (show ¬ (false = true) by decide)] at H; exact H
          clear H
          have H := H1
          clear H1
          have H' := Aside0.mk H
          clear H
          go_wp2_with (first | ((with_reducible refine gate_callee (f := 33) rfl ?_); refine goesL_ (some 14) rfl rfl Try.func33 (by kernel_rfl) rfl #[.int .u64 a0, .int .i64 x6_1] rfl (by (try simp only [List.map_toArray, List.map_cons, List.map_nil]); first | done | rfl | (simp only [List.length_drop, List.length_take]; rfl)) ?_; (with_reducible refine (lodgerref01_Has.calls k1 a0 x6_1 false _ A4.out).mono ?_); rintro e w' ⟨rfl, ⟨nd, rfl⟩⟩; refine ⟨_, rfl, ?_⟩) | (go_at_call 33; (with_reducible refine (lodgerref01_Has.calls k1 a0 x6_1 false _ A4.out).mono ?_); rintro e w' ⟨rfl, ⟨nd, rfl⟩⟩))
          go_roundg k1
          case measure => have := HK1.out; omega
          case rel => exact ⟨(x5_1), (wrap64 (x6_1 + 1)), (by first | rfl | (simp; done) | (simp [*]; done)), (by first | rfl | (simp; done) | (simp [*]; done)), H', ⟨by have := HK1.out; omega⟩, by repeat (first | exact Drawn0.refl _ | apply Drawn0.step)⟩
      · rw [if_neg c3] at H
        have c3b0 : decide (x6_1 < a1) = false := decide_eq_false c3
        clear c3
        obtain rfl := Option.some.inj H
        go_wp2
        go_ret
        exact ⟨by first | rfl | (simp; done) | (simp [*]; done), by repeat (first | exact Drawn0.refl _ | apply Drawn0.step)⟩

/-! ### lodgerlaw01_BitsDo: function 7 -/
def lodgerlaw01_BitsDo.j0 : Nat → Int → Bool → Option (Bool)
  | 0, _, _ => none
  | k + 1, x8, x76 => if x76 = true then (some false) else ((bits_Mask.f x8).bind fun t135 => ((bits_Count.f k t135 64).bind fun t136 => (if t136 = x8 then (if x8 = 0 then (if x8 = 64 then (some true) else ((bits_Mask.f x8).bind fun t137 => ((bits_Has.f t137 x8).bind fun t138 => (some (!t138))))) else ((bits_Mask.f x8).bind fun t139 => ((bits_Has.f t139 (wrap64 (x8 - 1))).bind fun t140 => (if t140 = true then (if x8 = 64 then (some true) else ((bits_Mask.f x8).bind fun t141 => ((bits_Has.f t141 x8).bind fun t142 => (some (!t142))))) else (some false))))) else (some false))))
def lodgerlaw01_BitsDo.f (k : Nat) (a0 : Int) (a1 : Int) (a2 : Int) : Option (Bool) := (lodgerlaw01_awake.f k).bind fun t122 => (if t122 = true then ((bits_First.f k a0 (wrap64 (Int.tmod a2 65))).bind fun bt123 => ((lodgerref01_First.f k a0 (wrap64 (Int.tmod a2 65))).bind fun bt125 => ((bits_Has.f a0 (wrap64 (Int.tmod a1 64))).bind fun t127 => ((lodgerref01_Has.f k a0 (wrap64 (Int.tmod a1 64))).bind fun t128 => (if (t127 != t128) = true then (lodgerlaw01_BitsDo.j0 k (wrap64 (Int.tmod a2 65)) true) else ((bits_Set.f a0 (wrap64 (Int.tmod a1 64))).bind fun t129 => ((lodgerref01_Set.f k a0 (wrap64 (Int.tmod a1 64))).bind fun t130 => (if t129 = t130 then ((bits_Clear.f a0 (wrap64 (Int.tmod a1 64))).bind fun t131 => ((lodgerref01_Clear.f k a0 (wrap64 (Int.tmod a1 64))).bind fun t132 => (if t131 = t132 then (if bt123.1 = bt125.1 then (if (bt123.2 != bt125.2) = true then (lodgerlaw01_BitsDo.j0 k (wrap64 (Int.tmod a2 65)) true) else ((bits_Count.f k a0 (wrap64 (Int.tmod a2 65))).bind fun t133 => ((lodgerref01_Count.f k a0 (wrap64 (Int.tmod a2 65))).bind fun t134 => (lodgerlaw01_BitsDo.j0 k (wrap64 (Int.tmod a2 65)) (t133 != t134))))) else (lodgerlaw01_BitsDo.j0 k (wrap64 (Int.tmod a2 65)) true)) else (lodgerlaw01_BitsDo.j0 k (wrap64 (Int.tmod a2 65)) true)))) else (lodgerlaw01_BitsDo.j0 k (wrap64 (Int.tmod a2 65)) true))))))))) else (some false))
theorem lodgerlaw01_BitsDo.mono_l : ∀ k, (∀ y0 y1, LeO (lodgerlaw01_BitsDo.j0 k y0 y1) (lodgerlaw01_BitsDo.j0 (k + 1) y0 y1))
  | 0 => fun _ _ r h => by simp [lodgerlaw01_BitsDo.j0] at h
  | k + 1 => by
    have ih0 := lodgerlaw01_BitsDo.mono_l k
    · intro y0 y1
      unfold lodgerlaw01_BitsDo.j0
      repeat' first
      | (with_reducible exact ih0 _ _)
      | (with_reducible exact bits_Count.mono _ _ _)
      | (with_reducible exact bits_First.mono _ _ _)
      | (with_reducible exact lodgerlaw01_awake.mono _)
      | (with_reducible exact lodgerref01_Clear.mono _ _ _)
      | (with_reducible exact lodgerref01_Count.mono _ _ _)
      | (with_reducible exact lodgerref01_First.mono _ _ _)
      | (with_reducible exact lodgerref01_Has.mono _ _ _)
      | (with_reducible exact lodgerref01_Set.mono _ _ _)
      | (with_reducible exact LeO.refl _)
      | (with_reducible exact LeO.none _)
      | (with_reducible refine LeO.ite ?_ ?_)
      | (with_reducible refine LeO.bind ?_ (fun _ => ?_))
      | exact ih0 _ _
      | exact bits_Count.mono _ _ _
      | exact bits_First.mono _ _ _
      | exact lodgerlaw01_awake.mono _
      | exact lodgerref01_Clear.mono _ _ _
      | exact lodgerref01_Count.mono _ _ _
      | exact lodgerref01_First.mono _ _ _
      | exact lodgerref01_Has.mono _ _ _
      | exact lodgerref01_Set.mono _ _ _
      | exact LeO.none _
      | refine LeO.ite ?_ ?_
      | refine LeO.bind ?_ (fun _ => ?_)
theorem lodgerlaw01_BitsDo.mono : ∀ a0 a1 a2 k, LeO (lodgerlaw01_BitsDo.f k a0 a1 a2) (lodgerlaw01_BitsDo.f (k + 1) a0 a1 a2) := by
  intro a0 a1 a2 k
  have ih0 := lodgerlaw01_BitsDo.mono_l k
  unfold lodgerlaw01_BitsDo.f
  repeat' first
      | (with_reducible exact ih0 _ _)
      | (with_reducible exact bits_Count.mono _ _ _)
      | (with_reducible exact bits_First.mono _ _ _)
      | (with_reducible exact lodgerlaw01_awake.mono _)
      | (with_reducible exact lodgerref01_Clear.mono _ _ _)
      | (with_reducible exact lodgerref01_Count.mono _ _ _)
      | (with_reducible exact lodgerref01_First.mono _ _ _)
      | (with_reducible exact lodgerref01_Has.mono _ _ _)
      | (with_reducible exact lodgerref01_Set.mono _ _ _)
      | (with_reducible exact LeO.refl _)
      | (with_reducible exact LeO.none _)
      | (with_reducible refine LeO.ite ?_ ?_)
      | (with_reducible refine LeO.bind ?_ (fun _ => ?_))
      | exact ih0 _ _
      | exact bits_Count.mono _ _ _
      | exact bits_First.mono _ _ _
      | exact lodgerlaw01_awake.mono _
      | exact lodgerref01_Clear.mono _ _ _
      | exact lodgerref01_Count.mono _ _ _
      | exact lodgerref01_First.mono _ _ _
      | exact lodgerref01_Has.mono _ _ _
      | exact lodgerref01_Set.mono _ _ _
      | exact LeO.none _
      | refine LeO.ite ?_ ?_
      | refine LeO.bind ?_ (fun _ => ?_)
set_option maxHeartbeats 8000000 in
set_option maxRecDepth 100000 in
theorem lodgerlaw01_BitsDo.calls (k : Nat) (a0 : Int) (a1 : Int) (a2 : Int) (r : Bool) (w : World) (hr_ : r = true) (h : lodgerlaw01_BitsDo.f k a0 a1 a2 = some r) :
    Calls Try.prog 7 #[.int .u64 a0, .int .u8 a1, .int .u8 a2] w fun e w' => e = .returned (.bool r) ∧ Drawn0 w w' := by
  have H : ((lodgerlaw01_awake.f k).bind fun t122 => (if t122 = true then ((bits_First.f k a0 (wrap64 (Int.tmod a2 65))).bind fun bt123 => ((lodgerref01_First.f k a0 (wrap64 (Int.tmod a2 65))).bind fun bt125 => ((bits_Has.f a0 (wrap64 (Int.tmod a1 64))).bind fun t127 => ((lodgerref01_Has.f k a0 (wrap64 (Int.tmod a1 64))).bind fun t128 => (if (t127 != t128) = true then (lodgerlaw01_BitsDo.j0 k (wrap64 (Int.tmod a2 65)) true) else ((bits_Set.f a0 (wrap64 (Int.tmod a1 64))).bind fun t129 => ((lodgerref01_Set.f k a0 (wrap64 (Int.tmod a1 64))).bind fun t130 => (if t129 = t130 then ((bits_Clear.f a0 (wrap64 (Int.tmod a1 64))).bind fun t131 => ((lodgerref01_Clear.f k a0 (wrap64 (Int.tmod a1 64))).bind fun t132 => (if t131 = t132 then (if bt123.1 = bt125.1 then (if (bt123.2 != bt125.2) = true then (lodgerlaw01_BitsDo.j0 k (wrap64 (Int.tmod a2 65)) true) else ((bits_Count.f k a0 (wrap64 (Int.tmod a2 65))).bind fun t133 => ((lodgerref01_Count.f k a0 (wrap64 (Int.tmod a2 65))).bind fun t134 => (lodgerlaw01_BitsDo.j0 k (wrap64 (Int.tmod a2 65)) (t133 != t134))))) else (lodgerlaw01_BitsDo.j0 k (wrap64 (Int.tmod a2 65)) true)) else (lodgerlaw01_BitsDo.j0 k (wrap64 (Int.tmod a2 65)) true)))) else (lodgerlaw01_BitsDo.j0 k (wrap64 (Int.tmod a2 65)) true))))))))) else (some false))) = some r := h
  clear h
  replace H := Option.bind_eq_some_iff.mp H
  obtain ⟨t122, A40, H⟩ := H
  replace H : (if t122 = true then ((bits_First.f k a0 (wrap64 (Int.tmod a2 65))).bind fun bt123 => ((lodgerref01_First.f k a0 (wrap64 (Int.tmod a2 65))).bind fun bt125 => ((bits_Has.f a0 (wrap64 (Int.tmod a1 64))).bind fun t127 => ((lodgerref01_Has.f k a0 (wrap64 (Int.tmod a1 64))).bind fun t128 => (if (t127 != t128) = true then (lodgerlaw01_BitsDo.j0 k (wrap64 (Int.tmod a2 65)) true) else ((bits_Set.f a0 (wrap64 (Int.tmod a1 64))).bind fun t129 => ((lodgerref01_Set.f k a0 (wrap64 (Int.tmod a1 64))).bind fun t130 => (if t129 = t130 then ((bits_Clear.f a0 (wrap64 (Int.tmod a1 64))).bind fun t131 => ((lodgerref01_Clear.f k a0 (wrap64 (Int.tmod a1 64))).bind fun t132 => (if t131 = t132 then (if bt123.1 = bt125.1 then (if (bt123.2 != bt125.2) = true then (lodgerlaw01_BitsDo.j0 k (wrap64 (Int.tmod a2 65)) true) else ((bits_Count.f k a0 (wrap64 (Int.tmod a2 65))).bind fun t133 => ((lodgerref01_Count.f k a0 (wrap64 (Int.tmod a2 65))).bind fun t134 => (lodgerlaw01_BitsDo.j0 k (wrap64 (Int.tmod a2 65)) (t133 != t134))))) else (lodgerlaw01_BitsDo.j0 k (wrap64 (Int.tmod a2 65)) true)) else (lodgerlaw01_BitsDo.j0 k (wrap64 (Int.tmod a2 65)) true)))) else (lodgerlaw01_BitsDo.j0 k (wrap64 (Int.tmod a2 65)) true))))))))) else (some false)) = some r := H
  have A4 := Aside0.mk A40
  clear A40
  by_cases c5 : t122 = true
  · subst c5
    have H1 : ((bits_First.f k a0 (wrap64 (Int.tmod a2 65))).bind fun bt123 => ((lodgerref01_First.f k a0 (wrap64 (Int.tmod a2 65))).bind fun bt125 => ((bits_Has.f a0 (wrap64 (Int.tmod a1 64))).bind fun t127 => ((lodgerref01_Has.f k a0 (wrap64 (Int.tmod a1 64))).bind fun t128 => (if (t127 != t128) = true then (lodgerlaw01_BitsDo.j0 k (wrap64 (Int.tmod a2 65)) true) else ((bits_Set.f a0 (wrap64 (Int.tmod a1 64))).bind fun t129 => ((lodgerref01_Set.f k a0 (wrap64 (Int.tmod a1 64))).bind fun t130 => (if t129 = t130 then ((bits_Clear.f a0 (wrap64 (Int.tmod a1 64))).bind fun t131 => ((lodgerref01_Clear.f k a0 (wrap64 (Int.tmod a1 64))).bind fun t132 => (if t131 = t132 then (if bt123.1 = bt125.1 then (if (bt123.2 != bt125.2) = true then (lodgerlaw01_BitsDo.j0 k (wrap64 (Int.tmod a2 65)) true) else ((bits_Count.f k a0 (wrap64 (Int.tmod a2 65))).bind fun t133 => ((lodgerref01_Count.f k a0 (wrap64 (Int.tmod a2 65))).bind fun t134 => (lodgerlaw01_BitsDo.j0 k (wrap64 (Int.tmod a2 65)) (t133 != t134))))) else (lodgerlaw01_BitsDo.j0 k (wrap64 (Int.tmod a2 65)) true)) else (lodgerlaw01_BitsDo.j0 k (wrap64 (Int.tmod a2 65)) true)))) else (lodgerlaw01_BitsDo.j0 k (wrap64 (Int.tmod a2 65)) true))))))))) = some r := by rw [if_pos rfl] at H; exact H
    clear H
    have H := H1
    clear H1
    replace H := Option.bind_eq_some_iff.mp H
    obtain ⟨⟨t123, t124⟩, A60, H⟩ := H
    replace H : ((lodgerref01_First.f k a0 (wrap64 (Int.tmod a2 65))).bind fun bt125 => ((bits_Has.f a0 (wrap64 (Int.tmod a1 64))).bind fun t127 => ((lodgerref01_Has.f k a0 (wrap64 (Int.tmod a1 64))).bind fun t128 => (if (t127 != t128) = true then (lodgerlaw01_BitsDo.j0 k (wrap64 (Int.tmod a2 65)) true) else ((bits_Set.f a0 (wrap64 (Int.tmod a1 64))).bind fun t129 => ((lodgerref01_Set.f k a0 (wrap64 (Int.tmod a1 64))).bind fun t130 => (if t129 = t130 then ((bits_Clear.f a0 (wrap64 (Int.tmod a1 64))).bind fun t131 => ((lodgerref01_Clear.f k a0 (wrap64 (Int.tmod a1 64))).bind fun t132 => (if t131 = t132 then (if t123 = bt125.1 then (if (t124 != bt125.2) = true then (lodgerlaw01_BitsDo.j0 k (wrap64 (Int.tmod a2 65)) true) else ((bits_Count.f k a0 (wrap64 (Int.tmod a2 65))).bind fun t133 => ((lodgerref01_Count.f k a0 (wrap64 (Int.tmod a2 65))).bind fun t134 => (lodgerlaw01_BitsDo.j0 k (wrap64 (Int.tmod a2 65)) (t133 != t134))))) else (lodgerlaw01_BitsDo.j0 k (wrap64 (Int.tmod a2 65)) true)) else (lodgerlaw01_BitsDo.j0 k (wrap64 (Int.tmod a2 65)) true)))) else (lodgerlaw01_BitsDo.j0 k (wrap64 (Int.tmod a2 65)) true)))))))) = some r := H
    have A6 := Aside0.mk A60
    clear A60
    replace H := Option.bind_eq_some_iff.mp H
    obtain ⟨⟨t125, t126⟩, A70, H⟩ := H
    replace H : ((bits_Has.f a0 (wrap64 (Int.tmod a1 64))).bind fun t127 => ((lodgerref01_Has.f k a0 (wrap64 (Int.tmod a1 64))).bind fun t128 => (if (t127 != t128) = true then (lodgerlaw01_BitsDo.j0 k (wrap64 (Int.tmod a2 65)) true) else ((bits_Set.f a0 (wrap64 (Int.tmod a1 64))).bind fun t129 => ((lodgerref01_Set.f k a0 (wrap64 (Int.tmod a1 64))).bind fun t130 => (if t129 = t130 then ((bits_Clear.f a0 (wrap64 (Int.tmod a1 64))).bind fun t131 => ((lodgerref01_Clear.f k a0 (wrap64 (Int.tmod a1 64))).bind fun t132 => (if t131 = t132 then (if t123 = t125 then (if (t124 != t126) = true then (lodgerlaw01_BitsDo.j0 k (wrap64 (Int.tmod a2 65)) true) else ((bits_Count.f k a0 (wrap64 (Int.tmod a2 65))).bind fun t133 => ((lodgerref01_Count.f k a0 (wrap64 (Int.tmod a2 65))).bind fun t134 => (lodgerlaw01_BitsDo.j0 k (wrap64 (Int.tmod a2 65)) (t133 != t134))))) else (lodgerlaw01_BitsDo.j0 k (wrap64 (Int.tmod a2 65)) true)) else (lodgerlaw01_BitsDo.j0 k (wrap64 (Int.tmod a2 65)) true)))) else (lodgerlaw01_BitsDo.j0 k (wrap64 (Int.tmod a2 65)) true))))))) = some r := H
    have A7 := Aside0.mk A70
    clear A70
    have HC8 := Aside0.mk H
    clear H
    go_enter Try.func7, Try.ntmps7
    go_upto_region 7 with (first | ((with_reducible refine gate_callee (f := 29) rfl ?_); refine goesL_ (some 13) rfl rfl Try.func29 (by kernel_rfl) rfl #[] rfl (by (try simp only [List.map_toArray, List.map_cons, List.map_nil]); first | done | rfl | (simp only [List.length_drop, List.length_take]; rfl)) ?_; (with_reducible refine (lodgerlaw01_awake.calls k  true _ A4.out).mono ?_); rintro e w' ⟨rfl, ⟨nd, rfl⟩⟩; refine ⟨_, rfl, ?_⟩) | ((with_reducible refine gate_callee (f := 30) rfl ?_); refine goesL_ (some 24) rfl rfl Try.func30 (by kernel_rfl) rfl #[.int .u64 a0, .int .i64 (wrap64 (Int.tmod a2 65))] rfl (by (try simp only [List.map_toArray, List.map_cons, List.map_nil]); first | done | rfl | (simp only [List.length_drop, List.length_take]; rfl)) ?_; (with_reducible refine (bits_First.calls k a0 (wrap64 (Int.tmod a2 65)) t123 t124 _ A6.out).mono ?_); rintro e w' ⟨rfl, ⟨nd, rfl⟩⟩; refine ⟨_, rfl, ?_⟩) | ((with_reducible refine gate_callee (f := 31) rfl ?_); refine goesL_ (some 30) rfl rfl Try.func31 (by kernel_rfl) rfl #[.int .u64 a0, .int .i64 (wrap64 (Int.tmod a2 65))] rfl (by (try simp only [List.map_toArray, List.map_cons, List.map_nil]); first | done | rfl | (simp only [List.length_drop, List.length_take]; rfl)) ?_; (with_reducible refine (lodgerref01_First.calls k a0 (wrap64 (Int.tmod a2 65)) t125 t126 _ A7.out).mono ?_); rintro e w' ⟨rfl, ⟨nd, rfl⟩⟩; refine ⟨_, rfl, ?_⟩))
    (try simp only [Act.put, List.setIfInBounds_toArray, List.set_cons_zero, List.set_cons_succ])
    go_cut [76] (fun v76 wc => ∃ (kq : Nat) (x76_7 : Bool), v76 = .bool x76_7 ∧ Aside0 (lodgerlaw01_BitsDo.j0 kq (wrap64 (Int.tmod a2 65)) x76_7 = some r) ∧ Aside0 (kq ≤ k) ∧ Drawn0 w wc)
    case first =>
      have H := HC8.out
      clear HC8
      replace H := Option.bind_eq_some_iff.mp H
      obtain ⟨t127, A90, H⟩ := H
      replace H : ((lodgerref01_Has.f k a0 (wrap64 (Int.tmod a1 64))).bind fun t128 => (if (t127 != t128) = true then (lodgerlaw01_BitsDo.j0 k (wrap64 (Int.tmod a2 65)) true) else ((bits_Set.f a0 (wrap64 (Int.tmod a1 64))).bind fun t129 => ((lodgerref01_Set.f k a0 (wrap64 (Int.tmod a1 64))).bind fun t130 => (if t129 = t130 then ((bits_Clear.f a0 (wrap64 (Int.tmod a1 64))).bind fun t131 => ((lodgerref01_Clear.f k a0 (wrap64 (Int.tmod a1 64))).bind fun t132 => (if t131 = t132 then (if t123 = t125 then (if (t124 != t126) = true then (lodgerlaw01_BitsDo.j0 k (wrap64 (Int.tmod a2 65)) true) else ((bits_Count.f k a0 (wrap64 (Int.tmod a2 65))).bind fun t133 => ((lodgerref01_Count.f k a0 (wrap64 (Int.tmod a2 65))).bind fun t134 => (lodgerlaw01_BitsDo.j0 k (wrap64 (Int.tmod a2 65)) (t133 != t134))))) else (lodgerlaw01_BitsDo.j0 k (wrap64 (Int.tmod a2 65)) true)) else (lodgerlaw01_BitsDo.j0 k (wrap64 (Int.tmod a2 65)) true)))) else (lodgerlaw01_BitsDo.j0 k (wrap64 (Int.tmod a2 65)) true)))))) = some r := H
      have A9 := Aside0.mk A90
      clear A90
      replace H := Option.bind_eq_some_iff.mp H
      obtain ⟨t128, A100, H⟩ := H
      replace H : (if (t127 != t128) = true then (lodgerlaw01_BitsDo.j0 k (wrap64 (Int.tmod a2 65)) true) else ((bits_Set.f a0 (wrap64 (Int.tmod a1 64))).bind fun t129 => ((lodgerref01_Set.f k a0 (wrap64 (Int.tmod a1 64))).bind fun t130 => (if t129 = t130 then ((bits_Clear.f a0 (wrap64 (Int.tmod a1 64))).bind fun t131 => ((lodgerref01_Clear.f k a0 (wrap64 (Int.tmod a1 64))).bind fun t132 => (if t131 = t132 then (if t123 = t125 then (if (t124 != t126) = true then (lodgerlaw01_BitsDo.j0 k (wrap64 (Int.tmod a2 65)) true) else ((bits_Count.f k a0 (wrap64 (Int.tmod a2 65))).bind fun t133 => ((lodgerref01_Count.f k a0 (wrap64 (Int.tmod a2 65))).bind fun t134 => (lodgerlaw01_BitsDo.j0 k (wrap64 (Int.tmod a2 65)) (t133 != t134))))) else (lodgerlaw01_BitsDo.j0 k (wrap64 (Int.tmod a2 65)) true)) else (lodgerlaw01_BitsDo.j0 k (wrap64 (Int.tmod a2 65)) true)))) else (lodgerlaw01_BitsDo.j0 k (wrap64 (Int.tmod a2 65)) true))))) = some r := H
      have A10 := Aside0.mk A100
      clear A100
      by_cases c11 : (t127 != t128) = true
      · rw [if_pos c11] at H
        have c11b0 : (t127 != t128) = true := c11
        (try (have c11b1 : decide (t127 = t128) = false := by simpa using c11))
        (try (have c11b2 : (t127 == t128) = false := by simpa using c11))
        (try (have c11b3 : ¬ (t127 = t128) := by simpa using c11))
        clear c11
        (first | rw [c11b0] | (simp only [i64_w, i32_w]; rw [c11b0]) | skip)
        have H' := Aside0.mk H
        clear H
        go_wp2_with (first | ((with_reducible refine gate_callee (f := 32) rfl ?_); refine goesL_ (some 35) rfl rfl Try.func32 (by kernel_rfl) rfl #[.int .u64 a0, .int .i64 (wrap64 (Int.tmod a1 64))] rfl (by (try simp only [List.map_toArray, List.map_cons, List.map_nil]); first | done | rfl | (simp only [List.length_drop, List.length_take]; rfl)) ?_; (with_reducible refine (bits_Has.calls a0 (wrap64 (Int.tmod a1 64)) t127 _ A9.out).mono ?_); rintro e w' ⟨rfl, ⟨nd, rfl⟩⟩; refine ⟨_, rfl, ?_⟩) | ((with_reducible refine gate_callee (f := 33) rfl ?_); refine goesL_ (some 38) rfl rfl Try.func33 (by kernel_rfl) rfl #[.int .u64 a0, .int .i64 (wrap64 (Int.tmod a1 64))] rfl (by (try simp only [List.map_toArray, List.map_cons, List.map_nil]); first | done | rfl | (simp only [List.length_drop, List.length_take]; rfl)) ?_; (with_reducible refine (lodgerref01_Has.calls k a0 (wrap64 (Int.tmod a1 64)) t128 _ A10.out).mono ?_); rintro e w' ⟨rfl, ⟨nd, rfl⟩⟩; refine ⟨_, rfl, ?_⟩) | (go_at_call 32; (with_reducible refine (bits_Has.calls a0 (wrap64 (Int.tmod a1 64)) t127 _ A9.out).mono ?_); rintro e w' ⟨rfl, ⟨nd, rfl⟩⟩) | (go_at_call 33; (with_reducible refine (lodgerref01_Has.calls k a0 (wrap64 (Int.tmod a1 64)) t128 _ A10.out).mono ?_); rintro e w' ⟨rfl, ⟨nd, rfl⟩⟩))
        go_meet
        case rel => exact ⟨_, (true), (by first | rfl | (simp; done) | (simp [*]; done)), H', ⟨by first | omega | exact Nat.le_refl _⟩, by repeat (first | exact Drawn0.refl _ | apply Drawn0.step)⟩
      · rw [if_neg c11] at H
        have c11b0 : (t127 != t128) = false := by simpa using c11
        (try (have c11b1 : decide (t127 = t128) = true := by simpa using c11))
        (try (have c11b2 : (t127 == t128) = true := by simpa using c11))
        clear c11
        (first | rw [c11b0] | (simp only [i64_w, i32_w]; rw [c11b0]) | skip)
        replace H := Option.bind_eq_some_iff.mp H
        obtain ⟨t129, A120, H⟩ := H
        replace H : ((lodgerref01_Set.f k a0 (wrap64 (Int.tmod a1 64))).bind fun t130 => (if t129 = t130 then ((bits_Clear.f a0 (wrap64 (Int.tmod a1 64))).bind fun t131 => ((lodgerref01_Clear.f k a0 (wrap64 (Int.tmod a1 64))).bind fun t132 => (if t131 = t132 then (if t123 = t125 then (if (t124 != t126) = true then (lodgerlaw01_BitsDo.j0 k (wrap64 (Int.tmod a2 65)) true) else ((bits_Count.f k a0 (wrap64 (Int.tmod a2 65))).bind fun t133 => ((lodgerref01_Count.f k a0 (wrap64 (Int.tmod a2 65))).bind fun t134 => (lodgerlaw01_BitsDo.j0 k (wrap64 (Int.tmod a2 65)) (t133 != t134))))) else (lodgerlaw01_BitsDo.j0 k (wrap64 (Int.tmod a2 65)) true)) else (lodgerlaw01_BitsDo.j0 k (wrap64 (Int.tmod a2 65)) true)))) else (lodgerlaw01_BitsDo.j0 k (wrap64 (Int.tmod a2 65)) true))) = some r := H
        have A12 := Aside0.mk A120
        clear A120
        replace H := Option.bind_eq_some_iff.mp H
        obtain ⟨t130, A130, H⟩ := H
        replace H : (if t129 = t130 then ((bits_Clear.f a0 (wrap64 (Int.tmod a1 64))).bind fun t131 => ((lodgerref01_Clear.f k a0 (wrap64 (Int.tmod a1 64))).bind fun t132 => (if t131 = t132 then (if t123 = t125 then (if (t124 != t126) = true then (lodgerlaw01_BitsDo.j0 k (wrap64 (Int.tmod a2 65)) true) else ((bits_Count.f k a0 (wrap64 (Int.tmod a2 65))).bind fun t133 => ((lodgerref01_Count.f k a0 (wrap64 (Int.tmod a2 65))).bind fun t134 => (lodgerlaw01_BitsDo.j0 k (wrap64 (Int.tmod a2 65)) (t133 != t134))))) else (lodgerlaw01_BitsDo.j0 k (wrap64 (Int.tmod a2 65)) true)) else (lodgerlaw01_BitsDo.j0 k (wrap64 (Int.tmod a2 65)) true)))) else (lodgerlaw01_BitsDo.j0 k (wrap64 (Int.tmod a2 65)) true)) = some r := H
        have A13 := Aside0.mk A130
        clear A130
        by_cases c14 : t129 = t130
        · rw [if_pos c14] at H
          have c14b0 : (t129 == t130) = true := beq_iff_eq.mpr c14
          have c14b1 : (t129 != t130) = false := bne_eq_false_iff_eq.mpr c14
          clear c14
          replace H := Option.bind_eq_some_iff.mp H
          obtain ⟨t131, A150, H⟩ := H
          replace H : ((lodgerref01_Clear.f k a0 (wrap64 (Int.tmod a1 64))).bind fun t132 => (if t131 = t132 then (if t123 = t125 then (if (t124 != t126) = true then (lodgerlaw01_BitsDo.j0 k (wrap64 (Int.tmod a2 65)) true) else ((bits_Count.f k a0 (wrap64 (Int.tmod a2 65))).bind fun t133 => ((lodgerref01_Count.f k a0 (wrap64 (Int.tmod a2 65))).bind fun t134 => (lodgerlaw01_BitsDo.j0 k (wrap64 (Int.tmod a2 65)) (t133 != t134))))) else (lodgerlaw01_BitsDo.j0 k (wrap64 (Int.tmod a2 65)) true)) else (lodgerlaw01_BitsDo.j0 k (wrap64 (Int.tmod a2 65)) true))) = some r := H
          have A15 := Aside0.mk A150
          clear A150
          replace H := Option.bind_eq_some_iff.mp H
          obtain ⟨t132, A160, H⟩ := H
          replace H : (if t131 = t132 then (if t123 = t125 then (if (t124 != t126) = true then (lodgerlaw01_BitsDo.j0 k (wrap64 (Int.tmod a2 65)) true) else ((bits_Count.f k a0 (wrap64 (Int.tmod a2 65))).bind fun t133 => ((lodgerref01_Count.f k a0 (wrap64 (Int.tmod a2 65))).bind fun t134 => (lodgerlaw01_BitsDo.j0 k (wrap64 (Int.tmod a2 65)) (t133 != t134))))) else (lodgerlaw01_BitsDo.j0 k (wrap64 (Int.tmod a2 65)) true)) else (lodgerlaw01_BitsDo.j0 k (wrap64 (Int.tmod a2 65)) true)) = some r := H
          have A16 := Aside0.mk A160
          clear A160
          by_cases c17 : t131 = t132
          · rw [if_pos c17] at H
            have c17b0 : (t131 == t132) = true := beq_iff_eq.mpr c17
            have c17b1 : (t131 != t132) = false := bne_eq_false_iff_eq.mpr c17
            clear c17
            by_cases c18 : t123 = t125
            · rw [if_pos c18] at H
              have c18b0 : (t123 == t125) = true := beq_iff_eq.mpr c18
              have c18b1 : (t123 != t125) = false := bne_eq_false_iff_eq.mpr c18
              clear c18
              by_cases c19 : (t124 != t126) = true
              · rw [if_pos c19] at H
                have c19b0 : (t124 != t126) = true := c19
                (try (have c19b1 : decide (t124 = t126) = false := by simpa using c19))
                (try (have c19b2 : (t124 == t126) = false := by simpa using c19))
                (try (have c19b3 : ¬ (t124 = t126) := by simpa using c19))
                clear c19
                have H' := Aside0.mk H
                clear H
                go_wp2_with (first | ((with_reducible refine gate_callee (f := 32) rfl ?_); refine goesL_ (some 35) rfl rfl Try.func32 (by kernel_rfl) rfl #[.int .u64 a0, .int .i64 (wrap64 (Int.tmod a1 64))] rfl (by (try simp only [List.map_toArray, List.map_cons, List.map_nil]); first | done | rfl | (simp only [List.length_drop, List.length_take]; rfl)) ?_; (with_reducible refine (bits_Has.calls a0 (wrap64 (Int.tmod a1 64)) t127 _ A9.out).mono ?_); rintro e w' ⟨rfl, ⟨nd, rfl⟩⟩; refine ⟨_, rfl, ?_⟩) | ((with_reducible refine gate_callee (f := 33) rfl ?_); refine goesL_ (some 38) rfl rfl Try.func33 (by kernel_rfl) rfl #[.int .u64 a0, .int .i64 (wrap64 (Int.tmod a1 64))] rfl (by (try simp only [List.map_toArray, List.map_cons, List.map_nil]); first | done | rfl | (simp only [List.length_drop, List.length_take]; rfl)) ?_; (with_reducible refine (lodgerref01_Has.calls k a0 (wrap64 (Int.tmod a1 64)) t128 _ A10.out).mono ?_); rintro e w' ⟨rfl, ⟨nd, rfl⟩⟩; refine ⟨_, rfl, ?_⟩) | (go_at_call 34; (with_reducible refine (bits_Set.calls a0 (wrap64 (Int.tmod a1 64)) t129 _ A12.out).mono ?_); rintro e w' ⟨rfl, ⟨nd, rfl⟩⟩) | (go_at_call 35; (with_reducible refine (lodgerref01_Set.calls k a0 (wrap64 (Int.tmod a1 64)) t130 _ A13.out).mono ?_); rintro e w' ⟨rfl, ⟨nd, rfl⟩⟩) | (go_at_call 36; (with_reducible refine (bits_Clear.calls a0 (wrap64 (Int.tmod a1 64)) t131 _ A15.out).mono ?_); rintro e w' ⟨rfl, ⟨nd, rfl⟩⟩) | (go_at_call 37; (with_reducible refine (lodgerref01_Clear.calls k a0 (wrap64 (Int.tmod a1 64)) t132 _ A16.out).mono ?_); rintro e w' ⟨rfl, ⟨nd, rfl⟩⟩) | (go_at_call 32; (with_reducible refine (bits_Has.calls a0 (wrap64 (Int.tmod a1 64)) t127 _ A9.out).mono ?_); rintro e w' ⟨rfl, ⟨nd, rfl⟩⟩) | (go_at_call 33; (with_reducible refine (lodgerref01_Has.calls k a0 (wrap64 (Int.tmod a1 64)) t128 _ A10.out).mono ?_); rintro e w' ⟨rfl, ⟨nd, rfl⟩⟩))
                go_meet
                case rel => exact ⟨_, (true), (by first | rfl | (simp; done) | (simp [*]; done)), H', ⟨by first | omega | exact Nat.le_refl _⟩, by repeat (first | exact Drawn0.refl _ | apply Drawn0.step)⟩
              · rw [if_neg c19] at H
                have c19b0 : (t124 != t126) = false := by simpa using c19
                (try (have c19b1 : decide (t124 = t126) = true := by simpa using c19))
                (try (have c19b2 : (t124 == t126) = true := by simpa using c19))
                clear c19
                replace H := Option.bind_eq_some_iff.mp H
                obtain ⟨t133, A200, H⟩ := H
                replace H : ((lodgerref01_Count.f k a0 (wrap64 (Int.tmod a2 65))).bind fun t134 => (lodgerlaw01_BitsDo.j0 k (wrap64 (Int.tmod a2 65)) (t133 != t134))) = some r := H
                have A20 := Aside0.mk A200
                clear A200
                replace H := Option.bind_eq_some_iff.mp H
                obtain ⟨t134, A210, H⟩ := H
                replace H : (lodgerlaw01_BitsDo.j0 k (wrap64 (Int.tmod a2 65)) (t133 != t134)) = some r := H
                have A21 := Aside0.mk A210
                clear A210
                have H' := Aside0.mk H
                clear H
                go_wp2_with (first | ((with_reducible refine gate_callee (f := 32) rfl ?_); refine goesL_ (some 35) rfl rfl Try.func32 (by kernel_rfl) rfl #[.int .u64 a0, .int .i64 (wrap64 (Int.tmod a1 64))] rfl (by (try simp only [List.map_toArray, List.map_cons, List.map_nil]); first | done | rfl | (simp only [List.length_drop, List.length_take]; rfl)) ?_; (with_reducible refine (bits_Has.calls a0 (wrap64 (Int.tmod a1 64)) t127 _ A9.out).mono ?_); rintro e w' ⟨rfl, ⟨nd, rfl⟩⟩; refine ⟨_, rfl, ?_⟩) | ((with_reducible refine gate_callee (f := 33) rfl ?_); refine goesL_ (some 38) rfl rfl Try.func33 (by kernel_rfl) rfl #[.int .u64 a0, .int .i64 (wrap64 (Int.tmod a1 64))] rfl (by (try simp only [List.map_toArray, List.map_cons, List.map_nil]); first | done | rfl | (simp only [List.length_drop, List.length_take]; rfl)) ?_; (with_reducible refine (lodgerref01_Has.calls k a0 (wrap64 (Int.tmod a1 64)) t128 _ A10.out).mono ?_); rintro e w' ⟨rfl, ⟨nd, rfl⟩⟩; refine ⟨_, rfl, ?_⟩) | (go_at_call 34; (with_reducible refine (bits_Set.calls a0 (wrap64 (Int.tmod a1 64)) t129 _ A12.out).mono ?_); rintro e w' ⟨rfl, ⟨nd, rfl⟩⟩) | (go_at_call 35; (with_reducible refine (lodgerref01_Set.calls k a0 (wrap64 (Int.tmod a1 64)) t130 _ A13.out).mono ?_); rintro e w' ⟨rfl, ⟨nd, rfl⟩⟩) | (go_at_call 36; (with_reducible refine (bits_Clear.calls a0 (wrap64 (Int.tmod a1 64)) t131 _ A15.out).mono ?_); rintro e w' ⟨rfl, ⟨nd, rfl⟩⟩) | (go_at_call 37; (with_reducible refine (lodgerref01_Clear.calls k a0 (wrap64 (Int.tmod a1 64)) t132 _ A16.out).mono ?_); rintro e w' ⟨rfl, ⟨nd, rfl⟩⟩) | (go_at_call 38; (with_reducible refine (bits_Count.calls k a0 (wrap64 (Int.tmod a2 65)) t133 _ A20.out).mono ?_); rintro e w' ⟨rfl, ⟨nd, rfl⟩⟩) | (go_at_call 39; (with_reducible refine (lodgerref01_Count.calls k a0 (wrap64 (Int.tmod a2 65)) t134 _ A21.out).mono ?_); rintro e w' ⟨rfl, ⟨nd, rfl⟩⟩) | (go_at_call 32; (with_reducible refine (bits_Has.calls a0 (wrap64 (Int.tmod a1 64)) t127 _ A9.out).mono ?_); rintro e w' ⟨rfl, ⟨nd, rfl⟩⟩) | (go_at_call 33; (with_reducible refine (lodgerref01_Has.calls k a0 (wrap64 (Int.tmod a1 64)) t128 _ A10.out).mono ?_); rintro e w' ⟨rfl, ⟨nd, rfl⟩⟩))
                go_meet
                case rel => exact ⟨_, ((t133 != t134)), (by first | rfl | (simp; done) | (simp [*]; done)), H', ⟨by first | omega | exact Nat.le_refl _⟩, by repeat (first | exact Drawn0.refl _ | apply Drawn0.step)⟩
            · rw [if_neg c18] at H
              have c18b0 : (t123 == t125) = false := beq_eq_false_iff_ne.mpr c18
              have c18b1 : (t123 != t125) = true := bne_iff_ne.mpr c18
              have H' := Aside0.mk H
              clear H
              go_wp2_with (first | ((with_reducible refine gate_callee (f := 32) rfl ?_); refine goesL_ (some 35) rfl rfl Try.func32 (by kernel_rfl) rfl #[.int .u64 a0, .int .i64 (wrap64 (Int.tmod a1 64))] rfl (by (try simp only [List.map_toArray, List.map_cons, List.map_nil]); first | done | rfl | (simp only [List.length_drop, List.length_take]; rfl)) ?_; (with_reducible refine (bits_Has.calls a0 (wrap64 (Int.tmod a1 64)) t127 _ A9.out).mono ?_); rintro e w' ⟨rfl, ⟨nd, rfl⟩⟩; refine ⟨_, rfl, ?_⟩) | ((with_reducible refine gate_callee (f := 33) rfl ?_); refine goesL_ (some 38) rfl rfl Try.func33 (by kernel_rfl) rfl #[.int .u64 a0, .int .i64 (wrap64 (Int.tmod a1 64))] rfl (by (try simp only [List.map_toArray, List.map_cons, List.map_nil]); first | done | rfl | (simp only [List.length_drop, List.length_take]; rfl)) ?_; (with_reducible refine (lodgerref01_Has.calls k a0 (wrap64 (Int.tmod a1 64)) t128 _ A10.out).mono ?_); rintro e w' ⟨rfl, ⟨nd, rfl⟩⟩; refine ⟨_, rfl, ?_⟩) | (go_at_call 34; (with_reducible refine (bits_Set.calls a0 (wrap64 (Int.tmod a1 64)) t129 _ A12.out).mono ?_); rintro e w' ⟨rfl, ⟨nd, rfl⟩⟩) | (go_at_call 35; (with_reducible refine (lodgerref01_Set.calls k a0 (wrap64 (Int.tmod a1 64)) t130 _ A13.out).mono ?_); rintro e w' ⟨rfl, ⟨nd, rfl⟩⟩) | (go_at_call 36; (with_reducible refine (bits_Clear.calls a0 (wrap64 (Int.tmod a1 64)) t131 _ A15.out).mono ?_); rintro e w' ⟨rfl, ⟨nd, rfl⟩⟩) | (go_at_call 37; (with_reducible refine (lodgerref01_Clear.calls k a0 (wrap64 (Int.tmod a1 64)) t132 _ A16.out).mono ?_); rintro e w' ⟨rfl, ⟨nd, rfl⟩⟩) | (go_at_call 32; (with_reducible refine (bits_Has.calls a0 (wrap64 (Int.tmod a1 64)) t127 _ A9.out).mono ?_); rintro e w' ⟨rfl, ⟨nd, rfl⟩⟩) | (go_at_call 33; (with_reducible refine (lodgerref01_Has.calls k a0 (wrap64 (Int.tmod a1 64)) t128 _ A10.out).mono ?_); rintro e w' ⟨rfl, ⟨nd, rfl⟩⟩))
              go_meet
              case rel => exact ⟨_, (true), (by first | rfl | (simp; done) | (simp [*]; done)), H', ⟨by first | omega | exact Nat.le_refl _⟩, by repeat (first | exact Drawn0.refl _ | apply Drawn0.step)⟩
          · rw [if_neg c17] at H
            have c17b0 : (t131 == t132) = false := beq_eq_false_iff_ne.mpr c17
            have c17b1 : (t131 != t132) = true := bne_iff_ne.mpr c17
            have H' := Aside0.mk H
            clear H
            go_wp2_with (first | ((with_reducible refine gate_callee (f := 32) rfl ?_); refine goesL_ (some 35) rfl rfl Try.func32 (by kernel_rfl) rfl #[.int .u64 a0, .int .i64 (wrap64 (Int.tmod a1 64))] rfl (by (try simp only [List.map_toArray, List.map_cons, List.map_nil]); first | done | rfl | (simp only [List.length_drop, List.length_take]; rfl)) ?_; (with_reducible refine (bits_Has.calls a0 (wrap64 (Int.tmod a1 64)) t127 _ A9.out).mono ?_); rintro e w' ⟨rfl, ⟨nd, rfl⟩⟩; refine ⟨_, rfl, ?_⟩) | ((with_reducible refine gate_callee (f := 33) rfl ?_); refine goesL_ (some 38) rfl rfl Try.func33 (by kernel_rfl) rfl #[.int .u64 a0, .int .i64 (wrap64 (Int.tmod a1 64))] rfl (by (try simp only [List.map_toArray, List.map_cons, List.map_nil]); first | done | rfl | (simp only [List.length_drop, List.length_take]; rfl)) ?_; (with_reducible refine (lodgerref01_Has.calls k a0 (wrap64 (Int.tmod a1 64)) t128 _ A10.out).mono ?_); rintro e w' ⟨rfl, ⟨nd, rfl⟩⟩; refine ⟨_, rfl, ?_⟩) | (go_at_call 34; (with_reducible refine (bits_Set.calls a0 (wrap64 (Int.tmod a1 64)) t129 _ A12.out).mono ?_); rintro e w' ⟨rfl, ⟨nd, rfl⟩⟩) | (go_at_call 35; (with_reducible refine (lodgerref01_Set.calls k a0 (wrap64 (Int.tmod a1 64)) t130 _ A13.out).mono ?_); rintro e w' ⟨rfl, ⟨nd, rfl⟩⟩) | (go_at_call 36; (with_reducible refine (bits_Clear.calls a0 (wrap64 (Int.tmod a1 64)) t131 _ A15.out).mono ?_); rintro e w' ⟨rfl, ⟨nd, rfl⟩⟩) | (go_at_call 37; (with_reducible refine (lodgerref01_Clear.calls k a0 (wrap64 (Int.tmod a1 64)) t132 _ A16.out).mono ?_); rintro e w' ⟨rfl, ⟨nd, rfl⟩⟩) | (go_at_call 32; (with_reducible refine (bits_Has.calls a0 (wrap64 (Int.tmod a1 64)) t127 _ A9.out).mono ?_); rintro e w' ⟨rfl, ⟨nd, rfl⟩⟩) | (go_at_call 33; (with_reducible refine (lodgerref01_Has.calls k a0 (wrap64 (Int.tmod a1 64)) t128 _ A10.out).mono ?_); rintro e w' ⟨rfl, ⟨nd, rfl⟩⟩))
            go_meet
            case rel => exact ⟨_, (true), (by first | rfl | (simp; done) | (simp [*]; done)), H', ⟨by first | omega | exact Nat.le_refl _⟩, by repeat (first | exact Drawn0.refl _ | apply Drawn0.step)⟩
        · rw [if_neg c14] at H
          have c14b0 : (t129 == t130) = false := beq_eq_false_iff_ne.mpr c14
          have c14b1 : (t129 != t130) = true := bne_iff_ne.mpr c14
          have H' := Aside0.mk H
          clear H
          go_wp2_with (first | ((with_reducible refine gate_callee (f := 32) rfl ?_); refine goesL_ (some 35) rfl rfl Try.func32 (by kernel_rfl) rfl #[.int .u64 a0, .int .i64 (wrap64 (Int.tmod a1 64))] rfl (by (try simp only [List.map_toArray, List.map_cons, List.map_nil]); first | done | rfl | (simp only [List.length_drop, List.length_take]; rfl)) ?_; (with_reducible refine (bits_Has.calls a0 (wrap64 (Int.tmod a1 64)) t127 _ A9.out).mono ?_); rintro e w' ⟨rfl, ⟨nd, rfl⟩⟩; refine ⟨_, rfl, ?_⟩) | ((with_reducible refine gate_callee (f := 33) rfl ?_); refine goesL_ (some 38) rfl rfl Try.func33 (by kernel_rfl) rfl #[.int .u64 a0, .int .i64 (wrap64 (Int.tmod a1 64))] rfl (by (try simp only [List.map_toArray, List.map_cons, List.map_nil]); first | done | rfl | (simp only [List.length_drop, List.length_take]; rfl)) ?_; (with_reducible refine (lodgerref01_Has.calls k a0 (wrap64 (Int.tmod a1 64)) t128 _ A10.out).mono ?_); rintro e w' ⟨rfl, ⟨nd, rfl⟩⟩; refine ⟨_, rfl, ?_⟩) | (go_at_call 34; (with_reducible refine (bits_Set.calls a0 (wrap64 (Int.tmod a1 64)) t129 _ A12.out).mono ?_); rintro e w' ⟨rfl, ⟨nd, rfl⟩⟩) | (go_at_call 35; (with_reducible refine (lodgerref01_Set.calls k a0 (wrap64 (Int.tmod a1 64)) t130 _ A13.out).mono ?_); rintro e w' ⟨rfl, ⟨nd, rfl⟩⟩) | (go_at_call 32; (with_reducible refine (bits_Has.calls a0 (wrap64 (Int.tmod a1 64)) t127 _ A9.out).mono ?_); rintro e w' ⟨rfl, ⟨nd, rfl⟩⟩) | (go_at_call 33; (with_reducible refine (lodgerref01_Has.calls k a0 (wrap64 (Int.tmod a1 64)) t128 _ A10.out).mono ?_); rintro e w' ⟨rfl, ⟨nd, rfl⟩⟩))
          go_meet
          case rel => exact ⟨_, (true), (by first | rfl | (simp; done) | (simp [*]; done)), H', ⟨by first | omega | exact Nat.le_refl _⟩, by repeat (first | exact Drawn0.refl _ | apply Drawn0.step)⟩
    case rest =>
      clear HC8
      try clear c1
      try clear c2
      try clear p2
      try clear c3
      try clear c5
      try clear p6
      try clear c7
      try clear c11
      try clear c11b0
      try clear c11b1
      try clear c11b2
      try clear c14
      try clear c14b0
      try clear c14b1
      try clear c17
      try clear c17b0
      try clear c17b1
      try clear c18
      try clear c18b0
      try clear c18b1
      try clear c19
      try clear c19b0
      try clear c19b1
      try clear c19b2
      obtain ⟨kq, x76_7, rfl, HA, HJ7, ⟨mc7, rfl⟩⟩ := hcut
      cases kq with
      | zero => exact absurd HA.out (by simp [lodgerlaw01_BitsDo.j0])
      | succ kj7 =>
        have H := HA.out
        clear HA
        simp only [lodgerlaw01_BitsDo.j0] at H
        by_cases c22 : x76_7 = true
        · subst c22
          have H1 : (some false) = some r := by rw [if_pos rfl] at H; exact H
          clear H
          have H := H1
          clear H1
          first | (exfalso; rw [hr_] at H; exact absurd (Option.some.inj H) (by decide)) | clear hr_
          all_goals
            obtain rfl := Option.some.inj H
            go_wp2
            go_ret
            exact ⟨by first | rfl | (simp; done) | (simp [*]; done), by repeat (first | exact Drawn0.refl _ | apply Drawn0.step)⟩
        · replace c22 := Bool.eq_false_iff.mpr c22
          subst c22
          have H1 : ((bits_Mask.f (wrap64 (Int.tmod a2 65))).bind fun t135 => ((bits_Count.f kj7 t135 64).bind fun t136 => (if t136 = (wrap64 (Int.tmod a2 65)) then (if (wrap64 (Int.tmod a2 65)) = 0 then (if (wrap64 (Int.tmod a2 65)) = 64 then (some true) else ((bits_Mask.f (wrap64 (Int.tmod a2 65))).bind fun t137 => ((bits_Has.f t137 (wrap64 (Int.tmod a2 65))).bind fun t138 => (some (!t138))))) else ((bits_Mask.f (wrap64 (Int.tmod a2 65))).bind fun t139 => ((bits_Has.f t139 (wrap64 ((wrap64 (Int.tmod a2 65)) - 1))).bind fun t140 => (if t140 = true then (if (wrap64 (Int.tmod a2 65)) = 64 then (some true) else ((bits_Mask.f (wrap64 (Int.tmod a2 65))).bind fun t141 => ((bits_Has.f t141 (wrap64 (Int.tmod a2 65))).bind fun t142 => (some (!t142))))) else (some false))))) else (some false)))) = some r := by rw [if_neg (show ¬ (false = true) by decide)] at H; exact H
          clear H
          have H := H1
          clear H1
          replace H := Option.bind_eq_some_iff.mp H
          obtain ⟨t135, A230, H⟩ := H
          replace H : ((bits_Count.f kj7 t135 64).bind fun t136 => (if t136 = (wrap64 (Int.tmod a2 65)) then (if (wrap64 (Int.tmod a2 65)) = 0 then (if (wrap64 (Int.tmod a2 65)) = 64 then (some true) else ((bits_Mask.f (wrap64 (Int.tmod a2 65))).bind fun t137 => ((bits_Has.f t137 (wrap64 (Int.tmod a2 65))).bind fun t138 => (some (!t138))))) else ((bits_Mask.f (wrap64 (Int.tmod a2 65))).bind fun t139 => ((bits_Has.f t139 (wrap64 ((wrap64 (Int.tmod a2 65)) - 1))).bind fun t140 => (if t140 = true then (if (wrap64 (Int.tmod a2 65)) = 64 then (some true) else ((bits_Mask.f (wrap64 (Int.tmod a2 65))).bind fun t141 => ((bits_Has.f t141 (wrap64 (Int.tmod a2 65))).bind fun t142 => (some (!t142))))) else (some false))))) else (some false))) = some r := H
          have A23 := Aside0.mk A230
          clear A230
          replace H := Option.bind_eq_some_iff.mp H
          obtain ⟨t136, A240, H⟩ := H
          replace H : (if t136 = (wrap64 (Int.tmod a2 65)) then (if (wrap64 (Int.tmod a2 65)) = 0 then (if (wrap64 (Int.tmod a2 65)) = 64 then (some true) else ((bits_Mask.f (wrap64 (Int.tmod a2 65))).bind fun t137 => ((bits_Has.f t137 (wrap64 (Int.tmod a2 65))).bind fun t138 => (some (!t138))))) else ((bits_Mask.f (wrap64 (Int.tmod a2 65))).bind fun t139 => ((bits_Has.f t139 (wrap64 ((wrap64 (Int.tmod a2 65)) - 1))).bind fun t140 => (if t140 = true then (if (wrap64 (Int.tmod a2 65)) = 64 then (some true) else ((bits_Mask.f (wrap64 (Int.tmod a2 65))).bind fun t141 => ((bits_Has.f t141 (wrap64 (Int.tmod a2 65))).bind fun t142 => (some (!t142))))) else (some false))))) else (some false)) = some r := H
          have A24 := Aside0.mk A240
          clear A240
          by_cases c25 : t136 = (wrap64 (Int.tmod a2 65))
          · rw [if_pos c25] at H
            have c25b0 : (t136 == (wrap64 (Int.tmod a2 65))) = true := beq_iff_eq.mpr c25
            have c25b1 : (t136 != (wrap64 (Int.tmod a2 65))) = false := bne_eq_false_iff_eq.mpr c25
            clear c25
            by_cases c26 : (wrap64 (Int.tmod a2 65)) = 0
            · rw [if_pos c26] at H
              have c26b0 : ((wrap64 (Int.tmod a2 65)) == 0) = true := beq_iff_eq.mpr c26
              have c26b1 : ((wrap64 (Int.tmod a2 65)) != 0) = false := bne_eq_false_iff_eq.mpr c26
              clear c26
              by_cases c27 : (wrap64 (Int.tmod a2 65)) = 64
              · rw [if_pos c27] at H
                have c27b0 : ((wrap64 (Int.tmod a2 65)) == 64) = true := beq_iff_eq.mpr c27
                have c27b1 : ((wrap64 (Int.tmod a2 65)) != 64) = false := bne_eq_false_iff_eq.mpr c27
                clear c27
                first | (exfalso; rw [hr_] at H; exact absurd (Option.some.inj H) (by decide)) | clear hr_
                all_goals
                  obtain rfl := Option.some.inj H
                  go_wp2_with (first | ((with_reducible refine gate_callee (f := 40) rfl ?_); refine goesL_ (some 78) rfl rfl Try.func40 (by kernel_rfl) rfl #[.int .i64 (wrap64 (Int.tmod a2 65))] rfl (by (try simp only [List.map_toArray, List.map_cons, List.map_nil]); first | done | rfl | (simp only [List.length_drop, List.length_take]; rfl)) ?_; (with_reducible refine (bits_Mask.calls (wrap64 (Int.tmod a2 65)) t135 _ A23.out).mono ?_); rintro e w' ⟨rfl, ⟨nd, rfl⟩⟩; refine ⟨_, rfl, ?_⟩) | ((with_reducible refine gate_callee (f := 38) rfl ?_); refine goesL_ (some 79) rfl rfl Try.func38 (by kernel_rfl) rfl #[.int .u64 t135, .int .i64 64] rfl (by (try simp only [List.map_toArray, List.map_cons, List.map_nil]); first | done | rfl | (simp only [List.length_drop, List.length_take]; rfl)) ?_; (with_reducible refine (bits_Count.calls kj7 t135 64 t136 _ A24.out).mono ?_); rintro e w' ⟨rfl, ⟨nd, rfl⟩⟩; refine ⟨_, rfl, ?_⟩) | (go_at_call 40; (with_reducible refine (bits_Mask.calls (wrap64 (Int.tmod a2 65)) t135 _ A23.out).mono ?_); rintro e w' ⟨rfl, ⟨nd, rfl⟩⟩) | (go_at_call 38; (with_reducible refine (bits_Count.calls kj7 t135 64 t136 _ A24.out).mono ?_); rintro e w' ⟨rfl, ⟨nd, rfl⟩⟩))
                  go_ret
                  exact ⟨by first | rfl | (simp; done) | (simp [*]; done), by repeat (first | exact Drawn0.refl _ | apply Drawn0.step)⟩
              · rw [if_neg c27] at H
                have c27b0 : ((wrap64 (Int.tmod a2 65)) == 64) = false := beq_eq_false_iff_ne.mpr c27
                have c27b1 : ((wrap64 (Int.tmod a2 65)) != 64) = true := bne_iff_ne.mpr c27
                replace H := Option.bind_eq_some_iff.mp H
                obtain ⟨t137, A280, H⟩ := H
                replace H : ((bits_Has.f t137 (wrap64 (Int.tmod a2 65))).bind fun t138 => (some (!t138))) = some r := H
                have A28 := Aside0.mk A280
                clear A280
                have E_ := A23.out.symm.trans A28.out
                replace E_ := Option.some.inj E_
                subst E_
                replace H := Option.bind_eq_some_iff.mp H
                obtain ⟨t138, A290, H⟩ := H
                replace H : (some (!t138)) = some r := H
                have A29 := Aside0.mk A290
                clear A290
                first | (exfalso; rw [hr_] at H; exact absurd (Option.some.inj H) (by decide)) | clear hr_
                all_goals
                  obtain rfl := Option.some.inj H
                  go_wp2_with (first | ((with_reducible refine gate_callee (f := 40) rfl ?_); refine goesL_ (some 78) rfl rfl Try.func40 (by kernel_rfl) rfl #[.int .i64 (wrap64 (Int.tmod a2 65))] rfl (by (try simp only [List.map_toArray, List.map_cons, List.map_nil]); first | done | rfl | (simp only [List.length_drop, List.length_take]; rfl)) ?_; (with_reducible refine (bits_Mask.calls (wrap64 (Int.tmod a2 65)) t135 _ A23.out).mono ?_); rintro e w' ⟨rfl, ⟨nd, rfl⟩⟩; refine ⟨_, rfl, ?_⟩) | ((with_reducible refine gate_callee (f := 38) rfl ?_); refine goesL_ (some 79) rfl rfl Try.func38 (by kernel_rfl) rfl #[.int .u64 t135, .int .i64 64] rfl (by (try simp only [List.map_toArray, List.map_cons, List.map_nil]); first | done | rfl | (simp only [List.length_drop, List.length_take]; rfl)) ?_; (with_reducible refine (bits_Count.calls kj7 t135 64 t136 _ A24.out).mono ?_); rintro e w' ⟨rfl, ⟨nd, rfl⟩⟩; refine ⟨_, rfl, ?_⟩) | (go_at_call 40; (with_reducible refine (bits_Mask.calls (wrap64 (Int.tmod a2 65)) t135 _ A28.out).mono ?_); rintro e w' ⟨rfl, ⟨nd, rfl⟩⟩) | (go_at_call 32; (with_reducible refine (bits_Has.calls t135 (wrap64 (Int.tmod a2 65)) t138 _ A29.out).mono ?_); rintro e w' ⟨rfl, ⟨nd, rfl⟩⟩) | (go_at_call 40; (with_reducible refine (bits_Mask.calls (wrap64 (Int.tmod a2 65)) t135 _ A23.out).mono ?_); rintro e w' ⟨rfl, ⟨nd, rfl⟩⟩) | (go_at_call 38; (with_reducible refine (bits_Count.calls kj7 t135 64 t136 _ A24.out).mono ?_); rintro e w' ⟨rfl, ⟨nd, rfl⟩⟩))
                  go_ret
                  exact ⟨by first | rfl | (simp; done) | (simp [*]; done), by repeat (first | exact Drawn0.refl _ | apply Drawn0.step)⟩
            · rw [if_neg c26] at H
              have c26b0 : ((wrap64 (Int.tmod a2 65)) == 0) = false := beq_eq_false_iff_ne.mpr c26
              have c26b1 : ((wrap64 (Int.tmod a2 65)) != 0) = true := bne_iff_ne.mpr c26
              replace H := Option.bind_eq_some_iff.mp H
              obtain ⟨t139, A300, H⟩ := H
              replace H : ((bits_Has.f t139 (wrap64 ((wrap64 (Int.tmod a2 65)) - 1))).bind fun t140 => (if t140 = true then (if (wrap64 (Int.tmod a2 65)) = 64 then (some true) else ((bits_Mask.f (wrap64 (Int.tmod a2 65))).bind fun t141 => ((bits_Has.f t141 (wrap64 (Int.tmod a2 65))).bind fun t142 => (some (!t142))))) else (some false))) = some r := H
              have A30 := Aside0.mk A300
              clear A300
              have E_ := A23.out.symm.trans A30.out
              replace E_ := Option.some.inj E_
              subst E_
              replace H := Option.bind_eq_some_iff.mp H
              obtain ⟨t140, A310, H⟩ := H
              replace H : (if t140 = true then (if (wrap64 (Int.tmod a2 65)) = 64 then (some true) else ((bits_Mask.f (wrap64 (Int.tmod a2 65))).bind fun t141 => ((bits_Has.f t141 (wrap64 (Int.tmod a2 65))).bind fun t142 => (some (!t142))))) else (some false)) = some r := H
              have A31 := Aside0.mk A310
              clear A310
              by_cases c32 : t140 = true
              · subst c32
                have H1 : (if (wrap64 (Int.tmod a2 65)) = 64 then (some true) else ((bits_Mask.f (wrap64 (Int.tmod a2 65))).bind fun t141 => ((bits_Has.f t141 (wrap64 (Int.tmod a2 65))).bind fun t142 => (some (!t142))))) = some r := by rw [if_pos rfl] at H; exact H
                clear H
                have H := H1
                clear H1
                by_cases c33 : (wrap64 (Int.tmod a2 65)) = 64
                · rw [if_pos c33] at H
                  have c33b0 : ((wrap64 (Int.tmod a2 65)) == 64) = true := beq_iff_eq.mpr c33
                  have c33b1 : ((wrap64 (Int.tmod a2 65)) != 64) = false := bne_eq_false_iff_eq.mpr c33
                  clear c33
                  first | (exfalso; rw [hr_] at H; exact absurd (Option.some.inj H) (by decide)) | clear hr_
                  all_goals
                    obtain rfl := Option.some.inj H
                    go_wp2_with (first | ((with_reducible refine gate_callee (f := 40) rfl ?_); refine goesL_ (some 78) rfl rfl Try.func40 (by kernel_rfl) rfl #[.int .i64 (wrap64 (Int.tmod a2 65))] rfl (by (try simp only [List.map_toArray, List.map_cons, List.map_nil]); first | done | rfl | (simp only [List.length_drop, List.length_take]; rfl)) ?_; (with_reducible refine (bits_Mask.calls (wrap64 (Int.tmod a2 65)) t135 _ A23.out).mono ?_); rintro e w' ⟨rfl, ⟨nd, rfl⟩⟩; refine ⟨_, rfl, ?_⟩) | ((with_reducible refine gate_callee (f := 38) rfl ?_); refine goesL_ (some 79) rfl rfl Try.func38 (by kernel_rfl) rfl #[.int .u64 t135, .int .i64 64] rfl (by (try simp only [List.map_toArray, List.map_cons, List.map_nil]); first | done | rfl | (simp only [List.length_drop, List.length_take]; rfl)) ?_; (with_reducible refine (bits_Count.calls kj7 t135 64 t136 _ A24.out).mono ?_); rintro e w' ⟨rfl, ⟨nd, rfl⟩⟩; refine ⟨_, rfl, ?_⟩) | (go_at_call 40; (with_reducible refine (bits_Mask.calls (wrap64 (Int.tmod a2 65)) t135 _ A30.out).mono ?_); rintro e w' ⟨rfl, ⟨nd, rfl⟩⟩) | (go_at_call 32; (with_reducible refine (bits_Has.calls t135 (wrap64 ((wrap64 (Int.tmod a2 65)) - 1)) true _ A31.out).mono ?_); rintro e w' ⟨rfl, ⟨nd, rfl⟩⟩) | (go_at_call 40; (with_reducible refine (bits_Mask.calls (wrap64 (Int.tmod a2 65)) t135 _ A23.out).mono ?_); rintro e w' ⟨rfl, ⟨nd, rfl⟩⟩) | (go_at_call 38; (with_reducible refine (bits_Count.calls kj7 t135 64 t136 _ A24.out).mono ?_); rintro e w' ⟨rfl, ⟨nd, rfl⟩⟩))
                    go_ret
                    exact ⟨by first | rfl | (simp; done) | (simp [*]; done), by repeat (first | exact Drawn0.refl _ | apply Drawn0.step)⟩
                · rw [if_neg c33] at H
                  have c33b0 : ((wrap64 (Int.tmod a2 65)) == 64) = false := beq_eq_false_iff_ne.mpr c33
                  have c33b1 : ((wrap64 (Int.tmod a2 65)) != 64) = true := bne_iff_ne.mpr c33
                  replace H := Option.bind_eq_some_iff.mp H
                  obtain ⟨t141, A340, H⟩ := H
                  replace H : ((bits_Has.f t141 (wrap64 (Int.tmod a2 65))).bind fun t142 => (some (!t142))) = some r := H
                  have A34 := Aside0.mk A340
                  clear A340
                  have E_ := A23.out.symm.trans A34.out
                  replace E_ := Option.some.inj E_
                  subst E_
                  replace H := Option.bind_eq_some_iff.mp H
                  obtain ⟨t142, A350, H⟩ := H
                  replace H : (some (!t142)) = some r := H
                  have A35 := Aside0.mk A350
                  clear A350
                  first | (exfalso; rw [hr_] at H; exact absurd (Option.some.inj H) (by decide)) | clear hr_
                  all_goals
                    obtain rfl := Option.some.inj H
                    go_wp2_with (first | ((with_reducible refine gate_callee (f := 40) rfl ?_); refine goesL_ (some 78) rfl rfl Try.func40 (by kernel_rfl) rfl #[.int .i64 (wrap64 (Int.tmod a2 65))] rfl (by (try simp only [List.map_toArray, List.map_cons, List.map_nil]); first | done | rfl | (simp only [List.length_drop, List.length_take]; rfl)) ?_; (with_reducible refine (bits_Mask.calls (wrap64 (Int.tmod a2 65)) t135 _ A23.out).mono ?_); rintro e w' ⟨rfl, ⟨nd, rfl⟩⟩; refine ⟨_, rfl, ?_⟩) | ((with_reducible refine gate_callee (f := 38) rfl ?_); refine goesL_ (some 79) rfl rfl Try.func38 (by kernel_rfl) rfl #[.int .u64 t135, .int .i64 64] rfl (by (try simp only [List.map_toArray, List.map_cons, List.map_nil]); first | done | rfl | (simp only [List.length_drop, List.length_take]; rfl)) ?_; (with_reducible refine (bits_Count.calls kj7 t135 64 t136 _ A24.out).mono ?_); rintro e w' ⟨rfl, ⟨nd, rfl⟩⟩; refine ⟨_, rfl, ?_⟩) | (go_at_call 40; (with_reducible refine (bits_Mask.calls (wrap64 (Int.tmod a2 65)) t135 _ A30.out).mono ?_); rintro e w' ⟨rfl, ⟨nd, rfl⟩⟩) | (go_at_call 32; (with_reducible refine (bits_Has.calls t135 (wrap64 ((wrap64 (Int.tmod a2 65)) - 1)) true _ A31.out).mono ?_); rintro e w' ⟨rfl, ⟨nd, rfl⟩⟩) | (go_at_call 40; (with_reducible refine (bits_Mask.calls (wrap64 (Int.tmod a2 65)) t135 _ A34.out).mono ?_); rintro e w' ⟨rfl, ⟨nd, rfl⟩⟩) | (go_at_call 32; (with_reducible refine (bits_Has.calls t135 (wrap64 (Int.tmod a2 65)) t142 _ A35.out).mono ?_); rintro e w' ⟨rfl, ⟨nd, rfl⟩⟩) | (go_at_call 40; (with_reducible refine (bits_Mask.calls (wrap64 (Int.tmod a2 65)) t135 _ A23.out).mono ?_); rintro e w' ⟨rfl, ⟨nd, rfl⟩⟩) | (go_at_call 38; (with_reducible refine (bits_Count.calls kj7 t135 64 t136 _ A24.out).mono ?_); rintro e w' ⟨rfl, ⟨nd, rfl⟩⟩))
                    go_ret
                    exact ⟨by first | rfl | (simp; done) | (simp [*]; done), by repeat (first | exact Drawn0.refl _ | apply Drawn0.step)⟩
              · replace c32 := Bool.eq_false_iff.mpr c32
                subst c32
                have H1 : (some false) = some r := by rw [if_neg (show ¬ (false = true) by decide)] at H; exact H
                clear H
                have H := H1
                clear H1
                first | (exfalso; rw [hr_] at H; exact absurd (Option.some.inj H) (by decide)) | clear hr_
                all_goals
                  obtain rfl := Option.some.inj H
                  go_wp2_with (first | ((with_reducible refine gate_callee (f := 40) rfl ?_); refine goesL_ (some 78) rfl rfl Try.func40 (by kernel_rfl) rfl #[.int .i64 (wrap64 (Int.tmod a2 65))] rfl (by (try simp only [List.map_toArray, List.map_cons, List.map_nil]); first | done | rfl | (simp only [List.length_drop, List.length_take]; rfl)) ?_; (with_reducible refine (bits_Mask.calls (wrap64 (Int.tmod a2 65)) t135 _ A23.out).mono ?_); rintro e w' ⟨rfl, ⟨nd, rfl⟩⟩; refine ⟨_, rfl, ?_⟩) | ((with_reducible refine gate_callee (f := 38) rfl ?_); refine goesL_ (some 79) rfl rfl Try.func38 (by kernel_rfl) rfl #[.int .u64 t135, .int .i64 64] rfl (by (try simp only [List.map_toArray, List.map_cons, List.map_nil]); first | done | rfl | (simp only [List.length_drop, List.length_take]; rfl)) ?_; (with_reducible refine (bits_Count.calls kj7 t135 64 t136 _ A24.out).mono ?_); rintro e w' ⟨rfl, ⟨nd, rfl⟩⟩; refine ⟨_, rfl, ?_⟩) | (go_at_call 40; (with_reducible refine (bits_Mask.calls (wrap64 (Int.tmod a2 65)) t135 _ A30.out).mono ?_); rintro e w' ⟨rfl, ⟨nd, rfl⟩⟩) | (go_at_call 32; (with_reducible refine (bits_Has.calls t135 (wrap64 ((wrap64 (Int.tmod a2 65)) - 1)) false _ A31.out).mono ?_); rintro e w' ⟨rfl, ⟨nd, rfl⟩⟩) | (go_at_call 40; (with_reducible refine (bits_Mask.calls (wrap64 (Int.tmod a2 65)) t135 _ A23.out).mono ?_); rintro e w' ⟨rfl, ⟨nd, rfl⟩⟩) | (go_at_call 38; (with_reducible refine (bits_Count.calls kj7 t135 64 t136 _ A24.out).mono ?_); rintro e w' ⟨rfl, ⟨nd, rfl⟩⟩))
                  go_ret
                  exact ⟨by first | rfl | (simp; done) | (simp [*]; done), by repeat (first | exact Drawn0.refl _ | apply Drawn0.step)⟩
          · rw [if_neg c25] at H
            have c25b0 : (t136 == (wrap64 (Int.tmod a2 65))) = false := beq_eq_false_iff_ne.mpr c25
            have c25b1 : (t136 != (wrap64 (Int.tmod a2 65))) = true := bne_iff_ne.mpr c25
            first | (exfalso; rw [hr_] at H; exact absurd (Option.some.inj H) (by decide)) | clear hr_
            all_goals
              obtain rfl := Option.some.inj H
              go_wp2_with (first | ((with_reducible refine gate_callee (f := 40) rfl ?_); refine goesL_ (some 78) rfl rfl Try.func40 (by kernel_rfl) rfl #[.int .i64 (wrap64 (Int.tmod a2 65))] rfl (by (try simp only [List.map_toArray, List.map_cons, List.map_nil]); first | done | rfl | (simp only [List.length_drop, List.length_take]; rfl)) ?_; (with_reducible refine (bits_Mask.calls (wrap64 (Int.tmod a2 65)) t135 _ A23.out).mono ?_); rintro e w' ⟨rfl, ⟨nd, rfl⟩⟩; refine ⟨_, rfl, ?_⟩) | ((with_reducible refine gate_callee (f := 38) rfl ?_); refine goesL_ (some 79) rfl rfl Try.func38 (by kernel_rfl) rfl #[.int .u64 t135, .int .i64 64] rfl (by (try simp only [List.map_toArray, List.map_cons, List.map_nil]); first | done | rfl | (simp only [List.length_drop, List.length_take]; rfl)) ?_; (with_reducible refine (bits_Count.calls kj7 t135 64 t136 _ A24.out).mono ?_); rintro e w' ⟨rfl, ⟨nd, rfl⟩⟩; refine ⟨_, rfl, ?_⟩) | (go_at_call 40; (with_reducible refine (bits_Mask.calls (wrap64 (Int.tmod a2 65)) t135 _ A23.out).mono ?_); rintro e w' ⟨rfl, ⟨nd, rfl⟩⟩) | (go_at_call 38; (with_reducible refine (bits_Count.calls kj7 t135 64 t136 _ A24.out).mono ?_); rintro e w' ⟨rfl, ⟨nd, rfl⟩⟩))
              go_ret
              exact ⟨by first | rfl | (simp; done) | (simp [*]; done), by repeat (first | exact Drawn0.refl _ | apply Drawn0.step)⟩
  · replace c5 := Bool.eq_false_iff.mpr c5
    subst c5
    have H1 : (some false) = some r := by rw [if_neg (show ¬ (false = true) by decide)] at H; exact H
    clear H
    have H := H1
    clear H1
    first | (exfalso; rw [hr_] at H; exact absurd (Option.some.inj H) (by decide)) | clear hr_
    all_goals
      obtain rfl := Option.some.inj H
      go_enter Try.func7, Try.ntmps7
      go_wp2_with (first | ((with_reducible refine gate_callee (f := 29) rfl ?_); refine goesL_ (some 13) rfl rfl Try.func29 (by kernel_rfl) rfl #[] rfl (by (try simp only [List.map_toArray, List.map_cons, List.map_nil]); first | done | rfl | (simp only [List.length_drop, List.length_take]; rfl)) ?_; (with_reducible refine (lodgerlaw01_awake.calls k  false _ A4.out).mono ?_); rintro e w' ⟨rfl, ⟨nd, rfl⟩⟩; refine ⟨_, rfl, ?_⟩) | (go_at_call 29; (with_reducible refine (lodgerlaw01_awake.calls k  false _ A4.out).mono ?_); rintro e w' ⟨rfl, ⟨nd, rfl⟩⟩))
      go_ret
      exact ⟨by first | rfl | (simp; done) | (simp [*]; done), by repeat (first | exact Drawn0.refl _ | apply Drawn0.step)⟩

/-- THE ONE PURE STATEMENT of lodgerlaw01_BitsDo: yours. -/
def lodgerlaw01_BitsDo.Pure : Prop := ∀ (a0 : Int) (a1 : Int) (a2 : Int), (Lit.int .u64 a0).wf = true → (Lit.int .u8 a1).wf = true → (Lit.int .u8 a2).wf = true → ∃ k, lodgerlaw01_BitsDo.f k a0 a1 a2 = some true
theorem lodgerlaw01_BitsDo.walk (P : lodgerlaw01_BitsDo.Pure) (a0 : Int) (a1 : Int) (a2 : Int) (w : World) (w0 : (Lit.int .u64 a0).wf = true) (w1 : (Lit.int .u8 a1).wf = true) (w2 : (Lit.int .u8 a2).wf = true) :
    Calls Try.prog 7 #[.int .u64 a0, .int .u8 a1, .int .u8 a2] w fun e w' => e = .returned (.bool true) ∧ Below w.heap.size w w' := by
  obtain ⟨k, h⟩ := P a0 a1 a2 w0 w1 w2
  refine (lodgerlaw01_BitsDo.calls k a0 a1 a2 true w rfl h).mono ?_
  rintro e w' ⟨rfl, hd⟩
  exact ⟨rfl, hd.below⟩

end Go.Proofs.Yteieippmopfnaaa.PBitsDo
