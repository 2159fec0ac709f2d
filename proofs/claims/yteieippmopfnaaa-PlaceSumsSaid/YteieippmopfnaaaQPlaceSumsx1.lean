/- The walk of PlaceSums, part of it: what the Go functions answer; no condition. -/
import Derived.Test.YteieippmopfnaaaQPlaceSumsx0
namespace Go.Proofs.Yteieippmopfnaaa.PPlaceSums
open Go.RowKit Go.Proofs.YteieippmopfnaaaW.PrintWords Go.Proofs.YteieippmopfnaaaW.PrintLast Go.Proofs.YteieippmopfnaaaW.PrintMore
attribute [local go_sem] max2_int min2_int max_two min_two max_three min_three max_four min_four   -- for this text's walks alone
set_option linter.unusedVariables false
set_option linter.unusedSimpArgs false

/-! ### place_Leaf: function 15 -/
def place_Leaf.f (a0 : Int) : Option (Int × Int) := some (wrap64 (Int.tdiv a0 32), Int.tmod a0 32)
set_option maxHeartbeats 8000000 in
set_option maxRecDepth 100000 in
theorem place_Leaf.calls (a0 : Int) (r1 : Int) (r2 : Int) (w : World) (h : place_Leaf.f a0 = some (r1, r2)) :
    Calls Try.prog 15 #[.int .i64 a0] w fun e w' => e = .returned (.tuple #[.int .i64 r1, .int .i64 r2]) ∧ Drawn0 w w' := by
  have H : (some (wrap64 (Int.tdiv a0 32), Int.tmod a0 32)) = some (r1, r2) := h
  clear h
  simp only [Option.some.injEq, Prod.mk.injEq] at H
  obtain ⟨rfl, rfl⟩ := H
  go_enter Try.func15, Try.ntmps15
  go_wp2
  go_ret2
  exact ⟨by first | rfl | (simp; done) | (simp [*]; done), by repeat (first | exact Drawn0.refl _ | apply Drawn0.step)⟩

/-! ### place_up_int: function 46 -/
def place_up_int.f (a0 : Int) (a1 : Int) : Option (Int) := if a1 = 0 then (none) else (some (wrap64 (Int.tdiv (wrap64 ((wrap64 (a0 + a1)) - 1)) a1)))
set_option maxHeartbeats 8000000 in
set_option maxRecDepth 100000 in
theorem place_up_int.calls (a0 : Int) (a1 : Int) (r : Int) (w : World) (h : place_up_int.f a0 a1 = some r) :
    Calls Try.prog 46 #[.int .i64 a0, .int .i64 a1] w fun e w' => e = .returned (.int .i64 r) ∧ Drawn0 w w' := by
  have H : (if a1 = 0 then (none) else (some (wrap64 (Int.tdiv (wrap64 ((wrap64 (a0 + a1)) - 1)) a1)))) = some r := h
  clear h
  by_cases c3 : a1 = 0
  · rw [if_pos c3] at H
    exact absurd H (by simp)
  · rw [if_neg c3] at H
    have c3b0 : (a1 == 0) = false := beq_eq_false_iff_ne.mpr c3
    have c3b1 : (a1 != 0) = true := bne_iff_ne.mpr c3
    obtain rfl := Option.some.inj H
    go_enter Try.func46, Try.ntmps46
    go_wp2
    go_ret
    exact ⟨by first | rfl | (simp; done) | (simp [*]; done), by repeat (first | exact Drawn0.refl _ | apply Drawn0.step)⟩

/-! ### place_Leaves: function 20 -/
def place_Leaves.f (a0 : Int) : Option (Int) := (place_up_int.f a0 32).bind fun t101 => (some t101)
set_option maxHeartbeats 8000000 in
set_option maxRecDepth 100000 in
theorem place_Leaves.calls (a0 : Int) (r : Int) (w : World) (h : place_Leaves.f a0 = some r) :
    Calls Try.prog 20 #[.int .i64 a0] w fun e w' => e = .returned (.int .i64 r) ∧ Drawn0 w w' := by
  have H : ((place_up_int.f a0 32).bind fun t101 => (some t101)) = some r := h
  clear h
  replace H := Option.bind_eq_some_iff.mp H
  obtain ⟨t101, A20, H⟩ := H
  replace H : (some t101) = some r := H
  have A2 := Aside0.mk A20
  clear A20
  obtain rfl := Option.some.inj H
  go_enter Try.func20, Try.ntmps20
  go_wp2_with (first | ((with_reducible refine gate_callee (f := 46) rfl ?_); refine goesL_ (some 4) rfl rfl Try.func46 (by kernel_rfl) rfl #[.int .i64 a0, .int .i64 32] rfl (by (try simp only [List.map_toArray, List.map_cons, List.map_nil]); first | done | rfl | (simp only [List.length_drop, List.length_take]; rfl)) ?_; (with_reducible refine (place_up_int.calls a0 32 t101 _ A2.out).mono ?_); rintro e w' ⟨rfl, ⟨nd, rfl⟩⟩; refine ⟨_, rfl, ?_⟩) | (go_at_call 46; (with_reducible refine (place_up_int.calls a0 32 t101 _ A2.out).mono ?_); rintro e w' ⟨rfl, ⟨nd, rfl⟩⟩))
  go_ret
  exact ⟨by first | rfl | (simp; done) | (simp [*]; done), by repeat (first | exact Drawn0.refl _ | apply Drawn0.step)⟩

/-! ### place_Top: function 16 -/
def place_Top.f (a0 : Int) (a1 : Int) : Option (Int × Int) := (place_Leaves.f a0).bind fun t102 => (some (wrap64 (t102 + (wrap64 (Int.tdiv a1 64))), Int.tmod a1 64))
set_option maxHeartbeats 8000000 in
set_option maxRecDepth 100000 in
theorem place_Top.calls (a0 : Int) (a1 : Int) (r1 : Int) (r2 : Int) (w : World) (h : place_Top.f a0 a1 = some (r1, r2)) :
    Calls Try.prog 16 #[.int .i64 a0, .int .i64 a1] w fun e w' => e = .returned (.tuple #[.int .i64 r1, .int .i64 r2]) ∧ Drawn0 w w' := by
  have H : ((place_Leaves.f a0).bind fun t102 => (some (wrap64 (t102 + (wrap64 (Int.tdiv a1 64))), Int.tmod a1 64))) = some (r1, r2) := h
  clear h
  replace H := Option.bind_eq_some_iff.mp H
  obtain ⟨t102, A30, H⟩ := H
  replace H : (some (wrap64 (t102 + (wrap64 (Int.tdiv a1 64))), Int.tmod a1 64)) = some (r1, r2) := H
  have A3 := Aside0.mk A30
  clear A30
  simp only [Option.some.injEq, Prod.mk.injEq] at H
  obtain ⟨rfl, rfl⟩ := H
  go_enter Try.func16, Try.ntmps16
  go_wp2_with (first | ((with_reducible refine gate_callee (f := 20) rfl ?_); refine goesL_ (some 7) rfl rfl Try.func20 (by kernel_rfl) rfl #[.int .i64 a0] rfl (by (try simp only [List.map_toArray, List.map_cons, List.map_nil]); first | done | rfl | (simp only [List.length_drop, List.length_take]; rfl)) ?_; (with_reducible refine (place_Leaves.calls a0 t102 _ A3.out).mono ?_); rintro e w' ⟨rfl, ⟨nd, rfl⟩⟩; refine ⟨_, rfl, ?_⟩) | (go_at_call 20; (with_reducible refine (place_Leaves.calls a0 t102 _ A3.out).mono ?_); rintro e w' ⟨rfl, ⟨nd, rfl⟩⟩))
  go_ret2
  exact ⟨by first | rfl | (simp; done) | (simp [*]; done), by repeat (first | exact Drawn0.refl _ | apply Drawn0.step)⟩

/-! ### place_Tops: function 22 -/
def place_Tops.f (a0 : Int) : Option (Int) := (place_Leaves.f a0).bind fun t103 => ((place_up_int.f t103 64).bind fun t104 => (some t104))
set_option maxHeartbeats 8000000 in
set_option maxRecDepth 100000 in
theorem place_Tops.calls (a0 : Int) (r : Int) (w : World) (h : place_Tops.f a0 = some r) :
    Calls Try.prog 22 #[.int .i64 a0] w fun e w' => e = .returned (.int .i64 r) ∧ Drawn0 w w' := by
  have H : ((place_Leaves.f a0).bind fun t103 => ((place_up_int.f t103 64).bind fun t104 => (some t104))) = some r := h
  clear h
  replace H := Option.bind_eq_some_iff.mp H
  obtain ⟨t103, A20, H⟩ := H
  replace H : ((place_up_int.f t103 64).bind fun t104 => (some t104)) = some r := H
  have A2 := Aside0.mk A20
  clear A20
  replace H := Option.bind_eq_some_iff.mp H
  obtain ⟨t104, A30, H⟩ := H
  replace H : (some t104) = some r := H
  have A3 := Aside0.mk A30
  clear A30
  obtain rfl := Option.some.inj H
  go_enter Try.func22, Try.ntmps22
  go_wp2_with (first | ((with_reducible refine gate_callee (f := 20) rfl ?_); refine goesL_ (some 4) rfl rfl Try.func20 (by kernel_rfl) rfl #[.int .i64 a0] rfl (by (try simp only [List.map_toArray, List.map_cons, List.map_nil]); first | done | rfl | (simp only [List.length_drop, List.length_take]; rfl)) ?_; (with_reducible refine (place_Leaves.calls a0 t103 _ A2.out).mono ?_); rintro e w' ⟨rfl, ⟨nd, rfl⟩⟩; refine ⟨_, rfl, ?_⟩) | ((with_reducible refine gate_callee (f := 46) rfl ?_); refine goesL_ (some 5) rfl rfl Try.func46 (by kernel_rfl) rfl #[.int .i64 t103, .int .i64 64] rfl (by (try simp only [List.map_toArray, List.map_cons, List.map_nil]); first | done | rfl | (simp only [List.length_drop, List.length_take]; rfl)) ?_; (with_reducible refine (place_up_int.calls t103 64 t104 _ A3.out).mono ?_); rintro e w' ⟨rfl, ⟨nd, rfl⟩⟩; refine ⟨_, rfl, ?_⟩) | (go_at_call 20; (with_reducible refine (place_Leaves.calls a0 t103 _ A2.out).mono ?_); rintro e w' ⟨rfl, ⟨nd, rfl⟩⟩) | (go_at_call 46; (with_reducible refine (place_up_int.calls t103 64 t104 _ A3.out).mono ?_); rintro e w' ⟨rfl, ⟨nd, rfl⟩⟩))
  go_ret
  exact ⟨by first | rfl | (simp; done) | (simp [*]; done), by repeat (first | exact Drawn0.refl _ | apply Drawn0.step)⟩

/-! ### place_Cells: function 24 -/
def place_Cells.f (a0 : Int) : Option (Int) := (place_Leaves.f a0).bind fun t105 => ((place_Tops.f a0).bind fun t106 => (some (wrap64 ((wrap64 (t105 + t106)) + 1))))
set_option maxHeartbeats 8000000 in
set_option maxRecDepth 100000 in
theorem place_Cells.calls (a0 : Int) (r : Int) (w : World) (h : place_Cells.f a0 = some r) :
    Calls Try.prog 24 #[.int .i64 a0] w fun e w' => e = .returned (.int .i64 r) ∧ Drawn0 w w' := by
  have H : ((place_Leaves.f a0).bind fun t105 => ((place_Tops.f a0).bind fun t106 => (some (wrap64 ((wrap64 (t105 + t106)) + 1))))) = some r := h
  clear h
  replace H := Option.bind_eq_some_iff.mp H
  obtain ⟨t105, A20, H⟩ := H
  replace H : ((place_Tops.f a0).bind fun t106 => (some (wrap64 ((wrap64 (t105 + t106)) + 1)))) = some r := H
  have A2 := Aside0.mk A20
  clear A20
  replace H := Option.bind_eq_some_iff.mp H
  obtain ⟨t106, A30, H⟩ := H
  replace H : (some (wrap64 ((wrap64 (t105 + t106)) + 1))) = some r := H
  have A3 := Aside0.mk A30
  clear A30
  obtain rfl := Option.some.inj H
  go_enter Try.func24, Try.ntmps24
  go_wp2_with (first | ((with_reducible refine gate_callee (f := 20) rfl ?_); refine goesL_ (some 4) rfl rfl Try.func20 (by kernel_rfl) rfl #[.int .i64 a0] rfl (by (try simp only [List.map_toArray, List.map_cons, List.map_nil]); first | done | rfl | (simp only [List.length_drop, List.length_take]; rfl)) ?_; (with_reducible refine (place_Leaves.calls a0 t105 _ A2.out).mono ?_); rintro e w' ⟨rfl, ⟨nd, rfl⟩⟩; refine ⟨_, rfl, ?_⟩) | ((with_reducible refine gate_callee (f := 22) rfl ?_); refine goesL_ (some 6) rfl rfl Try.func22 (by kernel_rfl) rfl #[.int .i64 a0] rfl (by (try simp only [List.map_toArray, List.map_cons, List.map_nil]); first | done | rfl | (simp only [List.length_drop, List.length_take]; rfl)) ?_; (with_reducible refine (place_Tops.calls a0 t106 _ A3.out).mono ?_); rintro e w' ⟨rfl, ⟨nd, rfl⟩⟩; refine ⟨_, rfl, ?_⟩) | (go_at_call 20; (with_reducible refine (place_Leaves.calls a0 t105 _ A2.out).mono ?_); rintro e w' ⟨rfl, ⟨nd, rfl⟩⟩) | (go_at_call 22; (with_reducible refine (place_Tops.calls a0 t106 _ A3.out).mono ?_); rintro e w' ⟨rfl, ⟨nd, rfl⟩⟩))
  go_ret
  exact ⟨by first | rfl | (simp; done) | (simp [*]; done), by repeat (first | exact Drawn0.refl _ | apply Drawn0.step)⟩

/-! ### place_Root: function 18 -/
def place_Root.f (a0 : Int) (a1 : Int) : Option (Int × Int) := (place_Cells.f a0).bind fun t107 => (some (wrap64 (t107 - 1), wrap64 (Int.tdiv a1 64)))
set_option maxHeartbeats 8000000 in
set_option maxRecDepth 100000 in
theorem place_Root.calls (a0 : Int) (a1 : Int) (r1 : Int) (r2 : Int) (w : World) (h : place_Root.f a0 a1 = some (r1, r2)) :
    Calls Try.prog 18 #[.int .i64 a0, .int .i64 a1] w fun e w' => e = .returned (.tuple #[.int .i64 r1, .int .i64 r2]) ∧ Drawn0 w w' := by
  have H : ((place_Cells.f a0).bind fun t107 => (some (wrap64 (t107 - 1), wrap64 (Int.tdiv a1 64)))) = some (r1, r2) := h
  clear h
  replace H := Option.bind_eq_some_iff.mp H
  obtain ⟨t107, A30, H⟩ := H
  replace H : (some (wrap64 (t107 - 1), wrap64 (Int.tdiv a1 64))) = some (r1, r2) := H
  have A3 := Aside0.mk A30
  clear A30
  simp only [Option.some.injEq, Prod.mk.injEq] at H
  obtain ⟨rfl, rfl⟩ := H
  go_enter Try.func18, Try.ntmps18
  go_wp2_with (first | ((with_reducible refine gate_callee (f := 24) rfl ?_); refine goesL_ (some 7) rfl rfl Try.func24 (by kernel_rfl) rfl #[.int .i64 a0] rfl (by (try simp only [List.map_toArray, List.map_cons, List.map_nil]); first | done | rfl | (simp only [List.length_drop, List.length_take]; rfl)) ?_; (with_reducible refine (place_Cells.calls a0 t107 _ A3.out).mono ?_); rintro e w' ⟨rfl, ⟨nd, rfl⟩⟩; refine ⟨_, rfl, ?_⟩) | (go_at_call 24; (with_reducible refine (place_Cells.calls a0 t107 _ A3.out).mono ?_); rintro e w' ⟨rfl, ⟨nd, rfl⟩⟩))
  go_ret2
  exact ⟨by first | rfl | (simp; done) | (simp [*]; done), by repeat (first | exact Drawn0.refl _ | apply Drawn0.step)⟩

/-! ### place_Offset: function 26 -/
def place_Offset.f (a0 : Int) (a1 : Int) : Option (Int) := some (wrap64 ((wrap64 (a0 * 32)) + a1))
set_option maxHeartbeats 8000000 in
set_option maxRecDepth 100000 in
theorem place_Offset.calls (a0 : Int) (a1 : Int) (r : Int) (w : World) (h : place_Offset.f a0 a1 = some r) :
    Calls Try.prog 26 #[.int .i64 a0, .int .i64 a1] w fun e w' => e = .returned (.int .i64 r) ∧ Drawn0 w w' := by
  have H : (some (wrap64 ((wrap64 (a0 * 32)) + a1))) = some r := h
  clear h
  obtain rfl := Option.some.inj H
  go_enter Try.func26, Try.ntmps26
  go_wp2
  go_ret
  exact ⟨by first | rfl | (simp; done) | (simp [*]; done), by repeat (first | exact Drawn0.refl _ | apply Drawn0.step)⟩

/-! ### place_Width: function 27 -/
def place_Width.f (a0 : Int) (a1 : Int) : Option (Int) := some (mn 32 (wrap64 (a0 - (wrap64 (a1 * 32)))))
set_option maxHeartbeats 8000000 in
set_option maxRecDepth 100000 in
theorem place_Width.calls (a0 : Int) (a1 : Int) (r : Int) (w : World) (h : place_Width.f a0 a1 = some r) :
    Calls Try.prog 27 #[.int .i64 a0, .int .i64 a1] w fun e w' => e = .returned (.int .i64 r) ∧ Below w.heap.size w w' := by
  have HB := Aside0.mk (Below.refl w.heap.size w)
  have H : (some (mn 32 (wrap64 (a0 - (wrap64 (a1 * 32)))))) = some r := h
  clear h
  obtain ⟨ji3, hji3⟩ : ∃ j_ : Int, (mn 32 (wrap64 (a0 - (wrap64 (a1 * 32))))) = j_ := ⟨_, rfl⟩
  replace H : (some ji3) = some r := by first | (rw [hji3] at H; exact H) | (simp only [hji3] at H ⊢; exact H)
  (try (have hji3h : ji3 ≤ 32 := by (rw [← hji3]; unfold mn; (repeat' split) <;> omega)))
  (try (have hji3g : ji3 ≤ 64 := by omega))
  have hji3_ : (if (wrap64 (a0 - (wrap64 (a1 * 32)))) < 32 then (wrap64 (a0 - (wrap64 (a1 * 32)))) else 32) = ji3 := hji3
  obtain rfl := Option.some.inj H
  go_enter Try.func27, Try.ntmps27
  go_wp2
  go_ret
  exact ⟨by first | rfl | (simp [errW_none, errW_some] <;> rfl) | (simp only [← hji3]; first | rfl | (simp [errW_none, errW_some] <;> rfl)) | (simp [*, errW_none, errW_some] <;> rfl), by repeat (first | (with_reducible first | exact HB.out | apply below_alloc | apply pw_below_drewN | apply below_drew1) | exact HB.out)⟩

/-! ### lodgerlaw06_awake: function 14 -/
def lodgerlaw06_awake.f  : Option (Bool) := (place_Leaf.f 40).bind fun bt108 => ((place_Top.f 33 1).bind fun bt110 => ((place_Root.f 33 1).bind fun bt112 => ((place_Leaves.f 33).bind fun t114 => (if t114 = 2 then ((place_Tops.f 33).bind fun t115 => (if t115 = 1 then ((place_Cells.f 33).bind fun t116 => (if t116 = 4 then (if bt108.1 = 1 then (if bt108.2 = 8 then ((place_Offset.f 1 8).bind fun t117 => (if t117 = 40 then ((place_Width.f 33 1).bind fun t118 => (if t118 = 1 then ((place_Width.f 33 0).bind fun t119 => (if t119 = 32 then (if bt110.1 = 2 then (if bt110.2 = 1 then (if bt112.1 = 3 then (if bt112.2 = 0 then ((place_Leaves.f 65536).bind fun t120 => (if t120 = 2048 then ((place_Tops.f 65536).bind fun t121 => (some (t121 == 32))) else (some false))) else (some false)) else (some false)) else (some false)) else (some false)) else (some false))) else (some false))) else (some false))) else (some false)) else (some false)) else (some false))) else (some false))) else (some false)))))
set_option maxHeartbeats 8000000 in
set_option maxRecDepth 100000 in
theorem lodgerlaw06_awake.calls  (r : Bool) (w : World) (h : lodgerlaw06_awake.f  = some r) :
    Calls Try.prog 14 #[] w fun e w' => e = .returned (.bool r) ∧ Below w.heap.size w w' := by
  have HB := Aside0.mk (Below.refl w.heap.size w)
  have H : ((place_Leaf.f 40).bind fun bt108 => ((place_Top.f 33 1).bind fun bt110 => ((place_Root.f 33 1).bind fun bt112 => ((place_Leaves.f 33).bind fun t114 => (if t114 = 2 then ((place_Tops.f 33).bind fun t115 => (if t115 = 1 then ((place_Cells.f 33).bind fun t116 => (if t116 = 4 then (if bt108.1 = 1 then (if bt108.2 = 8 then ((place_Offset.f 1 8).bind fun t117 => (if t117 = 40 then ((place_Width.f 33 1).bind fun t118 => (if t118 = 1 then ((place_Width.f 33 0).bind fun t119 => (if t119 = 32 then (if bt110.1 = 2 then (if bt110.2 = 1 then (if bt112.1 = 3 then (if bt112.2 = 0 then ((place_Leaves.f 65536).bind fun t120 => (if t120 = 2048 then ((place_Tops.f 65536).bind fun t121 => (some (t121 == 32))) else (some false))) else (some false)) else (some false)) else (some false)) else (some false)) else (some false))) else (some false))) else (some false))) else (some false)) else (some false)) else (some false))) else (some false))) else (some false)))))) = some r := h
  clear h
  replace H := Option.bind_eq_some_iff.mp H
  obtain ⟨⟨t108, t109⟩, A10, H⟩ := H
  replace H : ((place_Top.f 33 1).bind fun bt110 => ((place_Root.f 33 1).bind fun bt112 => ((place_Leaves.f 33).bind fun t114 => (if t114 = 2 then ((place_Tops.f 33).bind fun t115 => (if t115 = 1 then ((place_Cells.f 33).bind fun t116 => (if t116 = 4 then (if t108 = 1 then (if t109 = 8 then ((place_Offset.f 1 8).bind fun t117 => (if t117 = 40 then ((place_Width.f 33 1).bind fun t118 => (if t118 = 1 then ((place_Width.f 33 0).bind fun t119 => (if t119 = 32 then (if bt110.1 = 2 then (if bt110.2 = 1 then (if bt112.1 = 3 then (if bt112.2 = 0 then ((place_Leaves.f 65536).bind fun t120 => (if t120 = 2048 then ((place_Tops.f 65536).bind fun t121 => (some (t121 == 32))) else (some false))) else (some false)) else (some false)) else (some false)) else (some false)) else (some false))) else (some false))) else (some false))) else (some false)) else (some false)) else (some false))) else (some false))) else (some false))))) = some r := H
  have A1 := Aside0.mk A10
  clear A10
  replace H := Option.bind_eq_some_iff.mp H
  obtain ⟨⟨t110, t111⟩, A20, H⟩ := H
  replace H : ((place_Root.f 33 1).bind fun bt112 => ((place_Leaves.f 33).bind fun t114 => (if t114 = 2 then ((place_Tops.f 33).bind fun t115 => (if t115 = 1 then ((place_Cells.f 33).bind fun t116 => (if t116 = 4 then (if t108 = 1 then (if t109 = 8 then ((place_Offset.f 1 8).bind fun t117 => (if t117 = 40 then ((place_Width.f 33 1).bind fun t118 => (if t118 = 1 then ((place_Width.f 33 0).bind fun t119 => (if t119 = 32 then (if t110 = 2 then (if t111 = 1 then (if bt112.1 = 3 then (if bt112.2 = 0 then ((place_Leaves.f 65536).bind fun t120 => (if t120 = 2048 then ((place_Tops.f 65536).bind fun t121 => (some (t121 == 32))) else (some false))) else (some false)) else (some false)) else (some false)) else (some false)) else (some false))) else (some false))) else (some false))) else (some false)) else (some false)) else (some false))) else (some false))) else (some false)))) = some r := H
  have A2 := Aside0.mk A20
  clear A20
  replace H := Option.bind_eq_some_iff.mp H
  obtain ⟨⟨t112, t113⟩, A30, H⟩ := H
  replace H : ((place_Leaves.f 33).bind fun t114 => (if t114 = 2 then ((place_Tops.f 33).bind fun t115 => (if t115 = 1 then ((place_Cells.f 33).bind fun t116 => (if t116 = 4 then (if t108 = 1 then (if t109 = 8 then ((place_Offset.f 1 8).bind fun t117 => (if t117 = 40 then ((place_Width.f 33 1).bind fun t118 => (if t118 = 1 then ((place_Width.f 33 0).bind fun t119 => (if t119 = 32 then (if t110 = 2 then (if t111 = 1 then (if t112 = 3 then (if t113 = 0 then ((place_Leaves.f 65536).bind fun t120 => (if t120 = 2048 then ((place_Tops.f 65536).bind fun t121 => (some (t121 == 32))) else (some false))) else (some false)) else (some false)) else (some false)) else (some false)) else (some false))) else (some false))) else (some false))) else (some false)) else (some false)) else (some false))) else (some false))) else (some false))) = some r := H
  have A3 := Aside0.mk A30
  clear A30
  replace H := Option.bind_eq_some_iff.mp H
  obtain ⟨t114, A40, H⟩ := H
  replace H : (if t114 = 2 then ((place_Tops.f 33).bind fun t115 => (if t115 = 1 then ((place_Cells.f 33).bind fun t116 => (if t116 = 4 then (if t108 = 1 then (if t109 = 8 then ((place_Offset.f 1 8).bind fun t117 => (if t117 = 40 then ((place_Width.f 33 1).bind fun t118 => (if t118 = 1 then ((place_Width.f 33 0).bind fun t119 => (if t119 = 32 then (if t110 = 2 then (if t111 = 1 then (if t112 = 3 then (if t113 = 0 then ((place_Leaves.f 65536).bind fun t120 => (if t120 = 2048 then ((place_Tops.f 65536).bind fun t121 => (some (t121 == 32))) else (some false))) else (some false)) else (some false)) else (some false)) else (some false)) else (some false))) else (some false))) else (some false))) else (some false)) else (some false)) else (some false))) else (some false))) else (some false)) = some r := H
  have A4 := Aside0.mk A40
  clear A40
  by_cases c5 : t114 = 2
  · rw [if_pos c5] at H
    have c5b0 : (t114 == 2) = true := beq_iff_eq.mpr c5
    have c5b1 : (t114 != 2) = false := bne_eq_false_iff_eq.mpr c5
    clear c5
    replace H := Option.bind_eq_some_iff.mp H
    obtain ⟨t115, A60, H⟩ := H
    replace H : (if t115 = 1 then ((place_Cells.f 33).bind fun t116 => (if t116 = 4 then (if t108 = 1 then (if t109 = 8 then ((place_Offset.f 1 8).bind fun t117 => (if t117 = 40 then ((place_Width.f 33 1).bind fun t118 => (if t118 = 1 then ((place_Width.f 33 0).bind fun t119 => (if t119 = 32 then (if t110 = 2 then (if t111 = 1 then (if t112 = 3 then (if t113 = 0 then ((place_Leaves.f 65536).bind fun t120 => (if t120 = 2048 then ((place_Tops.f 65536).bind fun t121 => (some (t121 == 32))) else (some false))) else (some false)) else (some false)) else (some false)) else (some false)) else (some false))) else (some false))) else (some false))) else (some false)) else (some false)) else (some false))) else (some false)) = some r := H
    have A6 := Aside0.mk A60
    clear A60
    by_cases c7 : t115 = 1
    · rw [if_pos c7] at H
      have c7b0 : (t115 == 1) = true := beq_iff_eq.mpr c7
      have c7b1 : (t115 != 1) = false := bne_eq_false_iff_eq.mpr c7
      clear c7
      replace H := Option.bind_eq_some_iff.mp H
      obtain ⟨t116, A80, H⟩ := H
      replace H : (if t116 = 4 then (if t108 = 1 then (if t109 = 8 then ((place_Offset.f 1 8).bind fun t117 => (if t117 = 40 then ((place_Width.f 33 1).bind fun t118 => (if t118 = 1 then ((place_Width.f 33 0).bind fun t119 => (if t119 = 32 then (if t110 = 2 then (if t111 = 1 then (if t112 = 3 then (if t113 = 0 then ((place_Leaves.f 65536).bind fun t120 => (if t120 = 2048 then ((place_Tops.f 65536).bind fun t121 => (some (t121 == 32))) else (some false))) else (some false)) else (some false)) else (some false)) else (some false)) else (some false))) else (some false))) else (some false))) else (some false)) else (some false)) else (some false)) = some r := H
      have A8 := Aside0.mk A80
      clear A80
      by_cases c9 : t116 = 4
      · rw [if_pos c9] at H
        have c9b0 : (t116 == 4) = true := beq_iff_eq.mpr c9
        have c9b1 : (t116 != 4) = false := bne_eq_false_iff_eq.mpr c9
        clear c9
        by_cases c10 : t108 = 1
        · rw [if_pos c10] at H
          have c10b0 : (t108 == 1) = true := beq_iff_eq.mpr c10
          have c10b1 : (t108 != 1) = false := bne_eq_false_iff_eq.mpr c10
          clear c10
          by_cases c11 : t109 = 8
          · rw [if_pos c11] at H
            have c11b0 : (t109 == 8) = true := beq_iff_eq.mpr c11
            have c11b1 : (t109 != 8) = false := bne_eq_false_iff_eq.mpr c11
            clear c11
            replace H := Option.bind_eq_some_iff.mp H
            obtain ⟨t117, A120, H⟩ := H
            replace H : (if t117 = 40 then ((place_Width.f 33 1).bind fun t118 => (if t118 = 1 then ((place_Width.f 33 0).bind fun t119 => (if t119 = 32 then (if t110 = 2 then (if t111 = 1 then (if t112 = 3 then (if t113 = 0 then ((place_Leaves.f 65536).bind fun t120 => (if t120 = 2048 then ((place_Tops.f 65536).bind fun t121 => (some (t121 == 32))) else (some false))) else (some false)) else (some false)) else (some false)) else (some false)) else (some false))) else (some false))) else (some false)) = some r := H
            have A12 := Aside0.mk A120
            clear A120
            by_cases c13 : t117 = 40
            · rw [if_pos c13] at H
              have c13b0 : (t117 == 40) = true := beq_iff_eq.mpr c13
              have c13b1 : (t117 != 40) = false := bne_eq_false_iff_eq.mpr c13
              clear c13
              replace H := Option.bind_eq_some_iff.mp H
              obtain ⟨t118, A140, H⟩ := H
              replace H : (if t118 = 1 then ((place_Width.f 33 0).bind fun t119 => (if t119 = 32 then (if t110 = 2 then (if t111 = 1 then (if t112 = 3 then (if t113 = 0 then ((place_Leaves.f 65536).bind fun t120 => (if t120 = 2048 then ((place_Tops.f 65536).bind fun t121 => (some (t121 == 32))) else (some false))) else (some false)) else (some false)) else (some false)) else (some false)) else (some false))) else (some false)) = some r := H
              have A14 := Aside0.mk A140
              clear A140
              by_cases c15 : t118 = 1
              · rw [if_pos c15] at H
                have c15b0 : (t118 == 1) = true := beq_iff_eq.mpr c15
                have c15b1 : (t118 != 1) = false := bne_eq_false_iff_eq.mpr c15
                clear c15
                replace H := Option.bind_eq_some_iff.mp H
                obtain ⟨t119, A160, H⟩ := H
                replace H : (if t119 = 32 then (if t110 = 2 then (if t111 = 1 then (if t112 = 3 then (if t113 = 0 then ((place_Leaves.f 65536).bind fun t120 => (if t120 = 2048 then ((place_Tops.f 65536).bind fun t121 => (some (t121 == 32))) else (some false))) else (some false)) else (some false)) else (some false)) else (some false)) else (some false)) = some r := H
                have A16 := Aside0.mk A160
                clear A160
                by_cases c17 : t119 = 32
                · rw [if_pos c17] at H
                  have c17b0 : (t119 == 32) = true := beq_iff_eq.mpr c17
                  have c17b1 : (t119 != 32) = false := bne_eq_false_iff_eq.mpr c17
                  clear c17
                  by_cases c18 : t110 = 2
                  · rw [if_pos c18] at H
                    have c18b0 : (t110 == 2) = true := beq_iff_eq.mpr c18
                    have c18b1 : (t110 != 2) = false := bne_eq_false_iff_eq.mpr c18
                    clear c18
                    by_cases c19 : t111 = 1
                    · rw [if_pos c19] at H
                      have c19b0 : (t111 == 1) = true := beq_iff_eq.mpr c19
                      have c19b1 : (t111 != 1) = false := bne_eq_false_iff_eq.mpr c19
                      clear c19
                      by_cases c20 : t112 = 3
                      · rw [if_pos c20] at H
                        have c20b0 : (t112 == 3) = true := beq_iff_eq.mpr c20
                        have c20b1 : (t112 != 3) = false := bne_eq_false_iff_eq.mpr c20
                        clear c20
                        by_cases c21 : t113 = 0
                        · rw [if_pos c21] at H
                          have c21b0 : (t113 == 0) = true := beq_iff_eq.mpr c21
                          have c21b1 : (t113 != 0) = false := bne_eq_false_iff_eq.mpr c21
                          clear c21
                          replace H := Option.bind_eq_some_iff.mp H
                          obtain ⟨t120, A220, H⟩ := H
                          replace H : (if t120 = 2048 then ((place_Tops.f 65536).bind fun t121 => (some (t121 == 32))) else (some false)) = some r := H
                          have A22 := Aside0.mk A220
                          clear A220
                          by_cases c23 : t120 = 2048
                          · rw [if_pos c23] at H
                            have c23b0 : (t120 == 2048) = true := beq_iff_eq.mpr c23
                            have c23b1 : (t120 != 2048) = false := bne_eq_false_iff_eq.mpr c23
                            clear c23
                            replace H := Option.bind_eq_some_iff.mp H
                            obtain ⟨t121, A240, H⟩ := H
                            replace H : (some (t121 == 32)) = some r := H
                            have A24 := Aside0.mk A240
                            clear A240
                            obtain rfl := Option.some.inj H
                            go_enter Try.func14, Try.ntmps14
                            go_wp2_with (first | ((with_reducible refine gate_callee (f := 15) rfl ?_); refine goesL_ (some 8) rfl rfl Try.func15 (by kernel_rfl) rfl #[.int .i64 40] rfl (by (try simp only [List.map_toArray, List.map_cons, List.map_nil]); first | done | rfl | (simp only [List.length_drop, List.length_take]; rfl)) ?_; (with_reducible refine (place_Leaf.calls 40 t108 t109 _ A1.out).mono ?_); rintro e w' ⟨rfl, ⟨nd, rfl⟩⟩; refine ⟨_, rfl, ?_⟩) | ((with_reducible refine gate_callee (f := 16) rfl ?_); refine goesL_ (some 12) rfl rfl Try.func16 (by kernel_rfl) rfl #[.int .i64 33, .int .i64 1] rfl (by (try simp only [List.map_toArray, List.map_cons, List.map_nil]); first | done | rfl | (simp only [List.length_drop, List.length_take]; rfl)) ?_; (with_reducible refine (place_Top.calls 33 1 t110 t111 _ A2.out).mono ?_); rintro e w' ⟨rfl, ⟨nd, rfl⟩⟩; refine ⟨_, rfl, ?_⟩) | ((with_reducible refine gate_callee (f := 18) rfl ?_); refine goesL_ (some 16) rfl rfl Try.func18 (by kernel_rfl) rfl #[.int .i64 33, .int .i64 1] rfl (by (try simp only [List.map_toArray, List.map_cons, List.map_nil]); first | done | rfl | (simp only [List.length_drop, List.length_take]; rfl)) ?_; (with_reducible refine (place_Root.calls 33 1 t112 t113 _ A3.out).mono ?_); rintro e w' ⟨rfl, ⟨nd, rfl⟩⟩; refine ⟨_, rfl, ?_⟩) | ((with_reducible refine gate_callee (f := 20) rfl ?_); refine goesL_ (some 19) rfl rfl Try.func20 (by kernel_rfl) rfl #[.int .i64 33] rfl (by (try simp only [List.map_toArray, List.map_cons, List.map_nil]); first | done | rfl | (simp only [List.length_drop, List.length_take]; rfl)) ?_; (with_reducible refine (place_Leaves.calls 33 t114 _ A4.out).mono ?_); rintro e w' ⟨rfl, ⟨nd, rfl⟩⟩; refine ⟨_, rfl, ?_⟩) | (go_at_call 22; (with_reducible refine (place_Tops.calls 33 t115 _ A6.out).mono ?_); rintro e w' ⟨rfl, ⟨nd, rfl⟩⟩) | (go_at_call 24; (with_reducible refine (place_Cells.calls 33 t116 _ A8.out).mono ?_); rintro e w' ⟨rfl, ⟨nd, rfl⟩⟩) | (go_at_call 26; (with_reducible refine (place_Offset.calls 1 8 t117 _ A12.out).mono ?_); rintro e w' ⟨rfl, ⟨nd, rfl⟩⟩) | (go_at_call 27; (with_reducible refine (place_Width.calls 33 1 t118 _ A14.out).mono ?_); rintro e w25 ⟨rfl, hb⟩; have n0_ := Aside0.mk (below_step (by repeat (first | (with_reducible first | exact HB.out | apply below_alloc | apply pw_below_drewN | apply below_drew1) | exact HB.out)) hb); clear HB; have HB := n0_; clear n0_; (try clear hb); (try clear hb2); (try clear hk); (try clear hi)) | (go_at_call 27; (with_reducible refine (place_Width.calls 33 0 t119 _ A16.out).mono ?_); rintro e w26 ⟨rfl, hb⟩; have n0_ := Aside0.mk (below_step (by repeat (first | (with_reducible first | exact HB.out | apply below_alloc | apply pw_below_drewN | apply below_drew1) | exact HB.out)) hb); clear HB; have HB := n0_; clear n0_; (try clear hb); (try clear hb2); (try clear hk); (try clear hi)) | (go_at_call 20; (with_reducible refine (place_Leaves.calls 65536 t120 _ A22.out).mono ?_); rintro e w' ⟨rfl, ⟨nd, rfl⟩⟩) | (go_at_call 22; (with_reducible refine (place_Tops.calls 65536 t121 _ A24.out).mono ?_); rintro e w' ⟨rfl, ⟨nd, rfl⟩⟩) | (go_at_call 15; (with_reducible refine (place_Leaf.calls 40 t108 t109 _ A1.out).mono ?_); rintro e w' ⟨rfl, ⟨nd, rfl⟩⟩) | (go_at_call 16; (with_reducible refine (place_Top.calls 33 1 t110 t111 _ A2.out).mono ?_); rintro e w' ⟨rfl, ⟨nd, rfl⟩⟩) | (go_at_call 18; (with_reducible refine (place_Root.calls 33 1 t112 t113 _ A3.out).mono ?_); rintro e w' ⟨rfl, ⟨nd, rfl⟩⟩) | (go_at_call 20; (with_reducible refine (place_Leaves.calls 33 t114 _ A4.out).mono ?_); rintro e w' ⟨rfl, ⟨nd, rfl⟩⟩))
                            go_ret
                            exact ⟨by first | rfl | (simp [errW_none, errW_some] <;> rfl) | (simp [*, errW_none, errW_some] <;> rfl), by repeat (first | (with_reducible first | exact HB.out | apply below_alloc | apply pw_below_drewN | apply below_drew1) | exact HB.out)⟩
                          · rw [if_neg c23] at H
                            have c23b0 : (t120 == 2048) = false := beq_eq_false_iff_ne.mpr c23
                            have c23b1 : (t120 != 2048) = true := bne_iff_ne.mpr c23
                            obtain rfl := Option.some.inj H
                            go_enter Try.func14, Try.ntmps14
                            go_wp2_with (first | ((with_reducible refine gate_callee (f := 15) rfl ?_); refine goesL_ (some 8) rfl rfl Try.func15 (by kernel_rfl) rfl #[.int .i64 40] rfl (by (try simp only [List.map_toArray, List.map_cons, List.map_nil]); first | done | rfl | (simp only [List.length_drop, List.length_take]; rfl)) ?_; (with_reducible refine (place_Leaf.calls 40 t108 t109 _ A1.out).mono ?_); rintro e w' ⟨rfl, ⟨nd, rfl⟩⟩; refine ⟨_, rfl, ?_⟩) | ((with_reducible refine gate_callee (f := 16) rfl ?_); refine goesL_ (some 12) rfl rfl Try.func16 (by kernel_rfl) rfl #[.int .i64 33, .int .i64 1] rfl (by (try simp only [List.map_toArray, List.map_cons, List.map_nil]); first | done | rfl | (simp only [List.length_drop, List.length_take]; rfl)) ?_; (with_reducible refine (place_Top.calls 33 1 t110 t111 _ A2.out).mono ?_); rintro e w' ⟨rfl, ⟨nd, rfl⟩⟩; refine ⟨_, rfl, ?_⟩) | ((with_reducible refine gate_callee (f := 18) rfl ?_); refine goesL_ (some 16) rfl rfl Try.func18 (by kernel_rfl) rfl #[.int .i64 33, .int .i64 1] rfl (by (try simp only [List.map_toArray, List.map_cons, List.map_nil]); first | done | rfl | (simp only [List.length_drop, List.length_take]; rfl)) ?_; (with_reducible refine (place_Root.calls 33 1 t112 t113 _ A3.out).mono ?_); rintro e w' ⟨rfl, ⟨nd, rfl⟩⟩; refine ⟨_, rfl, ?_⟩) | ((with_reducible refine gate_callee (f := 20) rfl ?_); refine goesL_ (some 19) rfl rfl Try.func20 (by kernel_rfl) rfl #[.int .i64 33] rfl (by (try simp only [List.map_toArray, List.map_cons, List.map_nil]); first | done | rfl | (simp only [List.length_drop, List.length_take]; rfl)) ?_; (with_reducible refine (place_Leaves.calls 33 t114 _ A4.out).mono ?_); rintro e w' ⟨rfl, ⟨nd, rfl⟩⟩; refine ⟨_, rfl, ?_⟩) | (go_at_call 22; (with_reducible refine (place_Tops.calls 33 t115 _ A6.out).mono ?_); rintro e w' ⟨rfl, ⟨nd, rfl⟩⟩) | (go_at_call 24; (with_reducible refine (place_Cells.calls 33 t116 _ A8.out).mono ?_); rintro e w' ⟨rfl, ⟨nd, rfl⟩⟩) | (go_at_call 26; (with_reducible refine (place_Offset.calls 1 8 t117 _ A12.out).mono ?_); rintro e w' ⟨rfl, ⟨nd, rfl⟩⟩) | (go_at_call 27; (with_reducible refine (place_Width.calls 33 1 t118 _ A14.out).mono ?_); rintro e w27 ⟨rfl, hb⟩; have n0_ := Aside0.mk (below_step (by repeat (first | (with_reducible first | exact HB.out | apply below_alloc | apply pw_below_drewN | apply below_drew1) | exact HB.out)) hb); clear HB; have HB := n0_; clear n0_; (try clear hb); (try clear hb2); (try clear hk); (try clear hi)) | (go_at_call 27; (with_reducible refine (place_Width.calls 33 0 t119 _ A16.out).mono ?_); rintro e w28 ⟨rfl, hb⟩; have n0_ := Aside0.mk (below_step (by repeat (first | (with_reducible first | exact HB.out | apply below_alloc | apply pw_below_drewN | apply below_drew1) | exact HB.out)) hb); clear HB; have HB := n0_; clear n0_; (try clear hb); (try clear hb2); (try clear hk); (try clear hi)) | (go_at_call 20; (with_reducible refine (place_Leaves.calls 65536 t120 _ A22.out).mono ?_); rintro e w' ⟨rfl, ⟨nd, rfl⟩⟩) | (go_at_call 15; (with_reducible refine (place_Leaf.calls 40 t108 t109 _ A1.out).mono ?_); rintro e w' ⟨rfl, ⟨nd, rfl⟩⟩) | (go_at_call 16; (with_reducible refine (place_Top.calls 33 1 t110 t111 _ A2.out).mono ?_); rintro e w' ⟨rfl, ⟨nd, rfl⟩⟩) | (go_at_call 18; (with_reducible refine (place_Root.calls 33 1 t112 t113 _ A3.out).mono ?_); rintro e w' ⟨rfl, ⟨nd, rfl⟩⟩) | (go_at_call 20; (with_reducible refine (place_Leaves.calls 33 t114 _ A4.out).mono ?_); rintro e w' ⟨rfl, ⟨nd, rfl⟩⟩))
                            go_ret
                            exact ⟨by first | rfl | (simp [errW_none, errW_some] <;> rfl) | (simp [*, errW_none, errW_some] <;> rfl), by repeat (first | (with_reducible first | exact HB.out | apply below_alloc | apply pw_below_drewN | apply below_drew1) | exact HB.out)⟩
                        · rw [if_neg c21] at H
                          have c21b0 : (t113 == 0) = false := beq_eq_false_iff_ne.mpr c21
                          have c21b1 : (t113 != 0) = true := bne_iff_ne.mpr c21
                          obtain rfl := Option.some.inj H
                          go_enter Try.func14, Try.ntmps14
                          go_wp2_with (first | ((with_reducible refine gate_callee (f := 15) rfl ?_); refine goesL_ (some 8) rfl rfl Try.func15 (by kernel_rfl) rfl #[.int .i64 40] rfl (by (try simp only [List.map_toArray, List.map_cons, List.map_nil]); first | done | rfl | (simp only [List.length_drop, List.length_take]; rfl)) ?_; (with_reducible refine (place_Leaf.calls 40 t108 t109 _ A1.out).mono ?_); rintro e w' ⟨rfl, ⟨nd, rfl⟩⟩; refine ⟨_, rfl, ?_⟩) | ((with_reducible refine gate_callee (f := 16) rfl ?_); refine goesL_ (some 12) rfl rfl Try.func16 (by kernel_rfl) rfl #[.int .i64 33, .int .i64 1] rfl (by (try simp only [List.map_toArray, List.map_cons, List.map_nil]); first | done | rfl | (simp only [List.length_drop, List.length_take]; rfl)) ?_; (with_reducible refine (place_Top.calls 33 1 t110 t111 _ A2.out).mono ?_); rintro e w' ⟨rfl, ⟨nd, rfl⟩⟩; refine ⟨_, rfl, ?_⟩) | ((with_reducible refine gate_callee (f := 18) rfl ?_); refine goesL_ (some 16) rfl rfl Try.func18 (by kernel_rfl) rfl #[.int .i64 33, .int .i64 1] rfl (by (try simp only [List.map_toArray, List.map_cons, List.map_nil]); first | done | rfl | (simp only [List.length_drop, List.length_take]; rfl)) ?_; (with_reducible refine (place_Root.calls 33 1 t112 t113 _ A3.out).mono ?_); rintro e w' ⟨rfl, ⟨nd, rfl⟩⟩; refine ⟨_, rfl, ?_⟩) | ((with_reducible refine gate_callee (f := 20) rfl ?_); refine goesL_ (some 19) rfl rfl Try.func20 (by kernel_rfl) rfl #[.int .i64 33] rfl (by (try simp only [List.map_toArray, List.map_cons, List.map_nil]); first | done | rfl | (simp only [List.length_drop, List.length_take]; rfl)) ?_; (with_reducible refine (place_Leaves.calls 33 t114 _ A4.out).mono ?_); rintro e w' ⟨rfl, ⟨nd, rfl⟩⟩; refine ⟨_, rfl, ?_⟩) | (go_at_call 22; (with_reducible refine (place_Tops.calls 33 t115 _ A6.out).mono ?_); rintro e w' ⟨rfl, ⟨nd, rfl⟩⟩) | (go_at_call 24; (with_reducible refine (place_Cells.calls 33 t116 _ A8.out).mono ?_); rintro e w' ⟨rfl, ⟨nd, rfl⟩⟩) | (go_at_call 26; (with_reducible refine (place_Offset.calls 1 8 t117 _ A12.out).mono ?_); rintro e w' ⟨rfl, ⟨nd, rfl⟩⟩) | (go_at_call 27; (with_reducible refine (place_Width.calls 33 1 t118 _ A14.out).mono ?_); rintro e w29 ⟨rfl, hb⟩; have n0_ := Aside0.mk (below_step (by repeat (first | (with_reducible first | exact HB.out | apply below_alloc | apply pw_below_drewN | apply below_drew1) | exact HB.out)) hb); clear HB; have HB := n0_; clear n0_; (try clear hb); (try clear hb2); (try clear hk); (try clear hi)) | (go_at_call 27; (with_reducible refine (place_Width.calls 33 0 t119 _ A16.out).mono ?_); rintro e w30 ⟨rfl, hb⟩; have n0_ := Aside0.mk (below_step (by repeat (first | (with_reducible first | exact HB.out | apply below_alloc | apply pw_below_drewN | apply below_drew1) | exact HB.out)) hb); clear HB; have HB := n0_; clear n0_; (try clear hb); (try clear hb2); (try clear hk); (try clear hi)) | (go_at_call 15; (with_reducible refine (place_Leaf.calls 40 t108 t109 _ A1.out).mono ?_); rintro e w' ⟨rfl, ⟨nd, rfl⟩⟩) | (go_at_call 16; (with_reducible refine (place_Top.calls 33 1 t110 t111 _ A2.out).mono ?_); rintro e w' ⟨rfl, ⟨nd, rfl⟩⟩) | (go_at_call 18; (with_reducible refine (place_Root.calls 33 1 t112 t113 _ A3.out).mono ?_); rintro e w' ⟨rfl, ⟨nd, rfl⟩⟩) | (go_at_call 20; (with_reducible refine (place_Leaves.calls 33 t114 _ A4.out).mono ?_); rintro e w' ⟨rfl, ⟨nd, rfl⟩⟩))
                          go_ret
                          exact ⟨by first | rfl | (simp [errW_none, errW_some] <;> rfl) | (simp [*, errW_none, errW_some] <;> rfl), by repeat (first | (with_reducible first | exact HB.out | apply below_alloc | apply pw_below_drewN | apply below_drew1) | exact HB.out)⟩
                      · rw [if_neg c20] at H
                        have c20b0 : (t112 == 3) = false := beq_eq_false_iff_ne.mpr c20
                        have c20b1 : (t112 != 3) = true := bne_iff_ne.mpr c20
                        obtain rfl := Option.some.inj H
                        go_enter Try.func14, Try.ntmps14
                        go_wp2_with (first | ((with_reducible refine gate_callee (f := 15) rfl ?_); refine goesL_ (some 8) rfl rfl Try.func15 (by kernel_rfl) rfl #[.int .i64 40] rfl (by (try simp only [List.map_toArray, List.map_cons, List.map_nil]); first | done | rfl | (simp only [List.length_drop, List.length_take]; rfl)) ?_; (with_reducible refine (place_Leaf.calls 40 t108 t109 _ A1.out).mono ?_); rintro e w' ⟨rfl, ⟨nd, rfl⟩⟩; refine ⟨_, rfl, ?_⟩) | ((with_reducible refine gate_callee (f := 16) rfl ?_); refine goesL_ (some 12) rfl rfl Try.func16 (by kernel_rfl) rfl #[.int .i64 33, .int .i64 1] rfl (by (try simp only [List.map_toArray, List.map_cons, List.map_nil]); first | done | rfl | (simp only [List.length_drop, List.length_take]; rfl)) ?_; (with_reducible refine (place_Top.calls 33 1 t110 t111 _ A2.out).mono ?_); rintro e w' ⟨rfl, ⟨nd, rfl⟩⟩; refine ⟨_, rfl, ?_⟩) | ((with_reducible refine gate_callee (f := 18) rfl ?_); refine goesL_ (some 16) rfl rfl Try.func18 (by kernel_rfl) rfl #[.int .i64 33, .int .i64 1] rfl (by (try simp only [List.map_toArray, List.map_cons, List.map_nil]); first | done | rfl | (simp only [List.length_drop, List.length_take]; rfl)) ?_; (with_reducible refine (place_Root.calls 33 1 t112 t113 _ A3.out).mono ?_); rintro e w' ⟨rfl, ⟨nd, rfl⟩⟩; refine ⟨_, rfl, ?_⟩) | ((with_reducible refine gate_callee (f := 20) rfl ?_); refine goesL_ (some 19) rfl rfl Try.func20 (by kernel_rfl) rfl #[.int .i64 33] rfl (by (try simp only [List.map_toArray, List.map_cons, List.map_nil]); first | done | rfl | (simp only [List.length_drop, List.length_take]; rfl)) ?_; (with_reducible refine (place_Leaves.calls 33 t114 _ A4.out).mono ?_); rintro e w' ⟨rfl, ⟨nd, rfl⟩⟩; refine ⟨_, rfl, ?_⟩) | (go_at_call 22; (with_reducible refine (place_Tops.calls 33 t115 _ A6.out).mono ?_); rintro e w' ⟨rfl, ⟨nd, rfl⟩⟩) | (go_at_call 24; (with_reducible refine (place_Cells.calls 33 t116 _ A8.out).mono ?_); rintro e w' ⟨rfl, ⟨nd, rfl⟩⟩) | (go_at_call 26; (with_reducible refine (place_Offset.calls 1 8 t117 _ A12.out).mono ?_); rintro e w' ⟨rfl, ⟨nd, rfl⟩⟩) | (go_at_call 27; (with_reducible refine (place_Width.calls 33 1 t118 _ A14.out).mono ?_); rintro e w31 ⟨rfl, hb⟩; have n0_ := Aside0.mk (below_step (by repeat (first | (with_reducible first | exact HB.out | apply below_alloc | apply pw_below_drewN | apply below_drew1) | exact HB.out)) hb); clear HB; have HB := n0_; clear n0_; (try clear hb); (try clear hb2); (try clear hk); (try clear hi)) | (go_at_call 27; (with_reducible refine (place_Width.calls 33 0 t119 _ A16.out).mono ?_); rintro e w32 ⟨rfl, hb⟩; have n0_ := Aside0.mk (below_step (by repeat (first | (with_reducible first | exact HB.out | apply below_alloc | apply pw_below_drewN | apply below_drew1) | exact HB.out)) hb); clear HB; have HB := n0_; clear n0_; (try clear hb); (try clear hb2); (try clear hk); (try clear hi)) | (go_at_call 15; (with_reducible refine (place_Leaf.calls 40 t108 t109 _ A1.out).mono ?_); rintro e w' ⟨rfl, ⟨nd, rfl⟩⟩) | (go_at_call 16; (with_reducible refine (place_Top.calls 33 1 t110 t111 _ A2.out).mono ?_); rintro e w' ⟨rfl, ⟨nd, rfl⟩⟩) | (go_at_call 18; (with_reducible refine (place_Root.calls 33 1 t112 t113 _ A3.out).mono ?_); rintro e w' ⟨rfl, ⟨nd, rfl⟩⟩) | (go_at_call 20; (with_reducible refine (place_Leaves.calls 33 t114 _ A4.out).mono ?_); rintro e w' ⟨rfl, ⟨nd, rfl⟩⟩))
                        go_ret
                        exact ⟨by first | rfl | (simp [errW_none, errW_some] <;> rfl) | (simp [*, errW_none, errW_some] <;> rfl), by repeat (first | (with_reducible first | exact HB.out | apply below_alloc | apply pw_below_drewN | apply below_drew1) | exact HB.out)⟩
                    · rw [if_neg c19] at H
                      have c19b0 : (t111 == 1) = false := beq_eq_false_iff_ne.mpr c19
                      have c19b1 : (t111 != 1) = true := bne_iff_ne.mpr c19
                      obtain rfl := Option.some.inj H
                      go_enter Try.func14, Try.ntmps14
                      go_wp2_with (first | ((with_reducible refine gate_callee (f := 15) rfl ?_); refine goesL_ (some 8) rfl rfl Try.func15 (by kernel_rfl) rfl #[.int .i64 40] rfl (by (try simp only [List.map_toArray, List.map_cons, List.map_nil]); first | done | rfl | (simp only [List.length_drop, List.length_take]; rfl)) ?_; (with_reducible refine (place_Leaf.calls 40 t108 t109 _ A1.out).mono ?_); rintro e w' ⟨rfl, ⟨nd, rfl⟩⟩; refine ⟨_, rfl, ?_⟩) | ((with_reducible refine gate_callee (f := 16) rfl ?_); refine goesL_ (some 12) rfl rfl Try.func16 (by kernel_rfl) rfl #[.int .i64 33, .int .i64 1] rfl (by (try simp only [List.map_toArray, List.map_cons, List.map_nil]); first | done | rfl | (simp only [List.length_drop, List.length_take]; rfl)) ?_; (with_reducible refine (place_Top.calls 33 1 t110 t111 _ A2.out).mono ?_); rintro e w' ⟨rfl, ⟨nd, rfl⟩⟩; refine ⟨_, rfl, ?_⟩) | ((with_reducible refine gate_callee (f := 18) rfl ?_); refine goesL_ (some 16) rfl rfl Try.func18 (by kernel_rfl) rfl #[.int .i64 33, .int .i64 1] rfl (by (try simp only [List.map_toArray, List.map_cons, List.map_nil]); first | done | rfl | (simp only [List.length_drop, List.length_take]; rfl)) ?_; (with_reducible refine (place_Root.calls 33 1 t112 t113 _ A3.out).mono ?_); rintro e w' ⟨rfl, ⟨nd, rfl⟩⟩; refine ⟨_, rfl, ?_⟩) | ((with_reducible refine gate_callee (f := 20) rfl ?_); refine goesL_ (some 19) rfl rfl Try.func20 (by kernel_rfl) rfl #[.int .i64 33] rfl (by (try simp only [List.map_toArray, List.map_cons, List.map_nil]); first | done | rfl | (simp only [List.length_drop, List.length_take]; rfl)) ?_; (with_reducible refine (place_Leaves.calls 33 t114 _ A4.out).mono ?_); rintro e w' ⟨rfl, ⟨nd, rfl⟩⟩; refine ⟨_, rfl, ?_⟩) | (go_at_call 22; (with_reducible refine (place_Tops.calls 33 t115 _ A6.out).mono ?_); rintro e w' ⟨rfl, ⟨nd, rfl⟩⟩) | (go_at_call 24; (with_reducible refine (place_Cells.calls 33 t116 _ A8.out).mono ?_); rintro e w' ⟨rfl, ⟨nd, rfl⟩⟩) | (go_at_call 26; (with_reducible refine (place_Offset.calls 1 8 t117 _ A12.out).mono ?_); rintro e w' ⟨rfl, ⟨nd, rfl⟩⟩) | (go_at_call 27; (with_reducible refine (place_Width.calls 33 1 t118 _ A14.out).mono ?_); rintro e w33 ⟨rfl, hb⟩; have n0_ := Aside0.mk (below_step (by repeat (first | (with_reducible first | exact HB.out | apply below_alloc | apply pw_below_drewN | apply below_drew1) | exact HB.out)) hb); clear HB; have HB := n0_; clear n0_; (try clear hb); (try clear hb2); (try clear hk); (try clear hi)) | (go_at_call 27; (with_reducible refine (place_Width.calls 33 0 t119 _ A16.out).mono ?_); rintro e w34 ⟨rfl, hb⟩; have n0_ := Aside0.mk (below_step (by repeat (first | (with_reducible first | exact HB.out | apply below_alloc | apply pw_below_drewN | apply below_drew1) | exact HB.out)) hb); clear HB; have HB := n0_; clear n0_; (try clear hb); (try clear hb2); (try clear hk); (try clear hi)) | (go_at_call 15; (with_reducible refine (place_Leaf.calls 40 t108 t109 _ A1.out).mono ?_); rintro e w' ⟨rfl, ⟨nd, rfl⟩⟩) | (go_at_call 16; (with_reducible refine (place_Top.calls 33 1 t110 t111 _ A2.out).mono ?_); rintro e w' ⟨rfl, ⟨nd, rfl⟩⟩) | (go_at_call 18; (with_reducible refine (place_Root.calls 33 1 t112 t113 _ A3.out).mono ?_); rintro e w' ⟨rfl, ⟨nd, rfl⟩⟩) | (go_at_call 20; (with_reducible refine (place_Leaves.calls 33 t114 _ A4.out).mono ?_); rintro e w' ⟨rfl, ⟨nd, rfl⟩⟩))
                      go_ret
                      exact ⟨by first | rfl | (simp [errW_none, errW_some] <;> rfl) | (simp [*, errW_none, errW_some] <;> rfl), by repeat (first | (with_reducible first | exact HB.out | apply below_alloc | apply pw_below_drewN | apply below_drew1) | exact HB.out)⟩
                  · rw [if_neg c18] at H
                    have c18b0 : (t110 == 2) = false := beq_eq_false_iff_ne.mpr c18
                    have c18b1 : (t110 != 2) = true := bne_iff_ne.mpr c18
                    obtain rfl := Option.some.inj H
                    go_enter Try.func14, Try.ntmps14
                    go_wp2_with (first | ((with_reducible refine gate_callee (f := 15) rfl ?_); refine goesL_ (some 8) rfl rfl Try.func15 (by kernel_rfl) rfl #[.int .i64 40] rfl (by (try simp only [List.map_toArray, List.map_cons, List.map_nil]); first | done | rfl | (simp only [List.length_drop, List.length_take]; rfl)) ?_; (with_reducible refine (place_Leaf.calls 40 t108 t109 _ A1.out).mono ?_); rintro e w' ⟨rfl, ⟨nd, rfl⟩⟩; refine ⟨_, rfl, ?_⟩) | ((with_reducible refine gate_callee (f := 16) rfl ?_); refine goesL_ (some 12) rfl rfl Try.func16 (by kernel_rfl) rfl #[.int .i64 33, .int .i64 1] rfl (by (try simp only [List.map_toArray, List.map_cons, List.map_nil]); first | done | rfl | (simp only [List.length_drop, List.length_take]; rfl)) ?_; (with_reducible refine (place_Top.calls 33 1 t110 t111 _ A2.out).mono ?_); rintro e w' ⟨rfl, ⟨nd, rfl⟩⟩; refine ⟨_, rfl, ?_⟩) | ((with_reducible refine gate_callee (f := 18) rfl ?_); refine goesL_ (some 16) rfl rfl Try.func18 (by kernel_rfl) rfl #[.int .i64 33, .int .i64 1] rfl (by (try simp only [List.map_toArray, List.map_cons, List.map_nil]); first | done | rfl | (simp only [List.length_drop, List.length_take]; rfl)) ?_; (with_reducible refine (place_Root.calls 33 1 t112 t113 _ A3.out).mono ?_); rintro e w' ⟨rfl, ⟨nd, rfl⟩⟩; refine ⟨_, rfl, ?_⟩) | ((with_reducible refine gate_callee (f := 20) rfl ?_); refine goesL_ (some 19) rfl rfl Try.func20 (by kernel_rfl) rfl #[.int .i64 33] rfl (by (try simp only [List.map_toArray, List.map_cons, List.map_nil]); first | done | rfl | (simp only [List.length_drop, List.length_take]; rfl)) ?_; (with_reducible refine (place_Leaves.calls 33 t114 _ A4.out).mono ?_); rintro e w' ⟨rfl, ⟨nd, rfl⟩⟩; refine ⟨_, rfl, ?_⟩) | (go_at_call 22; (with_reducible refine (place_Tops.calls 33 t115 _ A6.out).mono ?_); rintro e w' ⟨rfl, ⟨nd, rfl⟩⟩) | (go_at_call 24; (with_reducible refine (place_Cells.calls 33 t116 _ A8.out).mono ?_); rintro e w' ⟨rfl, ⟨nd, rfl⟩⟩) | (go_at_call 26; (with_reducible refine (place_Offset.calls 1 8 t117 _ A12.out).mono ?_); rintro e w' ⟨rfl, ⟨nd, rfl⟩⟩) | (go_at_call 27; (with_reducible refine (place_Width.calls 33 1 t118 _ A14.out).mono ?_); rintro e w35 ⟨rfl, hb⟩; have n0_ := Aside0.mk (below_step (by repeat (first | (with_reducible first | exact HB.out | apply below_alloc | apply pw_below_drewN | apply below_drew1) | exact HB.out)) hb); clear HB; have HB := n0_; clear n0_; (try clear hb); (try clear hb2); (try clear hk); (try clear hi)) | (go_at_call 27; (with_reducible refine (place_Width.calls 33 0 t119 _ A16.out).mono ?_); rintro e w36 ⟨rfl, hb⟩; have n0_ := Aside0.mk (below_step (by repeat (first | (with_reducible first | exact HB.out | apply below_alloc | apply pw_below_drewN | apply below_drew1) | exact HB.out)) hb); clear HB; have HB := n0_; clear n0_; (try clear hb); (try clear hb2); (try clear hk); (try clear hi)) | (go_at_call 15; (with_reducible refine (place_Leaf.calls 40 t108 t109 _ A1.out).mono ?_); rintro e w' ⟨rfl, ⟨nd, rfl⟩⟩) | (go_at_call 16; (with_reducible refine (place_Top.calls 33 1 t110 t111 _ A2.out).mono ?_); rintro e w' ⟨rfl, ⟨nd, rfl⟩⟩) | (go_at_call 18; (with_reducible refine (place_Root.calls 33 1 t112 t113 _ A3.out).mono ?_); rintro e w' ⟨rfl, ⟨nd, rfl⟩⟩) | (go_at_call 20; (with_reducible refine (place_Leaves.calls 33 t114 _ A4.out).mono ?_); rintro e w' ⟨rfl, ⟨nd, rfl⟩⟩))
                    go_ret
                    exact ⟨by first | rfl | (simp [errW_none, errW_some] <;> rfl) | (simp [*, errW_none, errW_some] <;> rfl), by repeat (first | (with_reducible first | exact HB.out | apply below_alloc | apply pw_below_drewN | apply below_drew1) | exact HB.out)⟩
                · rw [if_neg c17] at H
                  have c17b0 : (t119 == 32) = false := beq_eq_false_iff_ne.mpr c17
                  have c17b1 : (t119 != 32) = true := bne_iff_ne.mpr c17
                  obtain rfl := Option.some.inj H
                  go_enter Try.func14, Try.ntmps14
                  go_wp2_with (first | ((with_reducible refine gate_callee (f := 15) rfl ?_); refine goesL_ (some 8) rfl rfl Try.func15 (by kernel_rfl) rfl #[.int .i64 40] rfl (by (try simp only [List.map_toArray, List.map_cons, List.map_nil]); first | done | rfl | (simp only [List.length_drop, List.length_take]; rfl)) ?_; (with_reducible refine (place_Leaf.calls 40 t108 t109 _ A1.out).mono ?_); rintro e w' ⟨rfl, ⟨nd, rfl⟩⟩; refine ⟨_, rfl, ?_⟩) | ((with_reducible refine gate_callee (f := 16) rfl ?_); refine goesL_ (some 12) rfl rfl Try.func16 (by kernel_rfl) rfl #[.int .i64 33, .int .i64 1] rfl (by (try simp only [List.map_toArray, List.map_cons, List.map_nil]); first | done | rfl | (simp only [List.length_drop, List.length_take]; rfl)) ?_; (with_reducible refine (place_Top.calls 33 1 t110 t111 _ A2.out).mono ?_); rintro e w' ⟨rfl, ⟨nd, rfl⟩⟩; refine ⟨_, rfl, ?_⟩) | ((with_reducible refine gate_callee (f := 18) rfl ?_); refine goesL_ (some 16) rfl rfl Try.func18 (by kernel_rfl) rfl #[.int .i64 33, .int .i64 1] rfl (by (try simp only [List.map_toArray, List.map_cons, List.map_nil]); first | done | rfl | (simp only [List.length_drop, List.length_take]; rfl)) ?_; (with_reducible refine (place_Root.calls 33 1 t112 t113 _ A3.out).mono ?_); rintro e w' ⟨rfl, ⟨nd, rfl⟩⟩; refine ⟨_, rfl, ?_⟩) | ((with_reducible refine gate_callee (f := 20) rfl ?_); refine goesL_ (some 19) rfl rfl Try.func20 (by kernel_rfl) rfl #[.int .i64 33] rfl (by (try simp only [List.map_toArray, List.map_cons, List.map_nil]); first | done | rfl | (simp only [List.length_drop, List.length_take]; rfl)) ?_; (with_reducible refine (place_Leaves.calls 33 t114 _ A4.out).mono ?_); rintro e w' ⟨rfl, ⟨nd, rfl⟩⟩; refine ⟨_, rfl, ?_⟩) | (go_at_call 22; (with_reducible refine (place_Tops.calls 33 t115 _ A6.out).mono ?_); rintro e w' ⟨rfl, ⟨nd, rfl⟩⟩) | (go_at_call 24; (with_reducible refine (place_Cells.calls 33 t116 _ A8.out).mono ?_); rintro e w' ⟨rfl, ⟨nd, rfl⟩⟩) | (go_at_call 26; (with_reducible refine (place_Offset.calls 1 8 t117 _ A12.out).mono ?_); rintro e w' ⟨rfl, ⟨nd, rfl⟩⟩) | (go_at_call 27; (with_reducible refine (place_Width.calls 33 1 t118 _ A14.out).mono ?_); rintro e w37 ⟨rfl, hb⟩; have n0_ := Aside0.mk (below_step (by repeat (first | (with_reducible first | exact HB.out | apply below_alloc | apply pw_below_drewN | apply below_drew1) | exact HB.out)) hb); clear HB; have HB := n0_; clear n0_; (try clear hb); (try clear hb2); (try clear hk); (try clear hi)) | (go_at_call 27; (with_reducible refine (place_Width.calls 33 0 t119 _ A16.out).mono ?_); rintro e w38 ⟨rfl, hb⟩; have n0_ := Aside0.mk (below_step (by repeat (first | (with_reducible first | exact HB.out | apply below_alloc | apply pw_below_drewN | apply below_drew1) | exact HB.out)) hb); clear HB; have HB := n0_; clear n0_; (try clear hb); (try clear hb2); (try clear hk); (try clear hi)) | (go_at_call 15; (with_reducible refine (place_Leaf.calls 40 t108 t109 _ A1.out).mono ?_); rintro e w' ⟨rfl, ⟨nd, rfl⟩⟩) | (go_at_call 16; (with_reducible refine (place_Top.calls 33 1 t110 t111 _ A2.out).mono ?_); rintro e w' ⟨rfl, ⟨nd, rfl⟩⟩) | (go_at_call 18; (with_reducible refine (place_Root.calls 33 1 t112 t113 _ A3.out).mono ?_); rintro e w' ⟨rfl, ⟨nd, rfl⟩⟩) | (go_at_call 20; (with_reducible refine (place_Leaves.calls 33 t114 _ A4.out).mono ?_); rintro e w' ⟨rfl, ⟨nd, rfl⟩⟩))
                  go_ret
                  exact ⟨by first | rfl | (simp [errW_none, errW_some] <;> rfl) | (simp [*, errW_none, errW_some] <;> rfl), by repeat (first | (with_reducible first | exact HB.out | apply below_alloc | apply pw_below_drewN | apply below_drew1) | exact HB.out)⟩
              · rw [if_neg c15] at H
                have c15b0 : (t118 == 1) = false := beq_eq_false_iff_ne.mpr c15
                have c15b1 : (t118 != 1) = true := bne_iff_ne.mpr c15
                obtain rfl := Option.some.inj H
                go_enter Try.func14, Try.ntmps14
                go_wp2_with (first | ((with_reducible refine gate_callee (f := 15) rfl ?_); refine goesL_ (some 8) rfl rfl Try.func15 (by kernel_rfl) rfl #[.int .i64 40] rfl (by (try simp only [List.map_toArray, List.map_cons, List.map_nil]); first | done | rfl | (simp only [List.length_drop, List.length_take]; rfl)) ?_; (with_reducible refine (place_Leaf.calls 40 t108 t109 _ A1.out).mono ?_); rintro e w' ⟨rfl, ⟨nd, rfl⟩⟩; refine ⟨_, rfl, ?_⟩) | ((with_reducible refine gate_callee (f := 16) rfl ?_); refine goesL_ (some 12) rfl rfl Try.func16 (by kernel_rfl) rfl #[.int .i64 33, .int .i64 1] rfl (by (try simp only [List.map_toArray, List.map_cons, List.map_nil]); first | done | rfl | (simp only [List.length_drop, List.length_take]; rfl)) ?_; (with_reducible refine (place_Top.calls 33 1 t110 t111 _ A2.out).mono ?_); rintro e w' ⟨rfl, ⟨nd, rfl⟩⟩; refine ⟨_, rfl, ?_⟩) | ((with_reducible refine gate_callee (f := 18) rfl ?_); refine goesL_ (some 16) rfl rfl Try.func18 (by kernel_rfl) rfl #[.int .i64 33, .int .i64 1] rfl (by (try simp only [List.map_toArray, List.map_cons, List.map_nil]); first | done | rfl | (simp only [List.length_drop, List.length_take]; rfl)) ?_; (with_reducible refine (place_Root.calls 33 1 t112 t113 _ A3.out).mono ?_); rintro e w' ⟨rfl, ⟨nd, rfl⟩⟩; refine ⟨_, rfl, ?_⟩) | ((with_reducible refine gate_callee (f := 20) rfl ?_); refine goesL_ (some 19) rfl rfl Try.func20 (by kernel_rfl) rfl #[.int .i64 33] rfl (by (try simp only [List.map_toArray, List.map_cons, List.map_nil]); first | done | rfl | (simp only [List.length_drop, List.length_take]; rfl)) ?_; (with_reducible refine (place_Leaves.calls 33 t114 _ A4.out).mono ?_); rintro e w' ⟨rfl, ⟨nd, rfl⟩⟩; refine ⟨_, rfl, ?_⟩) | (go_at_call 22; (with_reducible refine (place_Tops.calls 33 t115 _ A6.out).mono ?_); rintro e w' ⟨rfl, ⟨nd, rfl⟩⟩) | (go_at_call 24; (with_reducible refine (place_Cells.calls 33 t116 _ A8.out).mono ?_); rintro e w' ⟨rfl, ⟨nd, rfl⟩⟩) | (go_at_call 26; (with_reducible refine (place_Offset.calls 1 8 t117 _ A12.out).mono ?_); rintro e w' ⟨rfl, ⟨nd, rfl⟩⟩) | (go_at_call 27; (with_reducible refine (place_Width.calls 33 1 t118 _ A14.out).mono ?_); rintro e w39 ⟨rfl, hb⟩; have n0_ := Aside0.mk (below_step (by repeat (first | (with_reducible first | exact HB.out | apply below_alloc | apply pw_below_drewN | apply below_drew1) | exact HB.out)) hb); clear HB; have HB := n0_; clear n0_; (try clear hb); (try clear hb2); (try clear hk); (try clear hi)) | (go_at_call 15; (with_reducible refine (place_Leaf.calls 40 t108 t109 _ A1.out).mono ?_); rintro e w' ⟨rfl, ⟨nd, rfl⟩⟩) | (go_at_call 16; (with_reducible refine (place_Top.calls 33 1 t110 t111 _ A2.out).mono ?_); rintro e w' ⟨rfl, ⟨nd, rfl⟩⟩) | (go_at_call 18; (with_reducible refine (place_Root.calls 33 1 t112 t113 _ A3.out).mono ?_); rintro e w' ⟨rfl, ⟨nd, rfl⟩⟩) | (go_at_call 20; (with_reducible refine (place_Leaves.calls 33 t114 _ A4.out).mono ?_); rintro e w' ⟨rfl, ⟨nd, rfl⟩⟩))
                go_ret
                exact ⟨by first | rfl | (simp [errW_none, errW_some] <;> rfl) | (simp [*, errW_none, errW_some] <;> rfl), by repeat (first | (with_reducible first | exact HB.out | apply below_alloc | apply pw_below_drewN | apply below_drew1) | exact HB.out)⟩
            · rw [if_neg c13] at H
              have c13b0 : (t117 == 40) = false := beq_eq_false_iff_ne.mpr c13
              have c13b1 : (t117 != 40) = true := bne_iff_ne.mpr c13
              obtain rfl := Option.some.inj H
              go_enter Try.func14, Try.ntmps14
              go_wp2_with (first | ((with_reducible refine gate_callee (f := 15) rfl ?_); refine goesL_ (some 8) rfl rfl Try.func15 (by kernel_rfl) rfl #[.int .i64 40] rfl (by (try simp only [List.map_toArray, List.map_cons, List.map_nil]); first | done | rfl | (simp only [List.length_drop, List.length_take]; rfl)) ?_; (with_reducible refine (place_Leaf.calls 40 t108 t109 _ A1.out).mono ?_); rintro e w' ⟨rfl, ⟨nd, rfl⟩⟩; refine ⟨_, rfl, ?_⟩) | ((with_reducible refine gate_callee (f := 16) rfl ?_); refine goesL_ (some 12) rfl rfl Try.func16 (by kernel_rfl) rfl #[.int .i64 33, .int .i64 1] rfl (by (try simp only [List.map_toArray, List.map_cons, List.map_nil]); first | done | rfl | (simp only [List.length_drop, List.length_take]; rfl)) ?_; (with_reducible refine (place_Top.calls 33 1 t110 t111 _ A2.out).mono ?_); rintro e w' ⟨rfl, ⟨nd, rfl⟩⟩; refine ⟨_, rfl, ?_⟩) | ((with_reducible refine gate_callee (f := 18) rfl ?_); refine goesL_ (some 16) rfl rfl Try.func18 (by kernel_rfl) rfl #[.int .i64 33, .int .i64 1] rfl (by (try simp only [List.map_toArray, List.map_cons, List.map_nil]); first | done | rfl | (simp only [List.length_drop, List.length_take]; rfl)) ?_; (with_reducible refine (place_Root.calls 33 1 t112 t113 _ A3.out).mono ?_); rintro e w' ⟨rfl, ⟨nd, rfl⟩⟩; refine ⟨_, rfl, ?_⟩) | ((with_reducible refine gate_callee (f := 20) rfl ?_); refine goesL_ (some 19) rfl rfl Try.func20 (by kernel_rfl) rfl #[.int .i64 33] rfl (by (try simp only [List.map_toArray, List.map_cons, List.map_nil]); first | done | rfl | (simp only [List.length_drop, List.length_take]; rfl)) ?_; (with_reducible refine (place_Leaves.calls 33 t114 _ A4.out).mono ?_); rintro e w' ⟨rfl, ⟨nd, rfl⟩⟩; refine ⟨_, rfl, ?_⟩) | (go_at_call 22; (with_reducible refine (place_Tops.calls 33 t115 _ A6.out).mono ?_); rintro e w' ⟨rfl, ⟨nd, rfl⟩⟩) | (go_at_call 24; (with_reducible refine (place_Cells.calls 33 t116 _ A8.out).mono ?_); rintro e w' ⟨rfl, ⟨nd, rfl⟩⟩) | (go_at_call 26; (with_reducible refine (place_Offset.calls 1 8 t117 _ A12.out).mono ?_); rintro e w' ⟨rfl, ⟨nd, rfl⟩⟩) | (go_at_call 15; (with_reducible refine (place_Leaf.calls 40 t108 t109 _ A1.out).mono ?_); rintro e w' ⟨rfl, ⟨nd, rfl⟩⟩) | (go_at_call 16; (with_reducible refine (place_Top.calls 33 1 t110 t111 _ A2.out).mono ?_); rintro e w' ⟨rfl, ⟨nd, rfl⟩⟩) | (go_at_call 18; (with_reducible refine (place_Root.calls 33 1 t112 t113 _ A3.out).mono ?_); rintro e w' ⟨rfl, ⟨nd, rfl⟩⟩) | (go_at_call 20; (with_reducible refine (place_Leaves.calls 33 t114 _ A4.out).mono ?_); rintro e w' ⟨rfl, ⟨nd, rfl⟩⟩))
              go_ret
              exact ⟨by first | rfl | (simp [errW_none, errW_some] <;> rfl) | (simp [*, errW_none, errW_some] <;> rfl), by repeat (first | (with_reducible first | exact HB.out | apply below_alloc | apply pw_below_drewN | apply below_drew1) | exact HB.out)⟩
          · rw [if_neg c11] at H
            have c11b0 : (t109 == 8) = false := beq_eq_false_iff_ne.mpr c11
            have c11b1 : (t109 != 8) = true := bne_iff_ne.mpr c11
            obtain rfl := Option.some.inj H
            go_enter Try.func14, Try.ntmps14
            go_wp2_with (first | ((with_reducible refine gate_callee (f := 15) rfl ?_); refine goesL_ (some 8) rfl rfl Try.func15 (by kernel_rfl) rfl #[.int .i64 40] rfl (by (try simp only [List.map_toArray, List.map_cons, List.map_nil]); first | done | rfl | (simp only [List.length_drop, List.length_take]; rfl)) ?_; (with_reducible refine (place_Leaf.calls 40 t108 t109 _ A1.out).mono ?_); rintro e w' ⟨rfl, ⟨nd, rfl⟩⟩; refine ⟨_, rfl, ?_⟩) | ((with_reducible refine gate_callee (f := 16) rfl ?_); refine goesL_ (some 12) rfl rfl Try.func16 (by kernel_rfl) rfl #[.int .i64 33, .int .i64 1] rfl (by (try simp only [List.map_toArray, List.map_cons, List.map_nil]); first | done | rfl | (simp only [List.length_drop, List.length_take]; rfl)) ?_; (with_reducible refine (place_Top.calls 33 1 t110 t111 _ A2.out).mono ?_); rintro e w' ⟨rfl, ⟨nd, rfl⟩⟩; refine ⟨_, rfl, ?_⟩) | ((with_reducible refine gate_callee (f := 18) rfl ?_); refine goesL_ (some 16) rfl rfl Try.func18 (by kernel_rfl) rfl #[.int .i64 33, .int .i64 1] rfl (by (try simp only [List.map_toArray, List.map_cons, List.map_nil]); first | done | rfl | (simp only [List.length_drop, List.length_take]; rfl)) ?_; (with_reducible refine (place_Root.calls 33 1 t112 t113 _ A3.out).mono ?_); rintro e w' ⟨rfl, ⟨nd, rfl⟩⟩; refine ⟨_, rfl, ?_⟩) | ((with_reducible refine gate_callee (f := 20) rfl ?_); refine goesL_ (some 19) rfl rfl Try.func20 (by kernel_rfl) rfl #[.int .i64 33] rfl (by (try simp only [List.map_toArray, List.map_cons, List.map_nil]); first | done | rfl | (simp only [List.length_drop, List.length_take]; rfl)) ?_; (with_reducible refine (place_Leaves.calls 33 t114 _ A4.out).mono ?_); rintro e w' ⟨rfl, ⟨nd, rfl⟩⟩; refine ⟨_, rfl, ?_⟩) | (go_at_call 22; (with_reducible refine (place_Tops.calls 33 t115 _ A6.out).mono ?_); rintro e w' ⟨rfl, ⟨nd, rfl⟩⟩) | (go_at_call 24; (with_reducible refine (place_Cells.calls 33 t116 _ A8.out).mono ?_); rintro e w' ⟨rfl, ⟨nd, rfl⟩⟩) | (go_at_call 15; (with_reducible refine (place_Leaf.calls 40 t108 t109 _ A1.out).mono ?_); rintro e w' ⟨rfl, ⟨nd, rfl⟩⟩) | (go_at_call 16; (with_reducible refine (place_Top.calls 33 1 t110 t111 _ A2.out).mono ?_); rintro e w' ⟨rfl, ⟨nd, rfl⟩⟩) | (go_at_call 18; (with_reducible refine (place_Root.calls 33 1 t112 t113 _ A3.out).mono ?_); rintro e w' ⟨rfl, ⟨nd, rfl⟩⟩) | (go_at_call 20; (with_reducible refine (place_Leaves.calls 33 t114 _ A4.out).mono ?_); rintro e w' ⟨rfl, ⟨nd, rfl⟩⟩))
            go_ret
            exact ⟨by first | rfl | (simp [errW_none, errW_some] <;> rfl) | (simp [*, errW_none, errW_some] <;> rfl), by repeat (first | (with_reducible first | exact HB.out | apply below_alloc | apply pw_below_drewN | apply below_drew1) | exact HB.out)⟩
        · rw [if_neg c10] at H
          have c10b0 : (t108 == 1) = false := beq_eq_false_iff_ne.mpr c10
          have c10b1 : (t108 != 1) = true := bne_iff_ne.mpr c10
          obtain rfl := Option.some.inj H
          go_enter Try.func14, Try.ntmps14
          go_wp2_with (first | ((with_reducible refine gate_callee (f := 15) rfl ?_); refine goesL_ (some 8) rfl rfl Try.func15 (by kernel_rfl) rfl #[.int .i64 40] rfl (by (try simp only [List.map_toArray, List.map_cons, List.map_nil]); first | done | rfl | (simp only [List.length_drop, List.length_take]; rfl)) ?_; (with_reducible refine (place_Leaf.calls 40 t108 t109 _ A1.out).mono ?_); rintro e w' ⟨rfl, ⟨nd, rfl⟩⟩; refine ⟨_, rfl, ?_⟩) | ((with_reducible refine gate_callee (f := 16) rfl ?_); refine goesL_ (some 12) rfl rfl Try.func16 (by kernel_rfl) rfl #[.int .i64 33, .int .i64 1] rfl (by (try simp only [List.map_toArray, List.map_cons, List.map_nil]); first | done | rfl | (simp only [List.length_drop, List.length_take]; rfl)) ?_; (with_reducible refine (place_Top.calls 33 1 t110 t111 _ A2.out).mono ?_); rintro e w' ⟨rfl, ⟨nd, rfl⟩⟩; refine ⟨_, rfl, ?_⟩) | ((with_reducible refine gate_callee (f := 18) rfl ?_); refine goesL_ (some 16) rfl rfl Try.func18 (by kernel_rfl) rfl #[.int .i64 33, .int .i64 1] rfl (by (try simp only [List.map_toArray, List.map_cons, List.map_nil]); first | done | rfl | (simp only [List.length_drop, List.length_take]; rfl)) ?_; (with_reducible refine (place_Root.calls 33 1 t112 t113 _ A3.out).mono ?_); rintro e w' ⟨rfl, ⟨nd, rfl⟩⟩; refine ⟨_, rfl, ?_⟩) | ((with_reducible refine gate_callee (f := 20) rfl ?_); refine goesL_ (some 19) rfl rfl Try.func20 (by kernel_rfl) rfl #[.int .i64 33] rfl (by (try simp only [List.map_toArray, List.map_cons, List.map_nil]); first | done | rfl | (simp only [List.length_drop, List.length_take]; rfl)) ?_; (with_reducible refine (place_Leaves.calls 33 t114 _ A4.out).mono ?_); rintro e w' ⟨rfl, ⟨nd, rfl⟩⟩; refine ⟨_, rfl, ?_⟩) | (go_at_call 22; (with_reducible refine (place_Tops.calls 33 t115 _ A6.out).mono ?_); rintro e w' ⟨rfl, ⟨nd, rfl⟩⟩) | (go_at_call 24; (with_reducible refine (place_Cells.calls 33 t116 _ A8.out).mono ?_); rintro e w' ⟨rfl, ⟨nd, rfl⟩⟩) | (go_at_call 15; (with_reducible refine (place_Leaf.calls 40 t108 t109 _ A1.out).mono ?_); rintro e w' ⟨rfl, ⟨nd, rfl⟩⟩) | (go_at_call 16; (with_reducible refine (place_Top.calls 33 1 t110 t111 _ A2.out).mono ?_); rintro e w' ⟨rfl, ⟨nd, rfl⟩⟩) | (go_at_call 18; (with_reducible refine (place_Root.calls 33 1 t112 t113 _ A3.out).mono ?_); rintro e w' ⟨rfl, ⟨nd, rfl⟩⟩) | (go_at_call 20; (with_reducible refine (place_Leaves.calls 33 t114 _ A4.out).mono ?_); rintro e w' ⟨rfl, ⟨nd, rfl⟩⟩))
          go_ret
          exact ⟨by first | rfl | (simp [errW_none, errW_some] <;> rfl) | (simp [*, errW_none, errW_some] <;> rfl), by repeat (first | (with_reducible first | exact HB.out | apply below_alloc | apply pw_below_drewN | apply below_drew1) | exact HB.out)⟩
      · rw [if_neg c9] at H
        have c9b0 : (t116 == 4) = false := beq_eq_false_iff_ne.mpr c9
        have c9b1 : (t116 != 4) = true := bne_iff_ne.mpr c9
        obtain rfl := Option.some.inj H
        go_enter Try.func14, Try.ntmps14
        go_wp2_with (first | ((with_reducible refine gate_callee (f := 15) rfl ?_); refine goesL_ (some 8) rfl rfl Try.func15 (by kernel_rfl) rfl #[.int .i64 40] rfl (by (try simp only [List.map_toArray, List.map_cons, List.map_nil]); first | done | rfl | (simp only [List.length_drop, List.length_take]; rfl)) ?_; (with_reducible refine (place_Leaf.calls 40 t108 t109 _ A1.out).mono ?_); rintro e w' ⟨rfl, ⟨nd, rfl⟩⟩; refine ⟨_, rfl, ?_⟩) | ((with_reducible refine gate_callee (f := 16) rfl ?_); refine goesL_ (some 12) rfl rfl Try.func16 (by kernel_rfl) rfl #[.int .i64 33, .int .i64 1] rfl (by (try simp only [List.map_toArray, List.map_cons, List.map_nil]); first | done | rfl | (simp only [List.length_drop, List.length_take]; rfl)) ?_; (with_reducible refine (place_Top.calls 33 1 t110 t111 _ A2.out).mono ?_); rintro e w' ⟨rfl, ⟨nd, rfl⟩⟩; refine ⟨_, rfl, ?_⟩) | ((with_reducible refine gate_callee (f := 18) rfl ?_); refine goesL_ (some 16) rfl rfl Try.func18 (by kernel_rfl) rfl #[.int .i64 33, .int .i64 1] rfl (by (try simp only [List.map_toArray, List.map_cons, List.map_nil]); first | done | rfl | (simp only [List.length_drop, List.length_take]; rfl)) ?_; (with_reducible refine (place_Root.calls 33 1 t112 t113 _ A3.out).mono ?_); rintro e w' ⟨rfl, ⟨nd, rfl⟩⟩; refine ⟨_, rfl, ?_⟩) | ((with_reducible refine gate_callee (f := 20) rfl ?_); refine goesL_ (some 19) rfl rfl Try.func20 (by kernel_rfl) rfl #[.int .i64 33] rfl (by (try simp only [List.map_toArray, List.map_cons, List.map_nil]); first | done | rfl | (simp only [List.length_drop, List.length_take]; rfl)) ?_; (with_reducible refine (place_Leaves.calls 33 t114 _ A4.out).mono ?_); rintro e w' ⟨rfl, ⟨nd, rfl⟩⟩; refine ⟨_, rfl, ?_⟩) | (go_at_call 22; (with_reducible refine (place_Tops.calls 33 t115 _ A6.out).mono ?_); rintro e w' ⟨rfl, ⟨nd, rfl⟩⟩) | (go_at_call 24; (with_reducible refine (place_Cells.calls 33 t116 _ A8.out).mono ?_); rintro e w' ⟨rfl, ⟨nd, rfl⟩⟩) | (go_at_call 15; (with_reducible refine (place_Leaf.calls 40 t108 t109 _ A1.out).mono ?_); rintro e w' ⟨rfl, ⟨nd, rfl⟩⟩) | (go_at_call 16; (with_reducible refine (place_Top.calls 33 1 t110 t111 _ A2.out).mono ?_); rintro e w' ⟨rfl, ⟨nd, rfl⟩⟩) | (go_at_call 18; (with_reducible refine (place_Root.calls 33 1 t112 t113 _ A3.out).mono ?_); rintro e w' ⟨rfl, ⟨nd, rfl⟩⟩) | (go_at_call 20; (with_reducible refine (place_Leaves.calls 33 t114 _ A4.out).mono ?_); rintro e w' ⟨rfl, ⟨nd, rfl⟩⟩))
        go_ret
        exact ⟨by first | rfl | (simp [errW_none, errW_some] <;> rfl) | (simp [*, errW_none, errW_some] <;> rfl), by repeat (first | (with_reducible first | exact HB.out | apply below_alloc | apply pw_below_drewN | apply below_drew1) | exact HB.out)⟩
    · rw [if_neg c7] at H
      have c7b0 : (t115 == 1) = false := beq_eq_false_iff_ne.mpr c7
      have c7b1 : (t115 != 1) = true := bne_iff_ne.mpr c7
      obtain rfl := Option.some.inj H
      go_enter Try.func14, Try.ntmps14
      go_wp2_with (first | ((with_reducible refine gate_callee (f := 15) rfl ?_); refine goesL_ (some 8) rfl rfl Try.func15 (by kernel_rfl) rfl #[.int .i64 40] rfl (by (try simp only [List.map_toArray, List.map_cons, List.map_nil]); first | done | rfl | (simp only [List.length_drop, List.length_take]; rfl)) ?_; (with_reducible refine (place_Leaf.calls 40 t108 t109 _ A1.out).mono ?_); rintro e w' ⟨rfl, ⟨nd, rfl⟩⟩; refine ⟨_, rfl, ?_⟩) | ((with_reducible refine gate_callee (f := 16) rfl ?_); refine goesL_ (some 12) rfl rfl Try.func16 (by kernel_rfl) rfl #[.int .i64 33, .int .i64 1] rfl (by (try simp only [List.map_toArray, List.map_cons, List.map_nil]); first | done | rfl | (simp only [List.length_drop, List.length_take]; rfl)) ?_; (with_reducible refine (place_Top.calls 33 1 t110 t111 _ A2.out).mono ?_); rintro e w' ⟨rfl, ⟨nd, rfl⟩⟩; refine ⟨_, rfl, ?_⟩) | ((with_reducible refine gate_callee (f := 18) rfl ?_); refine goesL_ (some 16) rfl rfl Try.func18 (by kernel_rfl) rfl #[.int .i64 33, .int .i64 1] rfl (by (try simp only [List.map_toArray, List.map_cons, List.map_nil]); first | done | rfl | (simp only [List.length_drop, List.length_take]; rfl)) ?_; (with_reducible refine (place_Root.calls 33 1 t112 t113 _ A3.out).mono ?_); rintro e w' ⟨rfl, ⟨nd, rfl⟩⟩; refine ⟨_, rfl, ?_⟩) | ((with_reducible refine gate_callee (f := 20) rfl ?_); refine goesL_ (some 19) rfl rfl Try.func20 (by kernel_rfl) rfl #[.int .i64 33] rfl (by (try simp only [List.map_toArray, List.map_cons, List.map_nil]); first | done | rfl | (simp only [List.length_drop, List.length_take]; rfl)) ?_; (with_reducible refine (place_Leaves.calls 33 t114 _ A4.out).mono ?_); rintro e w' ⟨rfl, ⟨nd, rfl⟩⟩; refine ⟨_, rfl, ?_⟩) | (go_at_call 22; (with_reducible refine (place_Tops.calls 33 t115 _ A6.out).mono ?_); rintro e w' ⟨rfl, ⟨nd, rfl⟩⟩) | (go_at_call 15; (with_reducible refine (place_Leaf.calls 40 t108 t109 _ A1.out).mono ?_); rintro e w' ⟨rfl, ⟨nd, rfl⟩⟩) | (go_at_call 16; (with_reducible refine (place_Top.calls 33 1 t110 t111 _ A2.out).mono ?_); rintro e w' ⟨rfl, ⟨nd, rfl⟩⟩) | (go_at_call 18; (with_reducible refine (place_Root.calls 33 1 t112 t113 _ A3.out).mono ?_); rintro e w' ⟨rfl, ⟨nd, rfl⟩⟩) | (go_at_call 20; (with_reducible refine (place_Leaves.calls 33 t114 _ A4.out).mono ?_); rintro e w' ⟨rfl, ⟨nd, rfl⟩⟩))
      go_ret
      exact ⟨by first | rfl | (simp [errW_none, errW_some] <;> rfl) | (simp [*, errW_none, errW_some] <;> rfl), by repeat (first | (with_reducible first | exact HB.out | apply below_alloc | apply pw_below_drewN | apply below_drew1) | exact HB.out)⟩
  · rw [if_neg c5] at H
    have c5b0 : (t114 == 2) = false := beq_eq_false_iff_ne.mpr c5
    have c5b1 : (t114 != 2) = true := bne_iff_ne.mpr c5
    obtain rfl := Option.some.inj H
    go_enter Try.func14, Try.ntmps14
    go_wp2_with (first | ((with_reducible refine gate_callee (f := 15) rfl ?_); refine goesL_ (some 8) rfl rfl Try.func15 (by kernel_rfl) rfl #[.int .i64 40] rfl (by (try simp only [List.map_toArray, List.map_cons, List.map_nil]); first | done | rfl | (simp only [List.length_drop, List.length_take]; rfl)) ?_; (with_reducible refine (place_Leaf.calls 40 t108 t109 _ A1.out).mono ?_); rintro e w' ⟨rfl, ⟨nd, rfl⟩⟩; refine ⟨_, rfl, ?_⟩) | ((with_reducible refine gate_callee (f := 16) rfl ?_); refine goesL_ (some 12) rfl rfl Try.func16 (by kernel_rfl) rfl #[.int .i64 33, .int .i64 1] rfl (by (try simp only [List.map_toArray, List.map_cons, List.map_nil]); first | done | rfl | (simp only [List.length_drop, List.length_take]; rfl)) ?_; (with_reducible refine (place_Top.calls 33 1 t110 t111 _ A2.out).mono ?_); rintro e w' ⟨rfl, ⟨nd, rfl⟩⟩; refine ⟨_, rfl, ?_⟩) | ((with_reducible refine gate_callee (f := 18) rfl ?_); refine goesL_ (some 16) rfl rfl Try.func18 (by kernel_rfl) rfl #[.int .i64 33, .int .i64 1] rfl (by (try simp only [List.map_toArray, List.map_cons, List.map_nil]); first | done | rfl | (simp only [List.length_drop, List.length_take]; rfl)) ?_; (with_reducible refine (place_Root.calls 33 1 t112 t113 _ A3.out).mono ?_); rintro e w' ⟨rfl, ⟨nd, rfl⟩⟩; refine ⟨_, rfl, ?_⟩) | ((with_reducible refine gate_callee (f := 20) rfl ?_); refine goesL_ (some 19) rfl rfl Try.func20 (by kernel_rfl) rfl #[.int .i64 33] rfl (by (try simp only [List.map_toArray, List.map_cons, List.map_nil]); first | done | rfl | (simp only [List.length_drop, List.length_take]; rfl)) ?_; (with_reducible refine (place_Leaves.calls 33 t114 _ A4.out).mono ?_); rintro e w' ⟨rfl, ⟨nd, rfl⟩⟩; refine ⟨_, rfl, ?_⟩) | (go_at_call 15; (with_reducible refine (place_Leaf.calls 40 t108 t109 _ A1.out).mono ?_); rintro e w' ⟨rfl, ⟨nd, rfl⟩⟩) | (go_at_call 16; (with_reducible refine (place_Top.calls 33 1 t110 t111 _ A2.out).mono ?_); rintro e w' ⟨rfl, ⟨nd, rfl⟩⟩) | (go_at_call 18; (with_reducible refine (place_Root.calls 33 1 t112 t113 _ A3.out).mono ?_); rintro e w' ⟨rfl, ⟨nd, rfl⟩⟩) | (go_at_call 20; (with_reducible refine (place_Leaves.calls 33 t114 _ A4.out).mono ?_); rintro e w' ⟨rfl, ⟨nd, rfl⟩⟩))
    go_ret
    exact ⟨by first | rfl | (simp [errW_none, errW_some] <;> rfl) | (simp [*, errW_none, errW_some] <;> rfl), by repeat (first | (with_reducible first | exact HB.out | apply below_alloc | apply pw_below_drewN | apply below_drew1) | exact HB.out)⟩

/-! ### lodgerlaw06_PlaceSums: function 5 -/
def lodgerlaw06_PlaceSums.j0 : Nat → Int → Int → Int → Int → Int → Int → Int → Bool → Option (Bool)
  | 0, _, _, _, _, _, _, _, _ => none
  | k + 1, x7, x10, x12, x14, x15, x16, x17, x89 => if x89 = true then (some false) else ((place_Cells.f x7).bind fun t135 => (if x14 = (wrap64 (t135 - 1)) then (if x16 = x14 then (if ((x15 == x17) == (x10 == x12)) = true then (if x15 ≥ 0 then ((place_Tops.f x7).bind fun t136 => (if x15 < t136 then ((place_Cells.f x7).bind fun t137 => ((place_Leaves.f x7).bind fun t138 => ((place_Tops.f x7).bind fun t139 => (some (t137 == (wrap64 ((wrap64 (t138 + t139)) + 1))))))) else (some false))) else (some false)) else (some false)) else (some false)) else (some false)))
def lodgerlaw06_PlaceSums.f (k : Nat) (a0 : Int) (a1 : Int) (a2 : Int) : Option (Bool) := (lodgerlaw06_awake.f).bind fun t122 => (if t122 = true then ((place_Leaves.f (wrap64 ((wrap64 (a0)) + 1))).bind fun t123 => (if t123 = 0 then (none) else ((place_Leaves.f (wrap64 ((wrap64 (a0)) + 1))).bind fun t124 => (if t124 = 0 then (none) else ((place_Top.f (wrap64 ((wrap64 (a0)) + 1)) (Int.tmod (wrap64 (a1)) t123)).bind fun bt125 => ((place_Top.f (wrap64 ((wrap64 (a0)) + 1)) (Int.tmod (wrap64 (a2)) t124)).bind fun bt127 => ((place_Root.f (wrap64 ((wrap64 (a0)) + 1)) (Int.tmod (wrap64 (a1)) t123)).bind fun bt129 => ((place_Root.f (wrap64 ((wrap64 (a0)) + 1)) (Int.tmod (wrap64 (a2)) t124)).bind fun bt131 => ((place_Leaves.f (wrap64 ((wrap64 (a0)) + 1))).bind fun t133 => (if bt125.1 < t133 then (lodgerlaw06_PlaceSums.j0 k (wrap64 ((wrap64 (a0)) + 1)) bt125.1 bt127.1 bt129.1 bt129.2 bt131.1 bt131.2 true) else ((place_Cells.f (wrap64 ((wrap64 (a0)) + 1))).bind fun t134 => (if bt125.1 ≥ (wrap64 (t134 - 1)) then (lodgerlaw06_PlaceSums.j0 k (wrap64 ((wrap64 (a0)) + 1)) bt125.1 bt127.1 bt129.1 bt129.2 bt131.1 bt131.2 true) else (if bt125.2 < 0 then (lodgerlaw06_PlaceSums.j0 k (wrap64 ((wrap64 (a0)) + 1)) bt125.1 bt127.1 bt129.1 bt129.2 bt131.1 bt131.2 true) else (if bt125.2 > 63 then (lodgerlaw06_PlaceSums.j0 k (wrap64 ((wrap64 (a0)) + 1)) bt125.1 bt127.1 bt129.1 bt129.2 bt131.1 bt131.2 true) else (if bt125.1 = bt127.1 then (lodgerlaw06_PlaceSums.j0 k (wrap64 ((wrap64 (a0)) + 1)) bt125.1 bt127.1 bt129.1 bt129.2 bt131.1 bt131.2 ((bt125.2 == bt127.2) != ((Int.tmod (wrap64 (a1)) t123) == (Int.tmod (wrap64 (a2)) t124)))) else (lodgerlaw06_PlaceSums.j0 k (wrap64 ((wrap64 (a0)) + 1)) bt125.1 bt127.1 bt129.1 bt129.2 bt131.1 bt131.2 (false != ((Int.tmod (wrap64 (a1)) t123) == (Int.tmod (wrap64 (a2)) t124))))))))))))))))))) else (some false))
theorem lodgerlaw06_PlaceSums.mono_l : ∀ k, (∀ y0 y1 y2 y3 y4 y5 y6 y7, LeO (lodgerlaw06_PlaceSums.j0 k y0 y1 y2 y3 y4 y5 y6 y7) (lodgerlaw06_PlaceSums.j0 (k + 1) y0 y1 y2 y3 y4 y5 y6 y7))
  | 0 => fun _ _ _ _ _ _ _ _ r h => by simp [lodgerlaw06_PlaceSums.j0] at h
  | k + 1 => by
    have ih0 := lodgerlaw06_PlaceSums.mono_l k
    · intro y0 y1 y2 y3 y4 y5 y6 y7
      unfold lodgerlaw06_PlaceSums.j0
      repeat' first
      | (with_reducible exact ih0 _ _ _ _ _ _ _ _)
      | (with_reducible exact LeO.refl _)
      | (with_reducible exact LeO.none _)
      | (with_reducible refine LeO.ite ?_ ?_)
      | (with_reducible refine LeO.bind ?_ (fun _ => ?_))
      | exact ih0 _ _ _ _ _ _ _ _
      | exact LeO.none _
      | refine LeO.ite ?_ ?_
      | refine LeO.bind ?_ (fun _ => ?_)
theorem lodgerlaw06_PlaceSums.mono : ∀ a0 a1 a2 k, LeO (lodgerlaw06_PlaceSums.f k a0 a1 a2) (lodgerlaw06_PlaceSums.f (k + 1) a0 a1 a2) := by
  intro a0 a1 a2 k
  have ih0 := lodgerlaw06_PlaceSums.mono_l k
  unfold lodgerlaw06_PlaceSums.f
  repeat' first
      | (with_reducible exact ih0 _ _ _ _ _ _ _ _)
      | (with_reducible exact LeO.refl _)
      | (with_reducible exact LeO.none _)
      | (with_reducible refine LeO.ite ?_ ?_)
      | (with_reducible refine LeO.bind ?_ (fun _ => ?_))
      | exact ih0 _ _ _ _ _ _ _ _
      | exact LeO.none _
      | refine LeO.ite ?_ ?_
      | refine LeO.bind ?_ (fun _ => ?_)
set_option maxHeartbeats 8000000 in
set_option maxRecDepth 100000 in
theorem lodgerlaw06_PlaceSums.calls (k : Nat) (a0 : Int) (a1 : Int) (a2 : Int) (r : Bool) (w : World) (hr_ : r = true) (h : lodgerlaw06_PlaceSums.f k a0 a1 a2 = some r) :
    Calls Try.prog 5 #[.int .u16 a0, .int .u16 a1, .int .u16 a2] w fun e w' => e = .returned (.bool r) ∧ Below w.heap.size w w' := by
  have HB := Aside0.mk (Below.refl w.heap.size w)
  have H : ((lodgerlaw06_awake.f).bind fun t122 => (if t122 = true then ((place_Leaves.f (wrap64 ((wrap64 (a0)) + 1))).bind fun t123 => (if t123 = 0 then (none) else ((place_Leaves.f (wrap64 ((wrap64 (a0)) + 1))).bind fun t124 => (if t124 = 0 then (none) else ((place_Top.f (wrap64 ((wrap64 (a0)) + 1)) (Int.tmod (wrap64 (a1)) t123)).bind fun bt125 => ((place_Top.f (wrap64 ((wrap64 (a0)) + 1)) (Int.tmod (wrap64 (a2)) t124)).bind fun bt127 => ((place_Root.f (wrap64 ((wrap64 (a0)) + 1)) (Int.tmod (wrap64 (a1)) t123)).bind fun bt129 => ((place_Root.f (wrap64 ((wrap64 (a0)) + 1)) (Int.tmod (wrap64 (a2)) t124)).bind fun bt131 => ((place_Leaves.f (wrap64 ((wrap64 (a0)) + 1))).bind fun t133 => (if bt125.1 < t133 then (lodgerlaw06_PlaceSums.j0 k (wrap64 ((wrap64 (a0)) + 1)) bt125.1 bt127.1 bt129.1 bt129.2 bt131.1 bt131.2 true) else ((place_Cells.f (wrap64 ((wrap64 (a0)) + 1))).bind fun t134 => (if bt125.1 ≥ (wrap64 (t134 - 1)) then (lodgerlaw06_PlaceSums.j0 k (wrap64 ((wrap64 (a0)) + 1)) bt125.1 bt127.1 bt129.1 bt129.2 bt131.1 bt131.2 true) else (if bt125.2 < 0 then (lodgerlaw06_PlaceSums.j0 k (wrap64 ((wrap64 (a0)) + 1)) bt125.1 bt127.1 bt129.1 bt129.2 bt131.1 bt131.2 true) else (if bt125.2 > 63 then (lodgerlaw06_PlaceSums.j0 k (wrap64 ((wrap64 (a0)) + 1)) bt125.1 bt127.1 bt129.1 bt129.2 bt131.1 bt131.2 true) else (if bt125.1 = bt127.1 then (lodgerlaw06_PlaceSums.j0 k (wrap64 ((wrap64 (a0)) + 1)) bt125.1 bt127.1 bt129.1 bt129.2 bt131.1 bt131.2 ((bt125.2 == bt127.2) != ((Int.tmod (wrap64 (a1)) t123) == (Int.tmod (wrap64 (a2)) t124)))) else (lodgerlaw06_PlaceSums.j0 k (wrap64 ((wrap64 (a0)) + 1)) bt125.1 bt127.1 bt129.1 bt129.2 bt131.1 bt131.2 (false != ((Int.tmod (wrap64 (a1)) t123) == (Int.tmod (wrap64 (a2)) t124))))))))))))))))))) else (some false))) = some r := h
  clear h
  replace H := Option.bind_eq_some_iff.mp H
  obtain ⟨t122, A40, H⟩ := H
  replace H : (if t122 = true then ((place_Leaves.f (wrap64 ((wrap64 (a0)) + 1))).bind fun t123 => (if t123 = 0 then (none) else ((place_Leaves.f (wrap64 ((wrap64 (a0)) + 1))).bind fun t124 => (if t124 = 0 then (none) else ((place_Top.f (wrap64 ((wrap64 (a0)) + 1)) (Int.tmod (wrap64 (a1)) t123)).bind fun bt125 => ((place_Top.f (wrap64 ((wrap64 (a0)) + 1)) (Int.tmod (wrap64 (a2)) t124)).bind fun bt127 => ((place_Root.f (wrap64 ((wrap64 (a0)) + 1)) (Int.tmod (wrap64 (a1)) t123)).bind fun bt129 => ((place_Root.f (wrap64 ((wrap64 (a0)) + 1)) (Int.tmod (wrap64 (a2)) t124)).bind fun bt131 => ((place_Leaves.f (wrap64 ((wrap64 (a0)) + 1))).bind fun t133 => (if bt125.1 < t133 then (lodgerlaw06_PlaceSums.j0 k (wrap64 ((wrap64 (a0)) + 1)) bt125.1 bt127.1 bt129.1 bt129.2 bt131.1 bt131.2 true) else ((place_Cells.f (wrap64 ((wrap64 (a0)) + 1))).bind fun t134 => (if bt125.1 ≥ (wrap64 (t134 - 1)) then (lodgerlaw06_PlaceSums.j0 k (wrap64 ((wrap64 (a0)) + 1)) bt125.1 bt127.1 bt129.1 bt129.2 bt131.1 bt131.2 true) else (if bt125.2 < 0 then (lodgerlaw06_PlaceSums.j0 k (wrap64 ((wrap64 (a0)) + 1)) bt125.1 bt127.1 bt129.1 bt129.2 bt131.1 bt131.2 true) else (if bt125.2 > 63 then (lodgerlaw06_PlaceSums.j0 k (wrap64 ((wrap64 (a0)) + 1)) bt125.1 bt127.1 bt129.1 bt129.2 bt131.1 bt131.2 true) else (if bt125.1 = bt127.1 then (lodgerlaw06_PlaceSums.j0 k (wrap64 ((wrap64 (a0)) + 1)) bt125.1 bt127.1 bt129.1 bt129.2 bt131.1 bt131.2 ((bt125.2 == bt127.2) != ((Int.tmod (wrap64 (a1)) t123) == (Int.tmod (wrap64 (a2)) t124)))) else (lodgerlaw06_PlaceSums.j0 k (wrap64 ((wrap64 (a0)) + 1)) bt125.1 bt127.1 bt129.1 bt129.2 bt131.1 bt131.2 (false != ((Int.tmod (wrap64 (a1)) t123) == (Int.tmod (wrap64 (a2)) t124))))))))))))))))))) else (some false)) = some r := H
  have A4 := Aside0.mk A40
  clear A40
  by_cases c5 : t122 = true
  · subst c5
    have H1 : ((place_Leaves.f (wrap64 ((wrap64 (a0)) + 1))).bind fun t123 => (if t123 = 0 then (none) else ((place_Leaves.f (wrap64 ((wrap64 (a0)) + 1))).bind fun t124 => (if t124 = 0 then (none) else ((place_Top.f (wrap64 ((wrap64 (a0)) + 1)) (Int.tmod (wrap64 (a1)) t123)).bind fun bt125 => ((place_Top.f (wrap64 ((wrap64 (a0)) + 1)) (Int.tmod (wrap64 (a2)) t124)).bind fun bt127 => ((place_Root.f (wrap64 ((wrap64 (a0)) + 1)) (Int.tmod (wrap64 (a1)) t123)).bind fun bt129 => ((place_Root.f (wrap64 ((wrap64 (a0)) + 1)) (Int.tmod (wrap64 (a2)) t124)).bind fun bt131 => ((place_Leaves.f (wrap64 ((wrap64 (a0)) + 1))).bind fun t133 => (if bt125.1 < t133 then (lodgerlaw06_PlaceSums.j0 k (wrap64 ((wrap64 (a0)) + 1)) bt125.1 bt127.1 bt129.1 bt129.2 bt131.1 bt131.2 true) else ((place_Cells.f (wrap64 ((wrap64 (a0)) + 1))).bind fun t134 => (if bt125.1 ≥ (wrap64 (t134 - 1)) then (lodgerlaw06_PlaceSums.j0 k (wrap64 ((wrap64 (a0)) + 1)) bt125.1 bt127.1 bt129.1 bt129.2 bt131.1 bt131.2 true) else (if bt125.2 < 0 then (lodgerlaw06_PlaceSums.j0 k (wrap64 ((wrap64 (a0)) + 1)) bt125.1 bt127.1 bt129.1 bt129.2 bt131.1 bt131.2 true) else (if bt125.2 > 63 then (lodgerlaw06_PlaceSums.j0 k (wrap64 ((wrap64 (a0)) + 1)) bt125.1 bt127.1 bt129.1 bt129.2 bt131.1 bt131.2 true) else (if bt125.1 = bt127.1 then (lodgerlaw06_PlaceSums.j0 k (wrap64 ((wrap64 (a0)) + 1)) bt125.1 bt127.1 bt129.1 bt129.2 bt131.1 bt131.2 ((bt125.2 == bt127.2) != ((Int.tmod (wrap64 (a1)) t123) == (Int.tmod (wrap64 (a2)) t124)))) else (lodgerlaw06_PlaceSums.j0 k (wrap64 ((wrap64 (a0)) + 1)) bt125.1 bt127.1 bt129.1 bt129.2 bt131.1 bt131.2 (false != ((Int.tmod (wrap64 (a1)) t123) == (Int.tmod (wrap64 (a2)) t124))))))))))))))))))) = some r := by rw [if_pos rfl] at H; exact H
    clear H
    have H := H1
    clear H1
    replace H := Option.bind_eq_some_iff.mp H
    obtain ⟨t123, A60, H⟩ := H
    replace H : (if t123 = 0 then (none) else ((place_Leaves.f (wrap64 ((wrap64 (a0)) + 1))).bind fun t124 => (if t124 = 0 then (none) else ((place_Top.f (wrap64 ((wrap64 (a0)) + 1)) (Int.tmod (wrap64 (a1)) t123)).bind fun bt125 => ((place_Top.f (wrap64 ((wrap64 (a0)) + 1)) (Int.tmod (wrap64 (a2)) t124)).bind fun bt127 => ((place_Root.f (wrap64 ((wrap64 (a0)) + 1)) (Int.tmod (wrap64 (a1)) t123)).bind fun bt129 => ((place_Root.f (wrap64 ((wrap64 (a0)) + 1)) (Int.tmod (wrap64 (a2)) t124)).bind fun bt131 => ((place_Leaves.f (wrap64 ((wrap64 (a0)) + 1))).bind fun t133 => (if bt125.1 < t133 then (lodgerlaw06_PlaceSums.j0 k (wrap64 ((wrap64 (a0)) + 1)) bt125.1 bt127.1 bt129.1 bt129.2 bt131.1 bt131.2 true) else ((place_Cells.f (wrap64 ((wrap64 (a0)) + 1))).bind fun t134 => (if bt125.1 ≥ (wrap64 (t134 - 1)) then (lodgerlaw06_PlaceSums.j0 k (wrap64 ((wrap64 (a0)) + 1)) bt125.1 bt127.1 bt129.1 bt129.2 bt131.1 bt131.2 true) else (if bt125.2 < 0 then (lodgerlaw06_PlaceSums.j0 k (wrap64 ((wrap64 (a0)) + 1)) bt125.1 bt127.1 bt129.1 bt129.2 bt131.1 bt131.2 true) else (if bt125.2 > 63 then (lodgerlaw06_PlaceSums.j0 k (wrap64 ((wrap64 (a0)) + 1)) bt125.1 bt127.1 bt129.1 bt129.2 bt131.1 bt131.2 true) else (if bt125.1 = bt127.1 then (lodgerlaw06_PlaceSums.j0 k (wrap64 ((wrap64 (a0)) + 1)) bt125.1 bt127.1 bt129.1 bt129.2 bt131.1 bt131.2 ((bt125.2 == bt127.2) != ((Int.tmod (wrap64 (a1)) t123) == (Int.tmod (wrap64 (a2)) t124)))) else (lodgerlaw06_PlaceSums.j0 k (wrap64 ((wrap64 (a0)) + 1)) bt125.1 bt127.1 bt129.1 bt129.2 bt131.1 bt131.2 (false != ((Int.tmod (wrap64 (a1)) t123) == (Int.tmod (wrap64 (a2)) t124)))))))))))))))))) = some r := H
    have A6 := Aside0.mk A60
    clear A60
    by_cases c7 : t123 = 0
    · rw [if_pos c7] at H
      exact absurd H (by simp)
    · rw [if_neg c7] at H
      have c7b0 : (t123 == 0) = false := beq_eq_false_iff_ne.mpr c7
      have c7b1 : (t123 != 0) = true := bne_iff_ne.mpr c7
      replace H := Option.bind_eq_some_iff.mp H
      obtain ⟨t124, A80, H⟩ := H
      replace H : (if t124 = 0 then (none) else ((place_Top.f (wrap64 ((wrap64 (a0)) + 1)) (Int.tmod (wrap64 (a1)) t123)).bind fun bt125 => ((place_Top.f (wrap64 ((wrap64 (a0)) + 1)) (Int.tmod (wrap64 (a2)) t124)).bind fun bt127 => ((place_Root.f (wrap64 ((wrap64 (a0)) + 1)) (Int.tmod (wrap64 (a1)) t123)).bind fun bt129 => ((place_Root.f (wrap64 ((wrap64 (a0)) + 1)) (Int.tmod (wrap64 (a2)) t124)).bind fun bt131 => ((place_Leaves.f (wrap64 ((wrap64 (a0)) + 1))).bind fun t133 => (if bt125.1 < t133 then (lodgerlaw06_PlaceSums.j0 k (wrap64 ((wrap64 (a0)) + 1)) bt125.1 bt127.1 bt129.1 bt129.2 bt131.1 bt131.2 true) else ((place_Cells.f (wrap64 ((wrap64 (a0)) + 1))).bind fun t134 => (if bt125.1 ≥ (wrap64 (t134 - 1)) then (lodgerlaw06_PlaceSums.j0 k (wrap64 ((wrap64 (a0)) + 1)) bt125.1 bt127.1 bt129.1 bt129.2 bt131.1 bt131.2 true) else (if bt125.2 < 0 then (lodgerlaw06_PlaceSums.j0 k (wrap64 ((wrap64 (a0)) + 1)) bt125.1 bt127.1 bt129.1 bt129.2 bt131.1 bt131.2 true) else (if bt125.2 > 63 then (lodgerlaw06_PlaceSums.j0 k (wrap64 ((wrap64 (a0)) + 1)) bt125.1 bt127.1 bt129.1 bt129.2 bt131.1 bt131.2 true) else (if bt125.1 = bt127.1 then (lodgerlaw06_PlaceSums.j0 k (wrap64 ((wrap64 (a0)) + 1)) bt125.1 bt127.1 bt129.1 bt129.2 bt131.1 bt131.2 ((bt125.2 == bt127.2) != ((Int.tmod (wrap64 (a1)) t123) == (Int.tmod (wrap64 (a2)) t124)))) else (lodgerlaw06_PlaceSums.j0 k (wrap64 ((wrap64 (a0)) + 1)) bt125.1 bt127.1 bt129.1 bt129.2 bt131.1 bt131.2 (false != ((Int.tmod (wrap64 (a1)) t123) == (Int.tmod (wrap64 (a2)) t124)))))))))))))))) = some r := H
      have A8 := Aside0.mk A80
      clear A80
      have E_ := A6.out.symm.trans A8.out
      replace E_ := Option.some.inj E_
      subst E_
      by_cases c9 : t123 = 0
      · rw [if_pos c9] at H
        exact absurd H (by simp)
      · rw [if_neg c9] at H
        have c9b0 : (t123 == 0) = false := beq_eq_false_iff_ne.mpr c9
        have c9b1 : (t123 != 0) = true := bne_iff_ne.mpr c9
        replace H := Option.bind_eq_some_iff.mp H
        obtain ⟨⟨t125, t126⟩, A100, H⟩ := H
        replace H : ((place_Top.f (wrap64 ((wrap64 (a0)) + 1)) (Int.tmod (wrap64 (a2)) t123)).bind fun bt127 => ((place_Root.f (wrap64 ((wrap64 (a0)) + 1)) (Int.tmod (wrap64 (a1)) t123)).bind fun bt129 => ((place_Root.f (wrap64 ((wrap64 (a0)) + 1)) (Int.tmod (wrap64 (a2)) t123)).bind fun bt131 => ((place_Leaves.f (wrap64 ((wrap64 (a0)) + 1))).bind fun t133 => (if t125 < t133 then (lodgerlaw06_PlaceSums.j0 k (wrap64 ((wrap64 (a0)) + 1)) t125 bt127.1 bt129.1 bt129.2 bt131.1 bt131.2 true) else ((place_Cells.f (wrap64 ((wrap64 (a0)) + 1))).bind fun t134 => (if t125 ≥ (wrap64 (t134 - 1)) then (lodgerlaw06_PlaceSums.j0 k (wrap64 ((wrap64 (a0)) + 1)) t125 bt127.1 bt129.1 bt129.2 bt131.1 bt131.2 true) else (if t126 < 0 then (lodgerlaw06_PlaceSums.j0 k (wrap64 ((wrap64 (a0)) + 1)) t125 bt127.1 bt129.1 bt129.2 bt131.1 bt131.2 true) else (if t126 > 63 then (lodgerlaw06_PlaceSums.j0 k (wrap64 ((wrap64 (a0)) + 1)) t125 bt127.1 bt129.1 bt129.2 bt131.1 bt131.2 true) else (if t125 = bt127.1 then (lodgerlaw06_PlaceSums.j0 k (wrap64 ((wrap64 (a0)) + 1)) t125 bt127.1 bt129.1 bt129.2 bt131.1 bt131.2 ((t126 == bt127.2) != ((Int.tmod (wrap64 (a1)) t123) == (Int.tmod (wrap64 (a2)) t123)))) else (lodgerlaw06_PlaceSums.j0 k (wrap64 ((wrap64 (a0)) + 1)) t125 bt127.1 bt129.1 bt129.2 bt131.1 bt131.2 (false != ((Int.tmod (wrap64 (a1)) t123) == (Int.tmod (wrap64 (a2)) t123)))))))))))))) = some r := H
        have A10 := Aside0.mk A100
        clear A100
        replace H := Option.bind_eq_some_iff.mp H
        obtain ⟨⟨t127, t128⟩, A110, H⟩ := H
        replace H : ((place_Root.f (wrap64 ((wrap64 (a0)) + 1)) (Int.tmod (wrap64 (a1)) t123)).bind fun bt129 => ((place_Root.f (wrap64 ((wrap64 (a0)) + 1)) (Int.tmod (wrap64 (a2)) t123)).bind fun bt131 => ((place_Leaves.f (wrap64 ((wrap64 (a0)) + 1))).bind fun t133 => (if t125 < t133 then (lodgerlaw06_PlaceSums.j0 k (wrap64 ((wrap64 (a0)) + 1)) t125 t127 bt129.1 bt129.2 bt131.1 bt131.2 true) else ((place_Cells.f (wrap64 ((wrap64 (a0)) + 1))).bind fun t134 => (if t125 ≥ (wrap64 (t134 - 1)) then (lodgerlaw06_PlaceSums.j0 k (wrap64 ((wrap64 (a0)) + 1)) t125 t127 bt129.1 bt129.2 bt131.1 bt131.2 true) else (if t126 < 0 then (lodgerlaw06_PlaceSums.j0 k (wrap64 ((wrap64 (a0)) + 1)) t125 t127 bt129.1 bt129.2 bt131.1 bt131.2 true) else (if t126 > 63 then (lodgerlaw06_PlaceSums.j0 k (wrap64 ((wrap64 (a0)) + 1)) t125 t127 bt129.1 bt129.2 bt131.1 bt131.2 true) else (if t125 = t127 then (lodgerlaw06_PlaceSums.j0 k (wrap64 ((wrap64 (a0)) + 1)) t125 t127 bt129.1 bt129.2 bt131.1 bt131.2 ((t126 == t128) != ((Int.tmod (wrap64 (a1)) t123) == (Int.tmod (wrap64 (a2)) t123)))) else (lodgerlaw06_PlaceSums.j0 k (wrap64 ((wrap64 (a0)) + 1)) t125 t127 bt129.1 bt129.2 bt131.1 bt131.2 (false != ((Int.tmod (wrap64 (a1)) t123) == (Int.tmod (wrap64 (a2)) t123))))))))))))) = some r := H
        have A11 := Aside0.mk A110
        clear A110
        replace H := Option.bind_eq_some_iff.mp H
        obtain ⟨⟨t129, t130⟩, A120, H⟩ := H
        replace H : ((place_Root.f (wrap64 ((wrap64 (a0)) + 1)) (Int.tmod (wrap64 (a2)) t123)).bind fun bt131 => ((place_Leaves.f (wrap64 ((wrap64 (a0)) + 1))).bind fun t133 => (if t125 < t133 then (lodgerlaw06_PlaceSums.j0 k (wrap64 ((wrap64 (a0)) + 1)) t125 t127 t129 t130 bt131.1 bt131.2 true) else ((place_Cells.f (wrap64 ((wrap64 (a0)) + 1))).bind fun t134 => (if t125 ≥ (wrap64 (t134 - 1)) then (lodgerlaw06_PlaceSums.j0 k (wrap64 ((wrap64 (a0)) + 1)) t125 t127 t129 t130 bt131.1 bt131.2 true) else (if t126 < 0 then (lodgerlaw06_PlaceSums.j0 k (wrap64 ((wrap64 (a0)) + 1)) t125 t127 t129 t130 bt131.1 bt131.2 true) else (if t126 > 63 then (lodgerlaw06_PlaceSums.j0 k (wrap64 ((wrap64 (a0)) + 1)) t125 t127 t129 t130 bt131.1 bt131.2 true) else (if t125 = t127 then (lodgerlaw06_PlaceSums.j0 k (wrap64 ((wrap64 (a0)) + 1)) t125 t127 t129 t130 bt131.1 bt131.2 ((t126 == t128) != ((Int.tmod (wrap64 (a1)) t123) == (Int.tmod (wrap64 (a2)) t123)))) else (lodgerlaw06_PlaceSums.j0 k (wrap64 ((wrap64 (a0)) + 1)) t125 t127 t129 t130 bt131.1 bt131.2 (false != ((Int.tmod (wrap64 (a1)) t123) == (Int.tmod (wrap64 (a2)) t123)))))))))))) = some r := H
        have A12 := Aside0.mk A120
        clear A120
        replace H := Option.bind_eq_some_iff.mp H
        obtain ⟨⟨t131, t132⟩, A130, H⟩ := H
        replace H : ((place_Leaves.f (wrap64 ((wrap64 (a0)) + 1))).bind fun t133 => (if t125 < t133 then (lodgerlaw06_PlaceSums.j0 k (wrap64 ((wrap64 (a0)) + 1)) t125 t127 t129 t130 t131 t132 true) else ((place_Cells.f (wrap64 ((wrap64 (a0)) + 1))).bind fun t134 => (if t125 ≥ (wrap64 (t134 - 1)) then (lodgerlaw06_PlaceSums.j0 k (wrap64 ((wrap64 (a0)) + 1)) t125 t127 t129 t130 t131 t132 true) else (if t126 < 0 then (lodgerlaw06_PlaceSums.j0 k (wrap64 ((wrap64 (a0)) + 1)) t125 t127 t129 t130 t131 t132 true) else (if t126 > 63 then (lodgerlaw06_PlaceSums.j0 k (wrap64 ((wrap64 (a0)) + 1)) t125 t127 t129 t130 t131 t132 true) else (if t125 = t127 then (lodgerlaw06_PlaceSums.j0 k (wrap64 ((wrap64 (a0)) + 1)) t125 t127 t129 t130 t131 t132 ((t126 == t128) != ((Int.tmod (wrap64 (a1)) t123) == (Int.tmod (wrap64 (a2)) t123)))) else (lodgerlaw06_PlaceSums.j0 k (wrap64 ((wrap64 (a0)) + 1)) t125 t127 t129 t130 t131 t132 (false != ((Int.tmod (wrap64 (a1)) t123) == (Int.tmod (wrap64 (a2)) t123))))))))))) = some r := H
        have A13 := Aside0.mk A130
        clear A130
        have HC14 := Aside0.mk H
        clear H
        go_enter Try.func5, Try.ntmps5
        go_upto_region 10 with (first | ((with_reducible refine gate_callee (f := 14) rfl ?_); refine goesL_ (some 18) rfl rfl Try.func14 (by kernel_rfl) rfl #[] rfl (by (try simp only [List.map_toArray, List.map_cons, List.map_nil]); first | done | rfl | (simp only [List.length_drop, List.length_take]; rfl)) ?_; (with_reducible refine (lodgerlaw06_awake.calls  true _ A4.out).mono ?_); rintro e w15 ⟨rfl, hb⟩; refine ⟨_, rfl, ?_⟩; have n0_ := Aside0.mk (below_step (by repeat (first | (with_reducible first | exact HB.out | apply below_alloc | apply pw_below_drewN | apply below_drew1) | exact HB.out)) hb); clear HB; have HB := n0_; clear n0_; (try clear hb); (try clear hb2); (try clear hk); (try clear hi)) | ((with_reducible refine gate_callee (f := 20) rfl ?_); refine goesL_ (some 26) rfl rfl Try.func20 (by kernel_rfl) rfl #[.int .i64 (wrap64 ((wrap64 (a0)) + 1))] rfl (by (try simp only [List.map_toArray, List.map_cons, List.map_nil]); first | done | rfl | (simp only [List.length_drop, List.length_take]; rfl)) ?_; (with_reducible refine (place_Leaves.calls (wrap64 ((wrap64 (a0)) + 1)) t123 _ A6.out).mono ?_); rintro e w' ⟨rfl, ⟨nd, rfl⟩⟩; refine ⟨_, rfl, ?_⟩) | ((with_reducible refine gate_callee (f := 20) rfl ?_); refine goesL_ (some 31) rfl rfl Try.func20 (by kernel_rfl) rfl #[.int .i64 (wrap64 ((wrap64 (a0)) + 1))] rfl (by (try simp only [List.map_toArray, List.map_cons, List.map_nil]); first | done | rfl | (simp only [List.length_drop, List.length_take]; rfl)) ?_; (with_reducible refine (place_Leaves.calls (wrap64 ((wrap64 (a0)) + 1)) t123 _ A8.out).mono ?_); rintro e w' ⟨rfl, ⟨nd, rfl⟩⟩; refine ⟨_, rfl, ?_⟩) | ((with_reducible refine gate_callee (f := 16) rfl ?_); refine goesL_ (some 36) rfl rfl Try.func16 (by kernel_rfl) rfl #[.int .i64 (wrap64 ((wrap64 (a0)) + 1)), .int .i64 (Int.tmod (wrap64 (a1)) t123)] rfl (by (try simp only [List.map_toArray, List.map_cons, List.map_nil]); first | done | rfl | (simp only [List.length_drop, List.length_take]; rfl)) ?_; (with_reducible refine (place_Top.calls (wrap64 ((wrap64 (a0)) + 1)) (Int.tmod (wrap64 (a1)) t123) t125 t126 _ A10.out).mono ?_); rintro e w' ⟨rfl, ⟨nd, rfl⟩⟩; refine ⟨_, rfl, ?_⟩) | ((with_reducible refine gate_callee (f := 16) rfl ?_); refine goesL_ (some 42) rfl rfl Try.func16 (by kernel_rfl) rfl #[.int .i64 (wrap64 ((wrap64 (a0)) + 1)), .int .i64 (Int.tmod (wrap64 (a2)) t123)] rfl (by (try simp only [List.map_toArray, List.map_cons, List.map_nil]); first | done | rfl | (simp only [List.length_drop, List.length_take]; rfl)) ?_; (with_reducible refine (place_Top.calls (wrap64 ((wrap64 (a0)) + 1)) (Int.tmod (wrap64 (a2)) t123) t127 t128 _ A11.out).mono ?_); rintro e w' ⟨rfl, ⟨nd, rfl⟩⟩; refine ⟨_, rfl, ?_⟩) | ((with_reducible refine gate_callee (f := 18) rfl ?_); refine goesL_ (some 48) rfl rfl Try.func18 (by kernel_rfl) rfl #[.int .i64 (wrap64 ((wrap64 (a0)) + 1)), .int .i64 (Int.tmod (wrap64 (a1)) t123)] rfl (by (try simp only [List.map_toArray, List.map_cons, List.map_nil]); first | done | rfl | (simp only [List.length_drop, List.length_take]; rfl)) ?_; (with_reducible refine (place_Root.calls (wrap64 ((wrap64 (a0)) + 1)) (Int.tmod (wrap64 (a1)) t123) t129 t130 _ A12.out).mono ?_); rintro e w' ⟨rfl, ⟨nd, rfl⟩⟩; refine ⟨_, rfl, ?_⟩) | ((with_reducible refine gate_callee (f := 18) rfl ?_); refine goesL_ (some 54) rfl rfl Try.func18 (by kernel_rfl) rfl #[.int .i64 (wrap64 ((wrap64 (a0)) + 1)), .int .i64 (Int.tmod (wrap64 (a2)) t123)] rfl (by (try simp only [List.map_toArray, List.map_cons, List.map_nil]); first | done | rfl | (simp only [List.length_drop, List.length_take]; rfl)) ?_; (with_reducible refine (place_Root.calls (wrap64 ((wrap64 (a0)) + 1)) (Int.tmod (wrap64 (a2)) t123) t131 t132 _ A13.out).mono ?_); rintro e w' ⟨rfl, ⟨nd, rfl⟩⟩; refine ⟨_, rfl, ?_⟩))
        (try simp only [Act.put, List.setIfInBounds_toArray, List.set_cons_zero, List.set_cons_succ])
        go_cut [89] (fun v89 wc => ∃ (kq : Nat) (x89_13 : Bool), v89 = .bool x89_13 ∧ Aside0 (lodgerlaw06_PlaceSums.j0 kq (wrap64 ((wrap64 (a0)) + 1)) t125 t127 t129 t130 t131 t132 x89_13 = some r) ∧ Aside0 (kq ≤ k) ∧ Aside0 (Below w.heap.size w wc))
        case first =>
          have H := HC14.out
          clear HC14
          replace H := Option.bind_eq_some_iff.mp H
          obtain ⟨t133, A160, H⟩ := H
          replace H : (if t125 < t133 then (lodgerlaw06_PlaceSums.j0 k (wrap64 ((wrap64 (a0)) + 1)) t125 t127 t129 t130 t131 t132 true) else ((place_Cells.f (wrap64 ((wrap64 (a0)) + 1))).bind fun t134 => (if t125 ≥ (wrap64 (t134 - 1)) then (lodgerlaw06_PlaceSums.j0 k (wrap64 ((wrap64 (a0)) + 1)) t125 t127 t129 t130 t131 t132 true) else (if t126 < 0 then (lodgerlaw06_PlaceSums.j0 k (wrap64 ((wrap64 (a0)) + 1)) t125 t127 t129 t130 t131 t132 true) else (if t126 > 63 then (lodgerlaw06_PlaceSums.j0 k (wrap64 ((wrap64 (a0)) + 1)) t125 t127 t129 t130 t131 t132 true) else (if t125 = t127 then (lodgerlaw06_PlaceSums.j0 k (wrap64 ((wrap64 (a0)) + 1)) t125 t127 t129 t130 t131 t132 ((t126 == t128) != ((Int.tmod (wrap64 (a1)) t123) == (Int.tmod (wrap64 (a2)) t123)))) else (lodgerlaw06_PlaceSums.j0 k (wrap64 ((wrap64 (a0)) + 1)) t125 t127 t129 t130 t131 t132 (false != ((Int.tmod (wrap64 (a1)) t123) == (Int.tmod (wrap64 (a2)) t123)))))))))) = some r := H
          have A16 := Aside0.mk A160
          clear A160
          by_cases c17 : t125 < t133
          · rw [if_pos c17] at H
            have c17b0 : decide (t125 < t133) = true := decide_eq_true c17
            clear c17
            (first | rw [c17b0] | (simp only [i64_w, i32_w]; rw [c17b0]) | skip)
            have H' := Aside0.mk H
            clear H
            go_wp2_with (first | ((with_reducible refine gate_callee (f := 20) rfl ?_); refine goesL_ (some 59) rfl rfl Try.func20 (by kernel_rfl) rfl #[.int .i64 (wrap64 ((wrap64 (a0)) + 1))] rfl (by (try simp only [List.map_toArray, List.map_cons, List.map_nil]); first | done | rfl | (simp only [List.length_drop, List.length_take]; rfl)) ?_; (with_reducible refine (place_Leaves.calls (wrap64 ((wrap64 (a0)) + 1)) t133 _ A16.out).mono ?_); rintro e w' ⟨rfl, ⟨nd, rfl⟩⟩; refine ⟨_, rfl, ?_⟩) | (go_at_call 20; (with_reducible refine (place_Leaves.calls (wrap64 ((wrap64 (a0)) + 1)) t133 _ A16.out).mono ?_); rintro e w' ⟨rfl, ⟨nd, rfl⟩⟩))
            go_meet
            case rel => exact ⟨_, (true), (by first | rfl | (simp; done) | (simp [*]; done)), H', ⟨by first | omega | exact Nat.le_refl _⟩, ⟨by repeat (first | (with_reducible first | exact HB.out | apply below_alloc | apply pw_below_drewN | apply below_drew1) | exact HB.out)⟩⟩
          · rw [if_neg c17] at H
            have c17b0 : decide (t125 < t133) = false := decide_eq_false c17
            clear c17
            (first | rw [c17b0] | (simp only [i64_w, i32_w]; rw [c17b0]) | skip)
            replace H := Option.bind_eq_some_iff.mp H
            obtain ⟨t134, A180, H⟩ := H
            replace H : (if t125 ≥ (wrap64 (t134 - 1)) then (lodgerlaw06_PlaceSums.j0 k (wrap64 ((wrap64 (a0)) + 1)) t125 t127 t129 t130 t131 t132 true) else (if t126 < 0 then (lodgerlaw06_PlaceSums.j0 k (wrap64 ((wrap64 (a0)) + 1)) t125 t127 t129 t130 t131 t132 true) else (if t126 > 63 then (lodgerlaw06_PlaceSums.j0 k (wrap64 ((wrap64 (a0)) + 1)) t125 t127 t129 t130 t131 t132 true) else (if t125 = t127 then (lodgerlaw06_PlaceSums.j0 k (wrap64 ((wrap64 (a0)) + 1)) t125 t127 t129 t130 t131 t132 ((t126 == t128) != ((Int.tmod (wrap64 (a1)) t123) == (Int.tmod (wrap64 (a2)) t123)))) else (lodgerlaw06_PlaceSums.j0 k (wrap64 ((wrap64 (a0)) + 1)) t125 t127 t129 t130 t131 t132 (false != ((Int.tmod (wrap64 (a1)) t123) == (Int.tmod (wrap64 (a2)) t123)))))))) = some r := H
            have A18 := Aside0.mk A180
            clear A180
            by_cases c19 : t125 ≥ (wrap64 (t134 - 1))
            · rw [if_pos c19] at H
              have c19b0 : decide ((wrap64 (t134 - 1)) ≤ t125) = true := decide_eq_true c19
              clear c19
              have H' := Aside0.mk H
              clear H
              go_wp2_with (first | ((with_reducible refine gate_callee (f := 20) rfl ?_); refine goesL_ (some 59) rfl rfl Try.func20 (by kernel_rfl) rfl #[.int .i64 (wrap64 ((wrap64 (a0)) + 1))] rfl (by (try simp only [List.map_toArray, List.map_cons, List.map_nil]); first | done | rfl | (simp only [List.length_drop, List.length_take]; rfl)) ?_; (with_reducible refine (place_Leaves.calls (wrap64 ((wrap64 (a0)) + 1)) t133 _ A16.out).mono ?_); rintro e w' ⟨rfl, ⟨nd, rfl⟩⟩; refine ⟨_, rfl, ?_⟩) | (go_at_call 24; (with_reducible refine (place_Cells.calls (wrap64 ((wrap64 (a0)) + 1)) t134 _ A18.out).mono ?_); rintro e w' ⟨rfl, ⟨nd, rfl⟩⟩) | (go_at_call 20; (with_reducible refine (place_Leaves.calls (wrap64 ((wrap64 (a0)) + 1)) t133 _ A16.out).mono ?_); rintro e w' ⟨rfl, ⟨nd, rfl⟩⟩))
              go_meet
              case rel => exact ⟨_, (true), (by first | rfl | (simp; done) | (simp [*]; done)), H', ⟨by first | omega | exact Nat.le_refl _⟩, ⟨by repeat (first | (with_reducible first | exact HB.out | apply below_alloc | apply pw_below_drewN | apply below_drew1) | exact HB.out)⟩⟩
            · rw [if_neg c19] at H
              have c19b0 : decide ((wrap64 (t134 - 1)) ≤ t125) = false := decide_eq_false c19
              clear c19
              by_cases c20 : t126 < 0
              · rw [if_pos c20] at H
                have c20b0 : decide (t126 < 0) = true := decide_eq_true c20
                clear c20
                have H' := Aside0.mk H
                clear H
                go_wp2_with (first | ((with_reducible refine gate_callee (f := 20) rfl ?_); refine goesL_ (some 59) rfl rfl Try.func20 (by kernel_rfl) rfl #[.int .i64 (wrap64 ((wrap64 (a0)) + 1))] rfl (by (try simp only [List.map_toArray, List.map_cons, List.map_nil]); first | done | rfl | (simp only [List.length_drop, List.length_take]; rfl)) ?_; (with_reducible refine (place_Leaves.calls (wrap64 ((wrap64 (a0)) + 1)) t133 _ A16.out).mono ?_); rintro e w' ⟨rfl, ⟨nd, rfl⟩⟩; refine ⟨_, rfl, ?_⟩) | (go_at_call 24; (with_reducible refine (place_Cells.calls (wrap64 ((wrap64 (a0)) + 1)) t134 _ A18.out).mono ?_); rintro e w' ⟨rfl, ⟨nd, rfl⟩⟩) | (go_at_call 20; (with_reducible refine (place_Leaves.calls (wrap64 ((wrap64 (a0)) + 1)) t133 _ A16.out).mono ?_); rintro e w' ⟨rfl, ⟨nd, rfl⟩⟩))
                go_meet
                case rel => exact ⟨_, (true), (by first | rfl | (simp; done) | (simp [*]; done)), H', ⟨by first | omega | exact Nat.le_refl _⟩, ⟨by repeat (first | (with_reducible first | exact HB.out | apply below_alloc | apply pw_below_drewN | apply below_drew1) | exact HB.out)⟩⟩
              · rw [if_neg c20] at H
                have c20b0 : decide (t126 < 0) = false := decide_eq_false c20
                clear c20
                by_cases c21 : t126 > 63
                · rw [if_pos c21] at H
                  have c21b0 : decide (63 < t126) = true := decide_eq_true c21
                  clear c21
                  have H' := Aside0.mk H
                  clear H
                  go_wp2_with (first | ((with_reducible refine gate_callee (f := 20) rfl ?_); refine goesL_ (some 59) rfl rfl Try.func20 (by kernel_rfl) rfl #[.int .i64 (wrap64 ((wrap64 (a0)) + 1))] rfl (by (try simp only [List.map_toArray, List.map_cons, List.map_nil]); first | done | rfl | (simp only [List.length_drop, List.length_take]; rfl)) ?_; (with_reducible refine (place_Leaves.calls (wrap64 ((wrap64 (a0)) + 1)) t133 _ A16.out).mono ?_); rintro e w' ⟨rfl, ⟨nd, rfl⟩⟩; refine ⟨_, rfl, ?_⟩) | (go_at_call 24; (with_reducible refine (place_Cells.calls (wrap64 ((wrap64 (a0)) + 1)) t134 _ A18.out).mono ?_); rintro e w' ⟨rfl, ⟨nd, rfl⟩⟩) | (go_at_call 20; (with_reducible refine (place_Leaves.calls (wrap64 ((wrap64 (a0)) + 1)) t133 _ A16.out).mono ?_); rintro e w' ⟨rfl, ⟨nd, rfl⟩⟩))
                  go_meet
                  case rel => exact ⟨_, (true), (by first | rfl | (simp; done) | (simp [*]; done)), H', ⟨by first | omega | exact Nat.le_refl _⟩, ⟨by repeat (first | (with_reducible first | exact HB.out | apply below_alloc | apply pw_below_drewN | apply below_drew1) | exact HB.out)⟩⟩
                · rw [if_neg c21] at H
                  have c21b0 : decide (63 < t126) = false := decide_eq_false c21
                  clear c21
                  by_cases c22 : t125 = t127
                  · rw [if_pos c22] at H
                    have c22b0 : (t125 == t127) = true := beq_iff_eq.mpr c22
                    have c22b1 : (t125 != t127) = false := bne_eq_false_iff_eq.mpr c22
                    clear c22
                    have H' := Aside0.mk H
                    clear H
                    go_wp2_with (first | ((with_reducible refine gate_callee (f := 20) rfl ?_); refine goesL_ (some 59) rfl rfl Try.func20 (by kernel_rfl) rfl #[.int .i64 (wrap64 ((wrap64 (a0)) + 1))] rfl (by (try simp only [List.map_toArray, List.map_cons, List.map_nil]); first | done | rfl | (simp only [List.length_drop, List.length_take]; rfl)) ?_; (with_reducible refine (place_Leaves.calls (wrap64 ((wrap64 (a0)) + 1)) t133 _ A16.out).mono ?_); rintro e w' ⟨rfl, ⟨nd, rfl⟩⟩; refine ⟨_, rfl, ?_⟩) | (go_at_call 24; (with_reducible refine (place_Cells.calls (wrap64 ((wrap64 (a0)) + 1)) t134 _ A18.out).mono ?_); rintro e w' ⟨rfl, ⟨nd, rfl⟩⟩) | (go_at_call 20; (with_reducible refine (place_Leaves.calls (wrap64 ((wrap64 (a0)) + 1)) t133 _ A16.out).mono ?_); rintro e w' ⟨rfl, ⟨nd, rfl⟩⟩))
                    go_meet
                    case rel => exact ⟨_, (((t126 == t128) != ((Int.tmod (wrap64 (a1)) t123) == (Int.tmod (wrap64 (a2)) t123)))), (by first | rfl | (simp; done) | (simp [*]; done)), H', ⟨by first | omega | exact Nat.le_refl _⟩, ⟨by repeat (first | (with_reducible first | exact HB.out | apply below_alloc | apply pw_below_drewN | apply below_drew1) | exact HB.out)⟩⟩
                  · rw [if_neg c22] at H
                    have c22b0 : (t125 == t127) = false := beq_eq_false_iff_ne.mpr c22
                    have c22b1 : (t125 != t127) = true := bne_iff_ne.mpr c22
                    have H' := Aside0.mk H
                    clear H
                    go_wp2_with (first | ((with_reducible refine gate_callee (f := 20) rfl ?_); refine goesL_ (some 59) rfl rfl Try.func20 (by kernel_rfl) rfl #[.int .i64 (wrap64 ((wrap64 (a0)) + 1))] rfl (by (try simp only [List.map_toArray, List.map_cons, List.map_nil]); first | done | rfl | (simp only [List.length_drop, List.length_take]; rfl)) ?_; (with_reducible refine (place_Leaves.calls (wrap64 ((wrap64 (a0)) + 1)) t133 _ A16.out).mono ?_); rintro e w' ⟨rfl, ⟨nd, rfl⟩⟩; refine ⟨_, rfl, ?_⟩) | (go_at_call 24; (with_reducible refine (place_Cells.calls (wrap64 ((wrap64 (a0)) + 1)) t134 _ A18.out).mono ?_); rintro e w' ⟨rfl, ⟨nd, rfl⟩⟩) | (go_at_call 20; (with_reducible refine (place_Leaves.calls (wrap64 ((wrap64 (a0)) + 1)) t133 _ A16.out).mono ?_); rintro e w' ⟨rfl, ⟨nd, rfl⟩⟩))
                    go_meet
                    case rel => exact ⟨_, ((false != ((Int.tmod (wrap64 (a1)) t123) == (Int.tmod (wrap64 (a2)) t123)))), (by first | rfl | (simp; done) | (simp [*]; done)), H', ⟨by first | omega | exact Nat.le_refl _⟩, ⟨by repeat (first | (with_reducible first | exact HB.out | apply below_alloc | apply pw_below_drewN | apply below_drew1) | exact HB.out)⟩⟩
        case rest =>
          clear HC14
          try clear c1
          try clear c2
          try clear p2
          try clear c5
          try clear p6
          try clear c7
          try clear c7b0
          try clear c7b1
          try clear c9
          try clear c9b0
          try clear c9b1
          try clear c14
          try clear c16
          try clear c17
          try clear c17b0
          try clear c18
          try clear c19
          try clear c19b0
          try clear c20
          try clear c20b0
          try clear c21
          try clear c21b0
          try clear c22
          try clear c22b0
          try clear c22b1
          obtain ⟨kq, x89_13, rfl, HA, HJ13, HB⟩ := hcut
          cases kq with
          | zero => exact absurd HA.out (by simp [lodgerlaw06_PlaceSums.j0])
          | succ kj13 =>
            have H := HA.out
            clear HA
            simp only [lodgerlaw06_PlaceSums.j0] at H
            by_cases c23 : x89_13 = true
            · subst c23
              have H1 : (some false) = some r := by rw [if_pos rfl] at H; exact H
              clear H
              have H := H1
              clear H1
              first | (exfalso; rw [hr_] at H; exact absurd (Option.some.inj H) (by decide)) | clear hr_
              all_goals
                obtain rfl := Option.some.inj H
                go_wp2
                go_ret
                exact ⟨by first | rfl | (simp [errW_none, errW_some] <;> rfl) | (simp [*, errW_none, errW_some] <;> rfl), by repeat (first | (with_reducible first | exact HB.out | apply below_alloc | apply pw_below_drewN | apply below_drew1) | exact HB.out)⟩
            · replace c23 := Bool.eq_false_iff.mpr c23
              subst c23
              have H1 : ((place_Cells.f (wrap64 ((wrap64 (a0)) + 1))).bind fun t135 => (if t129 = (wrap64 (t135 - 1)) then (if t131 = t129 then (if ((t130 == t132) == (t125 == t127)) = true then (if t130 ≥ 0 then ((place_Tops.f (wrap64 ((wrap64 (a0)) + 1))).bind fun t136 => (if t130 < t136 then ((place_Cells.f (wrap64 ((wrap64 (a0)) + 1))).bind fun t137 => ((place_Leaves.f (wrap64 ((wrap64 (a0)) + 1))).bind fun t138 => ((place_Tops.f (wrap64 ((wrap64 (a0)) + 1))).bind fun t139 => (some (t137 == (wrap64 ((wrap64 (t138 + t139)) + 1))))))) else (some false))) else (some false)) else (some false)) else (some false)) else (some false))) = some r := by rw [if_neg (show ¬ (false = true) by decide)] at H; exact H
              clear H
              have H := H1
              clear H1
              replace H := Option.bind_eq_some_iff.mp H
              obtain ⟨t135, A240, H⟩ := H
              replace H : (if t129 = (wrap64 (t135 - 1)) then (if t131 = t129 then (if ((t130 == t132) == (t125 == t127)) = true then (if t130 ≥ 0 then ((place_Tops.f (wrap64 ((wrap64 (a0)) + 1))).bind fun t136 => (if t130 < t136 then ((place_Cells.f (wrap64 ((wrap64 (a0)) + 1))).bind fun t137 => ((place_Leaves.f (wrap64 ((wrap64 (a0)) + 1))).bind fun t138 => ((place_Tops.f (wrap64 ((wrap64 (a0)) + 1))).bind fun t139 => (some (t137 == (wrap64 ((wrap64 (t138 + t139)) + 1))))))) else (some false))) else (some false)) else (some false)) else (some false)) else (some false)) = some r := H
              have A24 := Aside0.mk A240
              clear A240
              by_cases c25 : t129 = (wrap64 (t135 - 1))
              · rw [if_pos c25] at H
                have c25b0 : (t129 == (wrap64 (t135 - 1))) = true := beq_iff_eq.mpr c25
                have c25b1 : (t129 != (wrap64 (t135 - 1))) = false := bne_eq_false_iff_eq.mpr c25
                clear c25
                by_cases c26 : t131 = t129
                · rw [if_pos c26] at H
                  have c26b0 : (t131 == t129) = true := beq_iff_eq.mpr c26
                  have c26b1 : (t131 != t129) = false := bne_eq_false_iff_eq.mpr c26
                  clear c26
                  by_cases c27 : ((t130 == t132) == (t125 == t127)) = true
                  · rw [if_pos c27] at H
                    have c27b0 : ((t130 == t132) == (t125 == t127)) = true := c27
                    (try (have c27b1 : decide ((t130 == t132) = (t125 == t127)) = true := by simpa using c27))
                    (try (have c27b2 : ((t130 == t132) == (t125 == t127)) = true := by simpa using c27))
                    clear c27
                    by_cases c28 : t130 ≥ 0
                    · rw [if_pos c28] at H
                      have c28b0 : decide (0 ≤ t130) = true := decide_eq_true c28
                      clear c28
                      replace H := Option.bind_eq_some_iff.mp H
                      obtain ⟨t136, A290, H⟩ := H
                      replace H : (if t130 < t136 then ((place_Cells.f (wrap64 ((wrap64 (a0)) + 1))).bind fun t137 => ((place_Leaves.f (wrap64 ((wrap64 (a0)) + 1))).bind fun t138 => ((place_Tops.f (wrap64 ((wrap64 (a0)) + 1))).bind fun t139 => (some (t137 == (wrap64 ((wrap64 (t138 + t139)) + 1))))))) else (some false)) = some r := H
                      have A29 := Aside0.mk A290
                      clear A290
                      by_cases c30 : t130 < t136
                      · rw [if_pos c30] at H
                        have c30b0 : decide (t130 < t136) = true := decide_eq_true c30
                        clear c30
                        replace H := Option.bind_eq_some_iff.mp H
                        obtain ⟨t137, A310, H⟩ := H
                        replace H : ((place_Leaves.f (wrap64 ((wrap64 (a0)) + 1))).bind fun t138 => ((place_Tops.f (wrap64 ((wrap64 (a0)) + 1))).bind fun t139 => (some (t137 == (wrap64 ((wrap64 (t138 + t139)) + 1)))))) = some r := H
                        have A31 := Aside0.mk A310
                        clear A310
                        have E_ := A24.out.symm.trans A31.out
                        replace E_ := Option.some.inj E_
                        subst E_
                        replace H := Option.bind_eq_some_iff.mp H
                        obtain ⟨t138, A320, H⟩ := H
                        replace H : ((place_Tops.f (wrap64 ((wrap64 (a0)) + 1))).bind fun t139 => (some (t135 == (wrap64 ((wrap64 (t138 + t139)) + 1))))) = some r := H
                        have A32 := Aside0.mk A320
                        clear A320
                        replace H := Option.bind_eq_some_iff.mp H
                        obtain ⟨t139, A330, H⟩ := H
                        replace H : (some (t135 == (wrap64 ((wrap64 (t138 + t139)) + 1)))) = some r := H
                        have A33 := Aside0.mk A330
                        clear A330
                        have E_ := A29.out.symm.trans A33.out
                        replace E_ := Option.some.inj E_
                        subst E_
                        first | (exfalso; rw [hr_] at H; exact absurd (Option.some.inj H) (by decide)) | clear hr_
                        all_goals
                          obtain rfl := Option.some.inj H
                          go_wp2_with (first | ((with_reducible refine gate_callee (f := 24) rfl ?_); refine goesL_ (some 92) rfl rfl Try.func24 (by kernel_rfl) rfl #[.int .i64 (wrap64 ((wrap64 (a0)) + 1))] rfl (by (try simp only [List.map_toArray, List.map_cons, List.map_nil]); first | done | rfl | (simp only [List.length_drop, List.length_take]; rfl)) ?_; (with_reducible refine (place_Cells.calls (wrap64 ((wrap64 (a0)) + 1)) t135 _ A24.out).mono ?_); rintro e w' ⟨rfl, ⟨nd, rfl⟩⟩; refine ⟨_, rfl, ?_⟩) | (go_at_call 22; (with_reducible refine (place_Tops.calls (wrap64 ((wrap64 (a0)) + 1)) t136 _ A29.out).mono ?_); rintro e w' ⟨rfl, ⟨nd, rfl⟩⟩) | (go_at_call 24; (with_reducible refine (place_Cells.calls (wrap64 ((wrap64 (a0)) + 1)) t135 _ A31.out).mono ?_); rintro e w' ⟨rfl, ⟨nd, rfl⟩⟩) | (go_at_call 20; (with_reducible refine (place_Leaves.calls (wrap64 ((wrap64 (a0)) + 1)) t138 _ A32.out).mono ?_); rintro e w' ⟨rfl, ⟨nd, rfl⟩⟩) | (go_at_call 22; (with_reducible refine (place_Tops.calls (wrap64 ((wrap64 (a0)) + 1)) t136 _ A33.out).mono ?_); rintro e w' ⟨rfl, ⟨nd, rfl⟩⟩) | (go_at_call 24; (with_reducible refine (place_Cells.calls (wrap64 ((wrap64 (a0)) + 1)) t135 _ A24.out).mono ?_); rintro e w' ⟨rfl, ⟨nd, rfl⟩⟩))
                          go_ret
                          exact ⟨by first | rfl | (simp [errW_none, errW_some] <;> rfl) | (simp [*, errW_none, errW_some] <;> rfl), by repeat (first | (with_reducible first | exact HB.out | apply below_alloc | apply pw_below_drewN | apply below_drew1) | exact HB.out)⟩
                      · rw [if_neg c30] at H
                        have c30b0 : decide (t130 < t136) = false := decide_eq_false c30
                        clear c30
                        first | (exfalso; rw [hr_] at H; exact absurd (Option.some.inj H) (by decide)) | clear hr_
                        all_goals
                          obtain rfl := Option.some.inj H
                          go_wp2_with (first | ((with_reducible refine gate_callee (f := 24) rfl ?_); refine goesL_ (some 92) rfl rfl Try.func24 (by kernel_rfl) rfl #[.int .i64 (wrap64 ((wrap64 (a0)) + 1))] rfl (by (try simp only [List.map_toArray, List.map_cons, List.map_nil]); first | done | rfl | (simp only [List.length_drop, List.length_take]; rfl)) ?_; (with_reducible refine (place_Cells.calls (wrap64 ((wrap64 (a0)) + 1)) t135 _ A24.out).mono ?_); rintro e w' ⟨rfl, ⟨nd, rfl⟩⟩; refine ⟨_, rfl, ?_⟩) | (go_at_call 22; (with_reducible refine (place_Tops.calls (wrap64 ((wrap64 (a0)) + 1)) t136 _ A29.out).mono ?_); rintro e w' ⟨rfl, ⟨nd, rfl⟩⟩) | (go_at_call 24; (with_reducible refine (place_Cells.calls (wrap64 ((wrap64 (a0)) + 1)) t135 _ A24.out).mono ?_); rintro e w' ⟨rfl, ⟨nd, rfl⟩⟩))
                          go_ret
                          exact ⟨by first | rfl | (simp [errW_none, errW_some] <;> rfl) | (simp [*, errW_none, errW_some] <;> rfl), by repeat (first | (with_reducible first | exact HB.out | apply below_alloc | apply pw_below_drewN | apply below_drew1) | exact HB.out)⟩
                    · rw [if_neg c28] at H
                      have c28b0 : decide (0 ≤ t130) = false := decide_eq_false c28
                      clear c28
                      first | (exfalso; rw [hr_] at H; exact absurd (Option.some.inj H) (by decide)) | clear hr_
                      all_goals
                        obtain rfl := Option.some.inj H
                        go_wp2_with (first | ((with_reducible refine gate_callee (f := 24) rfl ?_); refine goesL_ (some 92) rfl rfl Try.func24 (by kernel_rfl) rfl #[.int .i64 (wrap64 ((wrap64 (a0)) + 1))] rfl (by (try simp only [List.map_toArray, List.map_cons, List.map_nil]); first | done | rfl | (simp only [List.length_drop, List.length_take]; rfl)) ?_; (with_reducible refine (place_Cells.calls (wrap64 ((wrap64 (a0)) + 1)) t135 _ A24.out).mono ?_); rintro e w' ⟨rfl, ⟨nd, rfl⟩⟩; refine ⟨_, rfl, ?_⟩) | (go_at_call 24; (with_reducible refine (place_Cells.calls (wrap64 ((wrap64 (a0)) + 1)) t135 _ A24.out).mono ?_); rintro e w' ⟨rfl, ⟨nd, rfl⟩⟩))
                        go_ret
                        exact ⟨by first | rfl | (simp [errW_none, errW_some] <;> rfl) | (simp [*, errW_none, errW_some] <;> rfl), by repeat (first | (with_reducible first | exact HB.out | apply below_alloc | apply pw_below_drewN | apply below_drew1) | exact HB.out)⟩
                  · rw [if_neg c27] at H
                    have c27b0 : ((t130 == t132) == (t125 == t127)) = false := by simpa using c27
                    (try (have c27b1 : decide ((t130 == t132) = (t125 == t127)) = false := by simpa using c27))
                    (try (have c27b2 : ((t130 == t132) == (t125 == t127)) = false := by simpa using c27))
                    (try (have c27b3 : ¬ ((t130 == t132) = (t125 == t127)) := by simpa using c27))
                    clear c27
                    first | (exfalso; rw [hr_] at H; exact absurd (Option.some.inj H) (by decide)) | clear hr_
                    all_goals
                      obtain rfl := Option.some.inj H
                      go_wp2_with (first | ((with_reducible refine gate_callee (f := 24) rfl ?_); refine goesL_ (some 92) rfl rfl Try.func24 (by kernel_rfl) rfl #[.int .i64 (wrap64 ((wrap64 (a0)) + 1))] rfl (by (try simp only [List.map_toArray, List.map_cons, List.map_nil]); first | done | rfl | (simp only [List.length_drop, List.length_take]; rfl)) ?_; (with_reducible refine (place_Cells.calls (wrap64 ((wrap64 (a0)) + 1)) t135 _ A24.out).mono ?_); rintro e w' ⟨rfl, ⟨nd, rfl⟩⟩; refine ⟨_, rfl, ?_⟩) | (go_at_call 24; (with_reducible refine (place_Cells.calls (wrap64 ((wrap64 (a0)) + 1)) t135 _ A24.out).mono ?_); rintro e w' ⟨rfl, ⟨nd, rfl⟩⟩))
                      go_ret
                      exact ⟨by first | rfl | (simp [errW_none, errW_some] <;> rfl) | (simp [*, errW_none, errW_some] <;> rfl), by repeat (first | (with_reducible first | exact HB.out | apply below_alloc | apply pw_below_drewN | apply below_drew1) | exact HB.out)⟩
                · rw [if_neg c26] at H
                  have c26b0 : (t131 == t129) = false := beq_eq_false_iff_ne.mpr c26
                  have c26b1 : (t131 != t129) = true := bne_iff_ne.mpr c26
                  first | (exfalso; rw [hr_] at H; exact absurd (Option.some.inj H) (by decide)) | clear hr_
                  all_goals
                    obtain rfl := Option.some.inj H
                    go_wp2_with (first | ((with_reducible refine gate_callee (f := 24) rfl ?_); refine goesL_ (some 92) rfl rfl Try.func24 (by kernel_rfl) rfl #[.int .i64 (wrap64 ((wrap64 (a0)) + 1))] rfl (by (try simp only [List.map_toArray, List.map_cons, List.map_nil]); first | done | rfl | (simp only [List.length_drop, List.length_take]; rfl)) ?_; (with_reducible refine (place_Cells.calls (wrap64 ((wrap64 (a0)) + 1)) t135 _ A24.out).mono ?_); rintro e w' ⟨rfl, ⟨nd, rfl⟩⟩; refine ⟨_, rfl, ?_⟩) | (go_at_call 24; (with_reducible refine (place_Cells.calls (wrap64 ((wrap64 (a0)) + 1)) t135 _ A24.out).mono ?_); rintro e w' ⟨rfl, ⟨nd, rfl⟩⟩))
                    go_ret
                    exact ⟨by first | rfl | (simp [errW_none, errW_some] <;> rfl) | (simp [*, errW_none, errW_some] <;> rfl), by repeat (first | (with_reducible first | exact HB.out | apply below_alloc | apply pw_below_drewN | apply below_drew1) | exact HB.out)⟩
              · rw [if_neg c25] at H
                have c25b0 : (t129 == (wrap64 (t135 - 1))) = false := beq_eq_false_iff_ne.mpr c25
                have c25b1 : (t129 != (wrap64 (t135 - 1))) = true := bne_iff_ne.mpr c25
                first | (exfalso; rw [hr_] at H; exact absurd (Option.some.inj H) (by decide)) | clear hr_
                all_goals
                  obtain rfl := Option.some.inj H
                  go_wp2_with (first | ((with_reducible refine gate_callee (f := 24) rfl ?_); refine goesL_ (some 92) rfl rfl Try.func24 (by kernel_rfl) rfl #[.int .i64 (wrap64 ((wrap64 (a0)) + 1))] rfl (by (try simp only [List.map_toArray, List.map_cons, List.map_nil]); first | done | rfl | (simp only [List.length_drop, List.length_take]; rfl)) ?_; (with_reducible refine (place_Cells.calls (wrap64 ((wrap64 (a0)) + 1)) t135 _ A24.out).mono ?_); rintro e w' ⟨rfl, ⟨nd, rfl⟩⟩; refine ⟨_, rfl, ?_⟩) | (go_at_call 24; (with_reducible refine (place_Cells.calls (wrap64 ((wrap64 (a0)) + 1)) t135 _ A24.out).mono ?_); rintro e w' ⟨rfl, ⟨nd, rfl⟩⟩))
                  go_ret
                  exact ⟨by first | rfl | (simp [errW_none, errW_some] <;> rfl) | (simp [*, errW_none, errW_some] <;> rfl), by repeat (first | (with_reducible first | exact HB.out | apply below_alloc | apply pw_below_drewN | apply below_drew1) | exact HB.out)⟩
  · replace c5 := Bool.eq_false_iff.mpr c5
    subst c5
    have H1 : (some false) = some r := by rw [if_neg (show ¬ (false = true) by decide)] at H; exact H
    clear H
    have H := H1
    clear H1
    first | (exfalso; rw [hr_] at H; exact absurd (Option.some.inj H) (by decide)) | clear hr_
    all_goals
      obtain rfl := Option.some.inj H
      go_enter Try.func5, Try.ntmps5
      go_wp2_with (first | ((with_reducible refine gate_callee (f := 14) rfl ?_); refine goesL_ (some 18) rfl rfl Try.func14 (by kernel_rfl) rfl #[] rfl (by (try simp only [List.map_toArray, List.map_cons, List.map_nil]); first | done | rfl | (simp only [List.length_drop, List.length_take]; rfl)) ?_; (with_reducible refine (lodgerlaw06_awake.calls  false _ A4.out).mono ?_); rintro e w34 ⟨rfl, hb⟩; refine ⟨_, rfl, ?_⟩; have n0_ := Aside0.mk (below_step (by repeat (first | (with_reducible first | exact HB.out | apply below_alloc | apply pw_below_drewN | apply below_drew1) | exact HB.out)) hb); clear HB; have HB := n0_; clear n0_; (try clear hb); (try clear hb2); (try clear hk); (try clear hi)))
      go_ret
      exact ⟨by first | rfl | (simp [errW_none, errW_some] <;> rfl) | (simp [*, errW_none, errW_some] <;> rfl), by repeat (first | (with_reducible first | exact HB.out | apply below_alloc | apply pw_below_drewN | apply below_drew1) | exact HB.out)⟩

/-- THE ONE PURE STATEMENT of lodgerlaw06_PlaceSums: yours. -/
def lodgerlaw06_PlaceSums.Pure : Prop := ∀ (a0 : Int) (a1 : Int) (a2 : Int), (Lit.int .u16 a0).wf = true → (Lit.int .u16 a1).wf = true → (Lit.int .u16 a2).wf = true → ∃ k, lodgerlaw06_PlaceSums.f k a0 a1 a2 = some true
theorem lodgerlaw06_PlaceSums.walk (P : lodgerlaw06_PlaceSums.Pure) (a0 : Int) (a1 : Int) (a2 : Int) (w : World) (w0 : (Lit.int .u16 a0).wf = true) (w1 : (Lit.int .u16 a1).wf = true) (w2 : (Lit.int .u16 a2).wf = true) :
    Calls Try.prog 5 #[.int .u16 a0, .int .u16 a1, .int .u16 a2] w fun e w' => e = .returned (.bool true) ∧ Below w.heap.size w w' := by
  obtain ⟨k, h⟩ := P a0 a1 a2 w0 w1 w2
  refine (lodgerlaw06_PlaceSums.calls k a0 a1 a2 true w rfl h).mono ?_
  rintro e w' ⟨rfl, hd⟩
  exact ⟨rfl, hd⟩

end Go.Proofs.Yteieippmopfnaaa.PPlaceSums
