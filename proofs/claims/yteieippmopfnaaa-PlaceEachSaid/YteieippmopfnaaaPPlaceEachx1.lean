-- PRINTED BY print.sh 35421559b90ae4d0a3588c463048766b98c2df88dd9212a6774a882060cdf62d: not written by this session
import Derived.Test.YteieippmopfnaaaPPlaceEachx0
namespace Go.Proofs.Yteieippmopfnaaa.PPlaceEach
open Go.RowKit Go.Proofs.YteieippmopfnaaaW.PrintWords Go.Proofs.YteieippmopfnaaaW.PrintLast Go.Proofs.YteieippmopfnaaaW.PrintMore
attribute [local go_sem] max2_int min2_int max_two min_two max_three min_three max_four min_four   -- for this text's walks alone
set_option linter.unusedVariables false
set_option linter.unusedSimpArgs false

/-! ### place_Leaf: function 15 -/
def place_Leaf.f (a0 : Int) : Option (Int × Int) := some (wrap64 (Int.tdiv a0 32), Int.tmod a0 32)
set_option maxHeartbeats 8000000 in
set_option maxRecDepth 100000 in
theorem place_Leaf.calls (a0 : Int) (r1 : Int) (r2 : Int) (w : World) (h : place_Leaf.f a0 = some (r1, r2)) :
    Calls Try.prog 15 #[.int .i64 a0] w fun e w' => e = .returned (.tuple #[.int .i64 r1, .int .i64 r2]) ∧ Drawn0 w w' := by
  have H : (some (wrap64 (Int.tdiv a0 32), Int.tmod a0 32)) = some (r1, r2) := h
  clear h
  simp only [Option.some.injEq, Prod.mk.injEq] at H
  obtain ⟨rfl, rfl⟩ := H
  go_enter Try.func15, Try.ntmps15
  go_wp2
  go_ret2
  exact ⟨by first | rfl | (simp; done) | (simp [*]; done), by repeat (first | exact Drawn0.refl _ | apply Drawn0.step)⟩

/-! ### place_up_int: function 46 -/
def place_up_int.f (a0 : Int) (a1 : Int) : Option (Int) := if a1 = 0 then (none) else (some (wrap64 (Int.tdiv (wrap64 ((wrap64 (a0 + a1)) - 1)) a1)))
set_option maxHeartbeats 8000000 in
set_option maxRecDepth 100000 in
theorem place_up_int.calls (a0 : Int) (a1 : Int) (r : Int) (w : World) (h : place_up_int.f a0 a1 = some r) :
    Calls Try.prog 46 #[.int .i64 a0, .int .i64 a1] w fun e w' => e = .returned (.int .i64 r) ∧ Drawn0 w w' := by
  have H : (if a1 = 0 then (none) else (some (wrap64 (Int.tdiv (wrap64 ((wrap64 (a0 + a1)) - 1)) a1)))) = some r := h
  clear h
  by_cases c3 : a1 = 0
  · rw [if_pos c3] at H
    exact absurd H (by simp)
  · rw [if_neg c3] at H
    have c3b0 : (a1 == 0) = false := beq_eq_false_iff_ne.mpr c3
    have c3b1 : (a1 != 0) = true := bne_iff_ne.mpr c3
    obtain rfl := Option.some.inj H
    go_enter Try.func46, Try.ntmps46
    go_wp2
    go_ret
    exact ⟨by first | rfl | (simp; done) | (simp [*]; done), by repeat (first | exact Drawn0.refl _ | apply Drawn0.step)⟩

/-! ### place_Leaves: function 20 -/
def place_Leaves.f (a0 : Int) : Option (Int) := (place_up_int.f a0 32).bind fun t101 => (some t101)
set_option maxHeartbeats 8000000 in
set_option maxRecDepth 100000 in
theorem place_Leaves.calls (a0 : Int) (r : Int) (w : World) (h : place_Leaves.f a0 = some r) :
    Calls Try.prog 20 #[.int .i64 a0] w fun e w' => e = .returned (.int .i64 r) ∧ Drawn0 w w' := by
  have H : ((place_up_int.f a0 32).bind fun t101 => (some t101)) = some r := h
  clear h
  replace H := Option.bind_eq_some_iff.mp H
  obtain ⟨t101, A20, H⟩ := H
  replace H : (some t101) = some r := H
  have A2 := Aside0.mk A20
  clear A20
  obtain rfl := Option.some.inj H
  go_enter Try.func20, Try.ntmps20
  go_wp2_with (first | ((with_reducible refine gate_callee (f := 46) rfl ?_); refine goesL_ (some 4) rfl rfl Try.func46 (by kernel_rfl) rfl #[.int .i64 a0, .int .i64 32] rfl (by (try simp only [List.map_toArray, List.map_cons, List.map_nil]); first | done | rfl | (simp only [List.length_drop, List.length_take]; rfl)) ?_; (with_reducible refine (place_up_int.calls a0 32 t101 _ A2.out).mono ?_); rintro e w' ⟨rfl, ⟨nd, rfl⟩⟩; refine ⟨_, rfl, ?_⟩))
  go_ret
  exact ⟨by first | rfl | (simp; done) | (simp [*]; done), by repeat (first | exact Drawn0.refl _ | apply Drawn0.step)⟩

/-! ### place_Top: function 16 -/
def place_Top.f (a0 : Int) (a1 : Int) : Option (Int × Int) := (place_Leaves.f a0).bind fun t102 => (some (wrap64 (t102 + (wrap64 (Int.tdiv a1 64))), Int.tmod a1 64))
set_option maxHeartbeats 8000000 in
set_option maxRecDepth 100000 in
theorem place_Top.calls (a0 : Int) (a1 : Int) (r1 : Int) (r2 : Int) (w : World) (h : place_Top.f a0 a1 = some (r1, r2)) :
    Calls Try.prog 16 #[.int .i64 a0, .int .i64 a1] w fun e w' => e = .returned (.tuple #[.int .i64 r1, .int .i64 r2]) ∧ Drawn0 w w' := by
  have H : ((place_Leaves.f a0).bind fun t102 => (some (wrap64 (t102 + (wrap64 (Int.tdiv a1 64))), Int.tmod a1 64))) = some (r1, r2) := h
  clear h
  replace H := Option.bind_eq_some_iff.mp H
  obtain ⟨t102, A30, H⟩ := H
  replace H : (some (wrap64 (t102 + (wrap64 (Int.tdiv a1 64))), Int.tmod a1 64)) = some (r1, r2) := H
  have A3 := Aside0.mk A30
  clear A30
  simp only [Option.some.injEq, Prod.mk.injEq] at H
  obtain ⟨rfl, rfl⟩ := H
  go_enter Try.func16, Try.ntmps16
  go_wp2_with (first | ((with_reducible refine gate_callee (f := 20) rfl ?_); refine goesL_ (some 7) rfl rfl Try.func20 (by kernel_rfl) rfl #[.int .i64 a0] rfl (by (try simp only [List.map_toArray, List.map_cons, List.map_nil]); first | done | rfl | (simp only [List.length_drop, List.length_take]; rfl)) ?_; (with_reducible refine (place_Leaves.calls a0 t102 _ A3.out).mono ?_); rintro e w' ⟨rfl, ⟨nd, rfl⟩⟩; refine ⟨_, rfl, ?_⟩))
  go_ret2
  exact ⟨by first | rfl | (simp; done) | (simp [*]; done), by repeat (first | exact Drawn0.refl _ | apply Drawn0.step)⟩

/-! ### place_Tops: function 22 -/
def place_Tops.f (a0 : Int) : Option (Int) := (place_Leaves.f a0).bind fun t103 => ((place_up_int.f t103 64).bind fun t104 => (some t104))
set_option maxHeartbeats 8000000 in
set_option maxRecDepth 100000 in
theorem place_Tops.calls (a0 : Int) (r : Int) (w : World) (h : place_Tops.f a0 = some r) :
    Calls Try.prog 22 #[.int .i64 a0] w fun e w' => e = .returned (.int .i64 r) ∧ Drawn0 w w' := by
  have H : ((place_Leaves.f a0).bind fun t103 => ((place_up_int.f t103 64).bind fun t104 => (some t104))) = some r := h
  clear h
  replace H := Option.bind_eq_some_iff.mp H
  obtain ⟨t103, A20, H⟩ := H
  replace H : ((place_up_int.f t103 64).bind fun t104 => (some t104)) = some r := H
  have A2 := Aside0.mk A20
  clear A20
  replace H := Option.bind_eq_some_iff.mp H
  obtain ⟨t104, A30, H⟩ := H
  replace H : (some t104) = some r := H
  have A3 := Aside0.mk A30
  clear A30
  obtain rfl := Option.some.inj H
  go_enter Try.func22, Try.ntmps22
  go_wp2_with (first | ((with_reducible refine gate_callee (f := 20) rfl ?_); refine goesL_ (some 4) rfl rfl Try.func20 (by kernel_rfl) rfl #[.int .i64 a0] rfl (by (try simp only [List.map_toArray, List.map_cons, List.map_nil]); first | done | rfl | (simp only [List.length_drop, List.length_take]; rfl)) ?_; (with_reducible refine (place_Leaves.calls a0 t103 _ A2.out).mono ?_); rintro e w' ⟨rfl, ⟨nd, rfl⟩⟩; refine ⟨_, rfl, ?_⟩) | ((with_reducible refine gate_callee (f := 46) rfl ?_); refine goesL_ (some 5) rfl rfl Try.func46 (by kernel_rfl) rfl #[.int .i64 t103, .int .i64 64] rfl (by (try simp only [List.map_toArray, List.map_cons, List.map_nil]); first | done | rfl | (simp only [List.length_drop, List.length_take]; rfl)) ?_; (with_reducible refine (place_up_int.calls t103 64 t104 _ A3.out).mono ?_); rintro e w' ⟨rfl, ⟨nd, rfl⟩⟩; refine ⟨_, rfl, ?_⟩))
  go_ret
  exact ⟨by first | rfl | (simp; done) | (simp [*]; done), by repeat (first | exact Drawn0.refl _ | apply Drawn0.step)⟩

/-! ### place_Cells: function 24 -/
def place_Cells.f (a0 : Int) : Option (Int) := (place_Leaves.f a0).bind fun t105 => ((place_Tops.f a0).bind fun t106 => (some (wrap64 ((wrap64 (t105 + t106)) + 1))))
set_option maxHeartbeats 8000000 in
set_option maxRecDepth 100000 in
theorem place_Cells.calls (a0 : Int) (r : Int) (w : World) (h : place_Cells.f a0 = some r) :
    Calls Try.prog 24 #[.int .i64 a0] w fun e w' => e = .returned (.int .i64 r) ∧ Drawn0 w w' := by
  have H : ((place_Leaves.f a0).bind fun t105 => ((place_Tops.f a0).bind fun t106 => (some (wrap64 ((wrap64 (t105 + t106)) + 1))))) = some r := h
  clear h
  replace H := Option.bind_eq_some_iff.mp H
  obtain ⟨t105, A20, H⟩ := H
  replace H : ((place_Tops.f a0).bind fun t106 => (some (wrap64 ((wrap64 (t105 + t106)) + 1)))) = some r := H
  have A2 := Aside0.mk A20
  clear A20
  replace H := Option.bind_eq_some_iff.mp H
  obtain ⟨t106, A30, H⟩ := H
  replace H : (some (wrap64 ((wrap64 (t105 + t106)) + 1))) = some r := H
  have A3 := Aside0.mk A30
  clear A30
  obtain rfl := Option.some.inj H
  go_enter Try.func24, Try.ntmps24
  go_wp2_with (first | ((with_reducible refine gate_callee (f := 20) rfl ?_); refine goesL_ (some 4) rfl rfl Try.func20 (by kernel_rfl) rfl #[.int .i64 a0] rfl (by (try simp only [List.map_toArray, List.map_cons, List.map_nil]); first | done | rfl | (simp only [List.length_drop, List.length_take]; rfl)) ?_; (with_reducible refine (place_Leaves.calls a0 t105 _ A2.out).mono ?_); rintro e w' ⟨rfl, ⟨nd, rfl⟩⟩; refine ⟨_, rfl, ?_⟩) | ((with_reducible refine gate_callee (f := 22) rfl ?_); refine goesL_ (some 6) rfl rfl Try.func22 (by kernel_rfl) rfl #[.int .i64 a0] rfl (by (try simp only [List.map_toArray, List.map_cons, List.map_nil]); first | done | rfl | (simp only [List.length_drop, List.length_take]; rfl)) ?_; (with_reducible refine (place_Tops.calls a0 t106 _ A3.out).mono ?_); rintro e w' ⟨rfl, ⟨nd, rfl⟩⟩; refine ⟨_, rfl, ?_⟩))
  go_ret
  exact ⟨by first | rfl | (simp; done) | (simp [*]; done), by repeat (first | exact Drawn0.refl _ | apply Drawn0.step)⟩

/-! ### place_Root: function 18 -/
def place_Root.f (a0 : Int) (a1 : Int) : Option (Int × Int) := (place_Cells.f a0).bind fun t107 => (some (wrap64 (t107 - 1), wrap64 (Int.tdiv a1 64)))
set_option maxHeartbeats 8000000 in
set_option maxRecDepth 100000 in
theorem place_Root.calls (a0 : Int) (a1 : Int) (r1 : Int) (r2 : Int) (w : World) (h : place_Root.f a0 a1 = some (r1, r2)) :
    Calls Try.prog 18 #[.int .i64 a0, .int .i64 a1] w fun e w' => e = .returned (.tuple #[.int .i64 r1, .int .i64 r2]) ∧ Drawn0 w w' := by
  have H : ((place_Cells.f a0).bind fun t107 => (some (wrap64 (t107 - 1), wrap64 (Int.tdiv a1 64)))) = some (r1, r2) := h
  clear h
  replace H := Option.bind_eq_some_iff.mp H
  obtain ⟨t107, A30, H⟩ := H
  replace H : (some (wrap64 (t107 - 1), wrap64 (Int.tdiv a1 64))) = some (r1, r2) := H
  have A3 := Aside0.mk A30
  clear A30
  simp only [Option.some.injEq, Prod.mk.injEq] at H
  obtain ⟨rfl, rfl⟩ := H
  go_enter Try.func18, Try.ntmps18
  go_wp2_with (first | ((with_reducible refine gate_callee (f := 24) rfl ?_); refine goesL_ (some 7) rfl rfl Try.func24 (by kernel_rfl) rfl #[.int .i64 a0] rfl (by (try simp only [List.map_toArray, List.map_cons, List.map_nil]); first | done | rfl | (simp only [List.length_drop, List.length_take]; rfl)) ?_; (with_reducible refine (place_Cells.calls a0 t107 _ A3.out).mono ?_); rintro e w' ⟨rfl, ⟨nd, rfl⟩⟩; refine ⟨_, rfl, ?_⟩))
  go_ret2
  exact ⟨by first | rfl | (simp; done) | (simp [*]; done), by repeat (first | exact Drawn0.refl _ | apply Drawn0.step)⟩

/-! ### place_Offset: function 26 -/
def place_Offset.f (a0 : Int) (a1 : Int) : Option (Int) := some (wrap64 ((wrap64 (a0 * 32)) + a1))
set_option maxHeartbeats 8000000 in
set_option maxRecDepth 100000 in
theorem place_Offset.calls (a0 : Int) (a1 : Int) (r : Int) (w : World) (h : place_Offset.f a0 a1 = some r) :
    Calls Try.prog 26 #[.int .i64 a0, .int .i64 a1] w fun e w' => e = .returned (.int .i64 r) ∧ Drawn0 w w' := by
  have H : (some (wrap64 ((wrap64 (a0 * 32)) + a1))) = some r := h
  clear h
  obtain rfl := Option.some.inj H
  go_enter Try.func26, Try.ntmps26
  go_wp2
  go_ret
  exact ⟨by first | rfl | (simp; done) | (simp [*]; done), by repeat (first | exact Drawn0.refl _ | apply Drawn0.step)⟩

/-! ### place_Width: function 27 -/
def place_Width.f (a0 : Int) (a1 : Int) : Option (Int) := some (mn 32 (wrap64 (a0 - (wrap64 (a1 * 32)))))
set_option maxHeartbeats 8000000 in
set_option maxRecDepth 100000 in
theorem place_Width.calls (a0 : Int) (a1 : Int) (r : Int) (w : World) (h : place_Width.f a0 a1 = some r) :
    Calls Try.prog 27 #[.int .i64 a0, .int .i64 a1] w fun e w' => e = .returned (.int .i64 r) ∧ Below w.heap.size w w' := by
  have HB := Aside0.mk (Below.refl w.heap.size w)
  have H : (some (mn 32 (wrap64 (a0 - (wrap64 (a1 * 32)))))) = some r := h
  clear h
  obtain ⟨ji3, hji3⟩ : ∃ j_ : Int, (mn 32 (wrap64 (a0 - (wrap64 (a1 * 32))))) = j_ := ⟨_, rfl⟩
  replace H : (some ji3) = some r := by first | (rw [hji3] at H; exact H) | (simp only [hji3] at H ⊢; exact H)
  (try (have hji3h : ji3 ≤ 32 := by (rw [← hji3]; unfold mn; (repeat' split) <;> omega)))
  (try (have hji3g : ji3 ≤ 64 := by omega))
  have hji3_ : (if (wrap64 (a0 - (wrap64 (a1 * 32)))) < 32 then (wrap64 (a0 - (wrap64 (a1 * 32)))) else 32) = ji3 := hji3
  obtain rfl := Option.some.inj H
  go_enter Try.func27, Try.ntmps27
  go_wp2
  go_ret
  exact ⟨by first | rfl | (simp [errW_none, errW_some] <;> rfl) | (simp only [← hji3]; first | rfl | (simp [errW_none, errW_some] <;> rfl)) | (simp [*, errW_none, errW_some] <;> rfl), by repeat (first | (with_reducible first | exact HB.out | apply below_alloc | apply pw_below_drewN | apply below_drew1) | exact HB.out)⟩

/-! ### lodgerlaw06_awake: function 14 -/
def lodgerlaw06_awake.f  : Option (Bool) := (place_Leaf.f 40).bind fun bt108 => ((place_Top.f 33 1).bind fun bt110 => ((place_Root.f 33 1).bind fun bt112 => ((place_Leaves.f 33).bind fun t114 => (if t114 = 2 then ((place_Tops.f 33).bind fun t115 => (if t115 = 1 then ((place_Cells.f 33).bind fun t116 => (if t116 = 4 then (if bt108.1 = 1 then (if bt108.2 = 8 then ((place_Offset.f 1 8).bind fun t117 => (if t117 = 40 then ((place_Width.f 33 1).bind fun t118 => (if t118 = 1 then ((place_Width.f 33 0).bind fun t119 => (if t119 = 32 then (if bt110.1 = 2 then (if bt110.2 = 1 then (if bt112.1 = 3 then (if bt112.2 = 0 then ((place_Leaves.f 65536).bind fun t120 => (if t120 = 2048 then ((place_Tops.f 65536).bind fun t121 => (some (t121 == 32))) else (some false))) else (some false)) else (some false)) else (some false)) else (some false)) else (some false))) else (some false))) else (some false))) else (some false)) else (some false)) else (some false))) else (some false))) else (some false)))))
set_option maxHeartbeats 8000000 in
set_option maxRecDepth 100000 in
theorem lodgerlaw06_awake.calls  (r : Bool) (w : World) (h : lodgerlaw06_awake.f  = some r) :
    Calls Try.prog 14 #[] w fun e w' => e = .returned (.bool r) ∧ Below w.heap.size w w' := by
  have HB := Aside0.mk (Below.refl w.heap.size w)
  have H : ((place_Leaf.f 40).bind fun bt108 => ((place_Top.f 33 1).bind fun bt110 => ((place_Root.f 33 1).bind fun bt112 => ((place_Leaves.f 33).bind fun t114 => (if t114 = 2 then ((place_Tops.f 33).bind fun t115 => (if t115 = 1 then ((place_Cells.f 33).bind fun t116 => (if t116 = 4 then (if bt108.1 = 1 then (if bt108.2 = 8 then ((place_Offset.f 1 8).bind fun t117 => (if t117 = 40 then ((place_Width.f 33 1).bind fun t118 => (if t118 = 1 then ((place_Width.f 33 0).bind fun t119 => (if t119 = 32 then (if bt110.1 = 2 then (if bt110.2 = 1 then (if bt112.1 = 3 then (if bt112.2 = 0 then ((place_Leaves.f 65536).bind fun t120 => (if t120 = 2048 then ((place_Tops.f 65536).bind fun t121 => (some (t121 == 32))) else (some false))) else (some false)) else (some false)) else (some false)) else (some false)) else (some false))) else (some false))) else (some false))) else (some false)) else (some false)) else (some false))) else (some false))) else (some false)))))) = some r := h
  clear h
  replace H := Option.bind_eq_some_iff.mp H
  obtain ⟨⟨t108, t109⟩, A10, H⟩ := H
  replace H : ((place_Top.f 33 1).bind fun bt110 => ((place_Root.f 33 1).bind fun bt112 => ((place_Leaves.f 33).bind fun t114 => (if t114 = 2 then ((place_Tops.f 33).bind fun t115 => (if t115 = 1 then ((place_Cells.f 33).bind fun t116 => (if t116 = 4 then (if t108 = 1 then (if t109 = 8 then ((place_Offset.f 1 8).bind fun t117 => (if t117 = 40 then ((place_Width.f 33 1).bind fun t118 => (if t118 = 1 then ((place_Width.f 33 0).bind fun t119 => (if t119 = 32 then (if bt110.1 = 2 then (if bt110.2 = 1 then (if bt112.1 = 3 then (if bt112.2 = 0 then ((place_Leaves.f 65536).bind fun t120 => (if t120 = 2048 then ((place_Tops.f 65536).bind fun t121 => (some (t121 == 32))) else (some false))) else (some false)) else (some false)) else (some false)) else (some false)) else (some false))) else (some false))) else (some false))) else (some false)) else (some false)) else (some false))) else (some false))) else (some false))))) = some r := H
  have A1 := Aside0.mk A10
  clear A10
  replace H := Option.bind_eq_some_iff.mp H
  obtain ⟨⟨t110, t111⟩, A20, H⟩ := H
  replace H : ((place_Root.f 33 1).bind fun bt112 => ((place_Leaves.f 33).bind fun t114 => (if t114 = 2 then ((place_Tops.f 33).bind fun t115 => (if t115 = 1 then ((place_Cells.f 33).bind fun t116 => (if t116 = 4 then (if t108 = 1 then (if t109 = 8 then ((place_Offset.f 1 8).bind fun t117 => (if t117 = 40 then ((place_Width.f 33 1).bind fun t118 => (if t118 = 1 then ((place_Width.f 33 0).bind fun t119 => (if t119 = 32 then (if t110 = 2 then (if t111 = 1 then (if bt112.1 = 3 then (if bt112.2 = 0 then ((place_Leaves.f 65536).bind fun t120 => (if t120 = 2048 then ((place_Tops.f 65536).bind fun t121 => (some (t121 == 32))) else (some false))) else (some false)) else (some false)) else (some false)) else (some false)) else (some false))) else (some false))) else (some false))) else (some false)) else (some false)) else (some false))) else (some false))) else (some false)))) = some r := H
  have A2 := Aside0.mk A20
  clear A20
  replace H := Option.bind_eq_some_iff.mp H
  obtain ⟨⟨t112, t113⟩, A30, H⟩ := H
  replace H : ((place_Leaves.f 33).bind fun t114 => (if t114 = 2 then ((place_Tops.f 33).bind fun t115 => (if t115 = 1 then ((place_Cells.f 33).bind fun t116 => (if t116 = 4 then (if t108 = 1 then (if t109 = 8 then ((place_Offset.f 1 8).bind fun t117 => (if t117 = 40 then ((place_Width.f 33 1).bind fun t118 => (if t118 = 1 then ((place_Width.f 33 0).bind fun t119 => (if t119 = 32 then (if t110 = 2 then (if t111 = 1 then (if t112 = 3 then (if t113 = 0 then ((place_Leaves.f 65536).bind fun t120 => (if t120 = 2048 then ((place_Tops.f 65536).bind fun t121 => (some (t121 == 32))) else (some false))) else (some false)) else (some false)) else (some false)) else (some false)) else (some false))) else (some false))) else (some false))) else (some false)) else (some false)) else (some false))) else (some false))) else (some false))) = some r := H
  have A3 := Aside0.mk A30
  clear A30
  replace H := Option.bind_eq_some_iff.mp H
  obtain ⟨t114, A40, H⟩ := H
  replace H : (if t114 = 2 then ((place_Tops.f 33).bind fun t115 => (if t115 = 1 then ((place_Cells.f 33).bind fun t116 => (if t116 = 4 then (if t108 = 1 then (if t109 = 8 then ((place_Offset.f 1 8).bind fun t117 => (if t117 = 40 then ((place_Width.f 33 1).bind fun t118 => (if t118 = 1 then ((place_Width.f 33 0).bind fun t119 => (if t119 = 32 then (if t110 = 2 then (if t111 = 1 then (if t112 = 3 then (if t113 = 0 then ((place_Leaves.f 65536).bind fun t120 => (if t120 = 2048 then ((place_Tops.f 65536).bind fun t121 => (some (t121 == 32))) else (some false))) else (some false)) else (some false)) else (some false)) else (some false)) else (some false))) else (some false))) else (some false))) else (some false)) else (some false)) else (some false))) else (some false))) else (some false)) = some r := H
  have A4 := Aside0.mk A40
  clear A40
  by_cases c5 : t114 = 2
  · rw [if_pos c5] at H
    have c5b0 : (t114 == 2) = true := beq_iff_eq.mpr c5
    have c5b1 : (t114 != 2) = false := bne_eq_false_iff_eq.mpr c5
    clear c5
    replace H := Option.bind_eq_some_iff.mp H
    obtain ⟨t115, A60, H⟩ := H
    replace H : (if t115 = 1 then ((place_Cells.f 33).bind fun t116 => (if t116 = 4 then (if t108 = 1 then (if t109 = 8 then ((place_Offset.f 1 8).bind fun t117 => (if t117 = 40 then ((place_Width.f 33 1).bind fun t118 => (if t118 = 1 then ((place_Width.f 33 0).bind fun t119 => (if t119 = 32 then (if t110 = 2 then (if t111 = 1 then (if t112 = 3 then (if t113 = 0 then ((place_Leaves.f 65536).bind fun t120 => (if t120 = 2048 then ((place_Tops.f 65536).bind fun t121 => (some (t121 == 32))) else (some false))) else (some false)) else (some false)) else (some false)) else (some false)) else (some false))) else (some false))) else (some false))) else (some false)) else (some false)) else (some false))) else (some false)) = some r := H
    have A6 := Aside0.mk A60
    clear A60
    by_cases c7 : t115 = 1
    · rw [if_pos c7] at H
      have c7b0 : (t115 == 1) = true := beq_iff_eq.mpr c7
      have c7b1 : (t115 != 1) = false := bne_eq_false_iff_eq.mpr c7
      clear c7
      replace H := Option.bind_eq_some_iff.mp H
      obtain ⟨t116, A80, H⟩ := H
      replace H : (if t116 = 4 then (if t108 = 1 then (if t109 = 8 then ((place_Offset.f 1 8).bind fun t117 => (if t117 = 40 then ((place_Width.f 33 1).bind fun t118 => (if t118 = 1 then ((place_Width.f 33 0).bind fun t119 => (if t119 = 32 then (if t110 = 2 then (if t111 = 1 then (if t112 = 3 then (if t113 = 0 then ((place_Leaves.f 65536).bind fun t120 => (if t120 = 2048 then ((place_Tops.f 65536).bind fun t121 => (some (t121 == 32))) else (some false))) else (some false)) else (some false)) else (some false)) else (some false)) else (some false))) else (some false))) else (some false))) else (some false)) else (some false)) else (some false)) = some r := H
      have A8 := Aside0.mk A80
      clear A80
      by_cases c9 : t116 = 4
      · rw [if_pos c9] at H
        have c9b0 : (t116 == 4) = true := beq_iff_eq.mpr c9
        have c9b1 : (t116 != 4) = false := bne_eq_false_iff_eq.mpr c9
        clear c9
        by_cases c10 : t108 = 1
        · rw [if_pos c10] at H
          have c10b0 : (t108 == 1) = true := beq_iff_eq.mpr c10
          have c10b1 : (t108 != 1) = false := bne_eq_false_iff_eq.mpr c10
          clear c10
          by_cases c11 : t109 = 8
          · rw [if_pos c11] at H
            have c11b0 : (t109 == 8) = true := beq_iff_eq.mpr c11
            have c11b1 : (t109 != 8) = false := bne_eq_false_iff_eq.mpr c11
            clear c11
            replace H := Option.bind_eq_some_iff.mp H
            obtain ⟨t117, A120, H⟩ := H
            replace H : (if t117 = 40 then ((place_Width.f 33 1).bind fun t118 => (if t118 = 1 then ((place_Width.f 33 0).bind fun t119 => (if t119 = 32 then (if t110 = 2 then (if t111 = 1 then (if t112 = 3 then (if t113 = 0 then ((place_Leaves.f 65536).bind fun t120 => (if t120 = 2048 then ((place_Tops.f 65536).bind fun t121 => (some (t121 == 32))) else (some false))) else (some false)) else (some false)) else (some false)) else (some false)) else (some false))) else (some false))) else (some false)) = some r := H
            have A12 := Aside0.mk A120
            clear A120
            by_cases c13 : t117 = 40
            · rw [if_pos c13] at H
              have c13b0 : (t117 == 40) = true := beq_iff_eq.mpr c13
              have c13b1 : (t117 != 40) = false := bne_eq_false_iff_eq.mpr c13
              clear c13
              replace H := Option.bind_eq_some_iff.mp H
              obtain ⟨t118, A140, H⟩ := H
              replace H : (if t118 = 1 then ((place_Width.f 33 0).bind fun t119 => (if t119 = 32 then (if t110 = 2 then (if t111 = 1 then (if t112 = 3 then (if t113 = 0 then ((place_Leaves.f 65536).bind fun t120 => (if t120 = 2048 then ((place_Tops.f 65536).bind fun t121 => (some (t121 == 32))) else (some false))) else (some false)) else (some false)) else (some false)) else (some false)) else (some false))) else (some false)) = some r := H
              have A14 := Aside0.mk A140
              clear A140
              by_cases c15 : t118 = 1
              · rw [if_pos c15] at H
                have c15b0 : (t118 == 1) = true := beq_iff_eq.mpr c15
                have c15b1 : (t118 != 1) = false := bne_eq_false_iff_eq.mpr c15
                clear c15
                replace H := Option.bind_eq_some_iff.mp H
                obtain ⟨t119, A160, H⟩ := H
                replace H : (if t119 = 32 then (if t110 = 2 then (if t111 = 1 then (if t112 = 3 then (if t113 = 0 then ((place_Leaves.f 65536).bind fun t120 => (if t120 = 2048 then ((place_Tops.f 65536).bind fun t121 => (some (t121 == 32))) else (some false))) else (some false)) else (some false)) else (some false)) else (some false)) else (some false)) = some r := H
                have A16 := Aside0.mk A160
                clear A160
                by_cases c17 : t119 = 32
                · rw [if_pos c17] at H
                  have c17b0 : (t119 == 32) = true := beq_iff_eq.mpr c17
                  have c17b1 : (t119 != 32) = false := bne_eq_false_iff_eq.mpr c17
                  clear c17
                  by_cases c18 : t110 = 2
                  · rw [if_pos c18] at H
                    have c18b0 : (t110 == 2) = true := beq_iff_eq.mpr c18
                    have c18b1 : (t110 != 2) = false := bne_eq_false_iff_eq.mpr c18
                    clear c18
                    by_cases c19 : t111 = 1
                    · rw [if_pos c19] at H
                      have c19b0 : (t111 == 1) = true := beq_iff_eq.mpr c19
                      have c19b1 : (t111 != 1) = false := bne_eq_false_iff_eq.mpr c19
                      clear c19
                      by_cases c20 : t112 = 3
                      · rw [if_pos c20] at H
                        have c20b0 : (t112 == 3) = true := beq_iff_eq.mpr c20
                        have c20b1 : (t112 != 3) = false := bne_eq_false_iff_eq.mpr c20
                        clear c20
                        by_cases c21 : t113 = 0
                        · rw [if_pos c21] at H
                          have c21b0 : (t113 == 0) = true := beq_iff_eq.mpr c21
                          have c21b1 : (t113 != 0) = false := bne_eq_false_iff_eq.mpr c21
                          clear c21
                          replace H := Option.bind_eq_some_iff.mp H
                          obtain ⟨t120, A220, H⟩ := H
                          replace H : (if t120 = 2048 then ((place_Tops.f 65536).bind fun t121 => (some (t121 == 32))) else (some false)) = some r := H
                          have A22 := Aside0.mk A220
                          clear A220
                          by_cases c23 : t120 = 2048
                          · rw [if_pos c23] at H
                            have c23b0 : (t120 == 2048) = true := beq_iff_eq.mpr c23
                            have c23b1 : (t120 != 2048) = false := bne_eq_false_iff_eq.mpr c23
                            clear c23
                            replace H := Option.bind_eq_some_iff.mp H
                            obtain ⟨t121, A240, H⟩ := H
                            replace H : (some (t121 == 32)) = some r := H
                            have A24 := Aside0.mk A240
                            clear A240
                            obtain rfl := Option.some.inj H
                            go_enter Try.func14, Try.ntmps14
                            go_wp2_with (first | ((with_reducible refine gate_callee (f := 15) rfl ?_); refine goesL_ (some 8) rfl rfl Try.func15 (by kernel_rfl) rfl #[.int .i64 40] rfl (by (try simp only [List.map_toArray, List.map_cons, List.map_nil]); first | done | rfl | (simp only [List.length_drop, List.length_take]; rfl)) ?_; (with_reducible refine (place_Leaf.calls 40 t108 t109 _ A1.out).mono ?_); rintro e w' ⟨rfl, ⟨nd, rfl⟩⟩; refine ⟨_, rfl, ?_⟩) | ((with_reducible refine gate_callee (f := 16) rfl ?_); refine goesL_ (some 12) rfl rfl Try.func16 (by kernel_rfl) rfl #[.int .i64 33, .int .i64 1] rfl (by (try simp only [List.map_toArray, List.map_cons, List.map_nil]); first | done | rfl | (simp only [List.length_drop, List.length_take]; rfl)) ?_; (with_reducible refine (place_Top.calls 33 1 t110 t111 _ A2.out).mono ?_); rintro e w' ⟨rfl, ⟨nd, rfl⟩⟩; refine ⟨_, rfl, ?_⟩) | ((with_reducible refine gate_callee (f := 18) rfl ?_); refine goesL_ (some 16) rfl rfl Try.func18 (by kernel_rfl) rfl #[.int .i64 33, .int .i64 1] rfl (by (try simp only [List.map_toArray, List.map_cons, List.map_nil]); first | done | rfl | (simp only [List.length_drop, List.length_take]; rfl)) ?_; (with_reducible refine (place_Root.calls 33 1 t112 t113 _ A3.out).mono ?_); rintro e w' ⟨rfl, ⟨nd, rfl⟩⟩; refine ⟨_, rfl, ?_⟩) | ((with_reducible refine gate_callee (f := 20) rfl ?_); refine goesL_ (some 19) rfl rfl Try.func20 (by kernel_rfl) rfl #[.int .i64 33] rfl (by (try simp only [List.map_toArray, List.map_cons, List.map_nil]); first | done | rfl | (simp only [List.length_drop, List.length_take]; rfl)) ?_; (with_reducible refine (place_Leaves.calls 33 t114 _ A4.out).mono ?_); rintro e w' ⟨rfl, ⟨nd, rfl⟩⟩; refine ⟨_, rfl, ?_⟩) | (go_at_call 22; (with_reducible refine (place_Tops.calls 33 t115 _ A6.out).mono ?_); rintro e w' ⟨rfl, ⟨nd, rfl⟩⟩) | (go_at_call 24; (with_reducible refine (place_Cells.calls 33 t116 _ A8.out).mono ?_); rintro e w' ⟨rfl, ⟨nd, rfl⟩⟩) | (go_at_call 26; (with_reducible refine (place_Offset.calls 1 8 t117 _ A12.out).mono ?_); rintro e w' ⟨rfl, ⟨nd, rfl⟩⟩) | (go_at_call 27; (with_reducible refine (place_Width.calls 33 1 t118 _ A14.out).mono ?_); rintro e w25 ⟨rfl, hb⟩; have n0_ := Aside0.mk (below_step (by repeat (first | (with_reducible first | exact HB.out | apply below_alloc | apply pw_below_drewN | apply below_drew1) | exact HB.out)) hb); clear HB; have HB := n0_; clear n0_; (try clear hb); (try clear hb2); (try clear hk); (try clear hi)) | (go_at_call 27; (with_reducible refine (place_Width.calls 33 0 t119 _ A16.out).mono ?_); rintro e w26 ⟨rfl, hb⟩; have n0_ := Aside0.mk (below_step (by repeat (first | (with_reducible first | exact HB.out | apply below_alloc | apply pw_below_drewN | apply below_drew1) | exact HB.out)) hb); clear HB; have HB := n0_; clear n0_; (try clear hb); (try clear hb2); (try clear hk); (try clear hi)) | (go_at_call 20; (with_reducible refine (place_Leaves.calls 65536 t120 _ A22.out).mono ?_); rintro e w' ⟨rfl, ⟨nd, rfl⟩⟩) | (go_at_call 22; (with_reducible refine (place_Tops.calls 65536 t121 _ A24.out).mono ?_); rintro e w' ⟨rfl, ⟨nd, rfl⟩⟩))
                            go_ret
                            exact ⟨by first | rfl | (simp [errW_none, errW_some] <;> rfl) | (simp [*, errW_none, errW_some] <;> rfl), by repeat (first | (with_reducible first | exact HB.out | apply below_alloc | apply pw_below_drewN | apply below_drew1) | exact HB.out)⟩
                          · rw [if_neg c23] at H
                            have c23b0 : (t120 == 2048) = false := beq_eq_false_iff_ne.mpr c23
                            have c23b1 : (t120 != 2048) = true := bne_iff_ne.mpr c23
                            obtain rfl := Option.some.inj H
                            go_enter Try.func14, Try.ntmps14
                            go_wp2_with (first | ((with_reducible refine gate_callee (f := 15) rfl ?_); refine goesL_ (some 8) rfl rfl Try.func15 (by kernel_rfl) rfl #[.int .i64 40] rfl (by (try simp only [List.map_toArray, List.map_cons, List.map_nil]); first | done | rfl | (simp only [List.length_drop, List.length_take]; rfl)) ?_; (with_reducible refine (place_Leaf.calls 40 t108 t109 _ A1.out).mono ?_); rintro e w' ⟨rfl, ⟨nd, rfl⟩⟩; refine ⟨_, rfl, ?_⟩) | ((with_reducible refine gate_callee (f := 16) rfl ?_); refine goesL_ (some 12) rfl rfl Try.func16 (by kernel_rfl) rfl #[.int .i64 33, .int .i64 1] rfl (by (try simp only [List.map_toArray, List.map_cons, List.map_nil]); first | done | rfl | (simp only [List.length_drop, List.length_take]; rfl)) ?_; (with_reducible refine (place_Top.calls 33 1 t110 t111 _ A2.out).mono ?_); rintro e w' ⟨rfl, ⟨nd, rfl⟩⟩; refine ⟨_, rfl, ?_⟩) | ((with_reducible refine gate_callee (f := 18) rfl ?_); refine goesL_ (some 16) rfl rfl Try.func18 (by kernel_rfl) rfl #[.int .i64 33, .int .i64 1] rfl (by (try simp only [List.map_toArray, List.map_cons, List.map_nil]); first | done | rfl | (simp only [List.length_drop, List.length_take]; rfl)) ?_; (with_reducible refine (place_Root.calls 33 1 t112 t113 _ A3.out).mono ?_); rintro e w' ⟨rfl, ⟨nd, rfl⟩⟩; refine ⟨_, rfl, ?_⟩) | ((with_reducible refine gate_callee (f := 20) rfl ?_); refine goesL_ (some 19) rfl rfl Try.func20 (by kernel_rfl) rfl #[.int .i64 33] rfl (by (try simp only [List.map_toArray, List.map_cons, List.map_nil]); first | done | rfl | (simp only [List.length_drop, List.length_take]; rfl)) ?_; (with_reducible refine (place_Leaves.calls 33 t114 _ A4.out).mono ?_); rintro e w' ⟨rfl, ⟨nd, rfl⟩⟩; refine ⟨_, rfl, ?_⟩) | (go_at_call 22; (with_reducible refine (place_Tops.calls 33 t115 _ A6.out).mono ?_); rintro e w' ⟨rfl, ⟨nd, rfl⟩⟩) | (go_at_call 24; (with_reducible refine (place_Cells.calls 33 t116 _ A8.out).mono ?_); rintro e w' ⟨rfl, ⟨nd, rfl⟩⟩) | (go_at_call 26; (with_reducible refine (place_Offset.calls 1 8 t117 _ A12.out).mono ?_); rintro e w' ⟨rfl, ⟨nd, rfl⟩⟩) | (go_at_call 27; (with_reducible refine (place_Width.calls 33 1 t118 _ A14.out).mono ?_); rintro e w27 ⟨rfl, hb⟩; have n0_ := Aside0.mk (below_step (by repeat (first | (with_reducible first | exact HB.out | apply below_alloc | apply pw_below_drewN | apply below_drew1) | exact HB.out)) hb); clear HB; have HB := n0_; clear n0_; (try clear hb); (try clear hb2); (try clear hk); (try clear hi)) | (go_at_call 27; (with_reducible refine (place_Width.calls 33 0 t119 _ A16.out).mono ?_); rintro e w28 ⟨rfl, hb⟩; have n0_ := Aside0.mk (below_step (by repeat (first | (with_reducible first | exact HB.out | apply below_alloc | apply pw_below_drewN | apply below_drew1) | exact HB.out)) hb); clear HB; have HB := n0_; clear n0_; (try clear hb); (try clear hb2); (try clear hk); (try clear hi)) | (go_at_call 20; (with_reducible refine (place_Leaves.calls 65536 t120 _ A22.out).mono ?_); rintro e w' ⟨rfl, ⟨nd, rfl⟩⟩))
                            go_ret
                            exact ⟨by first | rfl | (simp [errW_none, errW_some] <;> rfl) | (simp [*, errW_none, errW_some] <;> rfl), by repeat (first | (with_reducible first | exact HB.out | apply below_alloc | apply pw_below_drewN | apply below_drew1) | exact HB.out)⟩
                        · rw [if_neg c21] at H
                          have c21b0 : (t113 == 0) = false := beq_eq_false_iff_ne.mpr c21
                          have c21b1 : (t113 != 0) = true := bne_iff_ne.mpr c21
                          obtain rfl := Option.some.inj H
                          go_enter Try.func14, Try.ntmps14
                          go_wp2_with (first | ((with_reducible refine gate_callee (f := 15) rfl ?_); refine goesL_ (some 8) rfl rfl Try.func15 (by kernel_rfl) rfl #[.int .i64 40] rfl (by (try simp only [List.map_toArray, List.map_cons, List.map_nil]); first | done | rfl | (simp only [List.length_drop, List.length_take]; rfl)) ?_; (with_reducible refine (place_Leaf.calls 40 t108 t109 _ A1.out).mono ?_); rintro e w' ⟨rfl, ⟨nd, rfl⟩⟩; refine ⟨_, rfl, ?_⟩) | ((with_reducible refine gate_callee (f := 16) rfl ?_); refine goesL_ (some 12) rfl rfl Try.func16 (by kernel_rfl) rfl #[.int .i64 33, .int .i64 1] rfl (by (try simp only [List.map_toArray, List.map_cons, List.map_nil]); first | done | rfl | (simp only [List.length_drop, List.length_take]; rfl)) ?_; (with_reducible refine (place_Top.calls 33 1 t110 t111 _ A2.out).mono ?_); rintro e w' ⟨rfl, ⟨nd, rfl⟩⟩; refine ⟨_, rfl, ?_⟩) | ((with_reducible refine gate_callee (f := 18) rfl ?_); refine goesL_ (some 16) rfl rfl Try.func18 (by kernel_rfl) rfl #[.int .i64 33, .int .i64 1] rfl (by (try simp only [List.map_toArray, List.map_cons, List.map_nil]); first | done | rfl | (simp only [List.length_drop, List.length_take]; rfl)) ?_; (with_reducible refine (place_Root.calls 33 1 t112 t113 _ A3.out).mono ?_); rintro e w' ⟨rfl, ⟨nd, rfl⟩⟩; refine ⟨_, rfl, ?_⟩) | ((with_reducible refine gate_callee (f := 20) rfl ?_); refine goesL_ (some 19) rfl rfl Try.func20 (by kernel_rfl) rfl #[.int .i64 33] rfl (by (try simp only [List.map_toArray, List.map_cons, List.map_nil]); first | done | rfl | (simp only [List.length_drop, List.length_take]; rfl)) ?_; (with_reducible refine (place_Leaves.calls 33 t114 _ A4.out).mono ?_); rintro e w' ⟨rfl, ⟨nd, rfl⟩⟩; refine ⟨_, rfl, ?_⟩) | (go_at_call 22; (with_reducible refine (place_Tops.calls 33 t115 _ A6.out).mono ?_); rintro e w' ⟨rfl, ⟨nd, rfl⟩⟩) | (go_at_call 24; (with_reducible refine (place_Cells.calls 33 t116 _ A8.out).mono ?_); rintro e w' ⟨rfl, ⟨nd, rfl⟩⟩) | (go_at_call 26; (with_reducible refine (place_Offset.calls 1 8 t117 _ A12.out).mono ?_); rintro e w' ⟨rfl, ⟨nd, rfl⟩⟩) | (go_at_call 27; (with_reducible refine (place_Width.calls 33 1 t118 _ A14.out).mono ?_); rintro e w29 ⟨rfl, hb⟩; have n0_ := Aside0.mk (below_step (by repeat (first | (with_reducible first | exact HB.out | apply below_alloc | apply pw_below_drewN | apply below_drew1) | exact HB.out)) hb); clear HB; have HB := n0_; clear n0_; (try clear hb); (try clear hb2); (try clear hk); (try clear hi)) | (go_at_call 27; (with_reducible refine (place_Width.calls 33 0 t119 _ A16.out).mono ?_); rintro e w30 ⟨rfl, hb⟩; have n0_ := Aside0.mk (below_step (by repeat (first | (with_reducible first | exact HB.out | apply below_alloc | apply pw_below_drewN | apply below_drew1) | exact HB.out)) hb); clear HB; have HB := n0_; clear n0_; (try clear hb); (try clear hb2); (try clear hk); (try clear hi)))
                          go_ret
                          exact ⟨by first | rfl | (simp [errW_none, errW_some] <;> rfl) | (simp [*, errW_none, errW_some] <;> rfl), by repeat (first | (with_reducible first | exact HB.out | apply below_alloc | apply pw_below_drewN | apply below_drew1) | exact HB.out)⟩
                      · rw [if_neg c20] at H
                        have c20b0 : (t112 == 3) = false := beq_eq_false_iff_ne.mpr c20
                        have c20b1 : (t112 != 3) = true := bne_iff_ne.mpr c20
                        obtain rfl := Option.some.inj H
                        go_enter Try.func14, Try.ntmps14
                        go_wp2_with (first | ((with_reducible refine gate_callee (f := 15) rfl ?_); refine goesL_ (some 8) rfl rfl Try.func15 (by kernel_rfl) rfl #[.int .i64 40] rfl (by (try simp only [List.map_toArray, List.map_cons, List.map_nil]); first | done | rfl | (simp only [List.length_drop, List.length_take]; rfl)) ?_; (with_reducible refine (place_Leaf.calls 40 t108 t109 _ A1.out).mono ?_); rintro e w' ⟨rfl, ⟨nd, rfl⟩⟩; refine ⟨_, rfl, ?_⟩) | ((with_reducible refine gate_callee (f := 16) rfl ?_); refine goesL_ (some 12) rfl rfl Try.func16 (by kernel_rfl) rfl #[.int .i64 33, .int .i64 1] rfl (by (try simp only [List.map_toArray, List.map_cons, List.map_nil]); first | done | rfl | (simp only [List.length_drop, List.length_take]; rfl)) ?_; (with_reducible refine (place_Top.calls 33 1 t110 t111 _ A2.out).mono ?_); rintro e w' ⟨rfl, ⟨nd, rfl⟩⟩; refine ⟨_, rfl, ?_⟩) | ((with_reducible refine gate_callee (f := 18) rfl ?_); refine goesL_ (some 16) rfl rfl Try.func18 (by kernel_rfl) rfl #[.int .i64 33, .int .i64 1] rfl (by (try simp only [List.map_toArray, List.map_cons, List.map_nil]); first | done | rfl | (simp only [List.length_drop, List.length_take]; rfl)) ?_; (with_reducible refine (place_Root.calls 33 1 t112 t113 _ A3.out).mono ?_); rintro e w' ⟨rfl, ⟨nd, rfl⟩⟩; refine ⟨_, rfl, ?_⟩) | ((with_reducible refine gate_callee (f := 20) rfl ?_); refine goesL_ (some 19) rfl rfl Try.func20 (by kernel_rfl) rfl #[.int .i64 33] rfl (by (try simp only [List.map_toArray, List.map_cons, List.map_nil]); first | done | rfl | (simp only [List.length_drop, List.length_take]; rfl)) ?_; (with_reducible refine (place_Leaves.calls 33 t114 _ A4.out).mono ?_); rintro e w' ⟨rfl, ⟨nd, rfl⟩⟩; refine ⟨_, rfl, ?_⟩) | (go_at_call 22; (with_reducible refine (place_Tops.calls 33 t115 _ A6.out).mono ?_); rintro e w' ⟨rfl, ⟨nd, rfl⟩⟩) | (go_at_call 24; (with_reducible refine (place_Cells.calls 33 t116 _ A8.out).mono ?_); rintro e w' ⟨rfl, ⟨nd, rfl⟩⟩) | (go_at_call 26; (with_reducible refine (place_Offset.calls 1 8 t117 _ A12.out).mono ?_); rintro e w' ⟨rfl, ⟨nd, rfl⟩⟩) | (go_at_call 27; (with_reducible refine (place_Width.calls 33 1 t118 _ A14.out).mono ?_); rintro e w31 ⟨rfl, hb⟩; have n0_ := Aside0.mk (below_step (by repeat (first | (with_reducible first | exact HB.out | apply below_alloc | apply pw_below_drewN | apply below_drew1) | exact HB.out)) hb); clear HB; have HB := n0_; clear n0_; (try clear hb); (try clear hb2); (try clear hk); (try clear hi)) | (go_at_call 27; (with_reducible refine (place_Width.calls 33 0 t119 _ A16.out).mono ?_); rintro e w32 ⟨rfl, hb⟩; have n0_ := Aside0.mk (below_step (by repeat (first | (with_reducible first | exact HB.out | apply below_alloc | apply pw_below_drewN | apply below_drew1) | exact HB.out)) hb); clear HB; have HB := n0_; clear n0_; (try clear hb); (try clear hb2); (try clear hk); (try clear hi)))
                        go_ret
                        exact ⟨by first | rfl | (simp [errW_none, errW_some] <;> rfl) | (simp [*, errW_none, errW_some] <;> rfl), by repeat (first | (with_reducible first | exact HB.out | apply below_alloc | apply pw_below_drewN | apply below_drew1) | exact HB.out)⟩
                    · rw [if_neg c19] at H
                      have c19b0 : (t111 == 1) = false := beq_eq_false_iff_ne.mpr c19
                      have c19b1 : (t111 != 1) = true := bne_iff_ne.mpr c19
                      obtain rfl := Option.some.inj H
                      go_enter Try.func14, Try.ntmps14
                      go_wp2_with (first | ((with_reducible refine gate_callee (f := 15) rfl ?_); refine goesL_ (some 8) rfl rfl Try.func15 (by kernel_rfl) rfl #[.int .i64 40] rfl (by (try simp only [List.map_toArray, List.map_cons, List.map_nil]); first | done | rfl | (simp only [List.length_drop, List.length_take]; rfl)) ?_; (with_reducible refine (place_Leaf.calls 40 t108 t109 _ A1.out).mono ?_); rintro e w' ⟨rfl, ⟨nd, rfl⟩⟩; refine ⟨_, rfl, ?_⟩) | ((with_reducible refine gate_callee (f := 16) rfl ?_); refine goesL_ (some 12) rfl rfl Try.func16 (by kernel_rfl) rfl #[.int .i64 33, .int .i64 1] rfl (by (try simp only [List.map_toArray, List.map_cons, List.map_nil]); first | done | rfl | (simp only [List.length_drop, List.length_take]; rfl)) ?_; (with_reducible refine (place_Top.calls 33 1 t110 t111 _ A2.out).mono ?_); rintro e w' ⟨rfl, ⟨nd, rfl⟩⟩; refine ⟨_, rfl, ?_⟩) | ((with_reducible refine gate_callee (f := 18) rfl ?_); refine goesL_ (some 16) rfl rfl Try.func18 (by kernel_rfl) rfl #[.int .i64 33, .int .i64 1] rfl (by (try simp only [List.map_toArray, List.map_cons, List.map_nil]); first | done | rfl | (simp only [List.length_drop, List.length_take]; rfl)) ?_; (with_reducible refine (place_Root.calls 33 1 t112 t113 _ A3.out).mono ?_); rintro e w' ⟨rfl, ⟨nd, rfl⟩⟩; refine ⟨_, rfl, ?_⟩) | ((with_reducible refine gate_callee (f := 20) rfl ?_); refine goesL_ (some 19) rfl rfl Try.func20 (by kernel_rfl) rfl #[.int .i64 33] rfl (by (try simp only [List.map_toArray, List.map_cons, List.map_nil]); first | done | rfl | (simp only [List.length_drop, List.length_take]; rfl)) ?_; (with_reducible refine (place_Leaves.calls 33 t114 _ A4.out).mono ?_); rintro e w' ⟨rfl, ⟨nd, rfl⟩⟩; refine ⟨_, rfl, ?_⟩) | (go_at_call 22; (with_reducible refine (place_Tops.calls 33 t115 _ A6.out).mono ?_); rintro e w' ⟨rfl, ⟨nd, rfl⟩⟩) | (go_at_call 24; (with_reducible refine (place_Cells.calls 33 t116 _ A8.out).mono ?_); rintro e w' ⟨rfl, ⟨nd, rfl⟩⟩) | (go_at_call 26; (with_reducible refine (place_Offset.calls 1 8 t117 _ A12.out).mono ?_); rintro e w' ⟨rfl, ⟨nd, rfl⟩⟩) | (go_at_call 27; (with_reducible refine (place_Width.calls 33 1 t118 _ A14.out).mono ?_); rintro e w33 ⟨rfl, hb⟩; have n0_ := Aside0.mk (below_step (by repeat (first | (with_reducible first | exact HB.out | apply below_alloc | apply pw_below_drewN | apply below_drew1) | exact HB.out)) hb); clear HB; have HB := n0_; clear n0_; (try clear hb); (try clear hb2); (try clear hk); (try clear hi)) | (go_at_call 27; (with_reducible refine (place_Width.calls 33 0 t119 _ A16.out).mono ?_); rintro e w34 ⟨rfl, hb⟩; have n0_ := Aside0.mk (below_step (by repeat (first | (with_reducible first | exact HB.out | apply below_alloc | apply pw_below_drewN | apply below_drew1) | exact HB.out)) hb); clear HB; have HB := n0_; clear n0_; (try clear hb); (try clear hb2); (try clear hk); (try clear hi)))
                      go_ret
                      exact ⟨by first | rfl | (simp [errW_none, errW_some] <;> rfl) | (simp [*, errW_none, errW_some] <;> rfl), by repeat (first | (with_reducible first | exact HB.out | apply below_alloc | apply pw_below_drewN | apply below_drew1) | exact HB.out)⟩
                  · rw [if_neg c18] at H
                    have c18b0 : (t110 == 2) = false := beq_eq_false_iff_ne.mpr c18
                    have c18b1 : (t110 != 2) = true := bne_iff_ne.mpr c18
                    obtain rfl := Option.some.inj H
                    go_enter Try.func14, Try.ntmps14
                    go_wp2_with (first | ((with_reducible refine gate_callee (f := 15) rfl ?_); refine goesL_ (some 8) rfl rfl Try.func15 (by kernel_rfl) rfl #[.int .i64 40] rfl (by (try simp only [List.map_toArray, List.map_cons, List.map_nil]); first | done | rfl | (simp only [List.length_drop, List.length_take]; rfl)) ?_; (with_reducible refine (place_Leaf.calls 40 t108 t109 _ A1.out).mono ?_); rintro e w' ⟨rfl, ⟨nd, rfl⟩⟩; refine ⟨_, rfl, ?_⟩) | ((with_reducible refine gate_callee (f := 16) rfl ?_); refine goesL_ (some 12) rfl rfl Try.func16 (by kernel_rfl) rfl #[.int .i64 33, .int .i64 1] rfl (by (try simp only [List.map_toArray, List.map_cons, List.map_nil]); first | done | rfl | (simp only [List.length_drop, List.length_take]; rfl)) ?_; (with_reducible refine (place_Top.calls 33 1 t110 t111 _ A2.out).mono ?_); rintro e w' ⟨rfl, ⟨nd, rfl⟩⟩; refine ⟨_, rfl, ?_⟩) | ((with_reducible refine gate_callee (f := 18) rfl ?_); refine goesL_ (some 16) rfl rfl Try.func18 (by kernel_rfl) rfl #[.int .i64 33, .int .i64 1] rfl (by (try simp only [List.map_toArray, List.map_cons, List.map_nil]); first | done | rfl | (simp only [List.length_drop, List.length_take]; rfl)) ?_; (with_reducible refine (place_Root.calls 33 1 t112 t113 _ A3.out).mono ?_); rintro e w' ⟨rfl, ⟨nd, rfl⟩⟩; refine ⟨_, rfl, ?_⟩) | ((with_reducible refine gate_callee (f := 20) rfl ?_); refine goesL_ (some 19) rfl rfl Try.func20 (by kernel_rfl) rfl #[.int .i64 33] rfl (by (try simp only [List.map_toArray, List.map_cons, List.map_nil]); first | done | rfl | (simp only [List.length_drop, List.length_take]; rfl)) ?_; (with_reducible refine (place_Leaves.calls 33 t114 _ A4.out).mono ?_); rintro e w' ⟨rfl, ⟨nd, rfl⟩⟩; refine ⟨_, rfl, ?_⟩) | (go_at_call 22; (with_reducible refine (place_Tops.calls 33 t115 _ A6.out).mono ?_); rintro e w' ⟨rfl, ⟨nd, rfl⟩⟩) | (go_at_call 24; (with_reducible refine (place_Cells.calls 33 t116 _ A8.out).mono ?_); rintro e w' ⟨rfl, ⟨nd, rfl⟩⟩) | (go_at_call 26; (with_reducible refine (place_Offset.calls 1 8 t117 _ A12.out).mono ?_); rintro e w' ⟨rfl, ⟨nd, rfl⟩⟩) | (go_at_call 27; (with_reducible refine (place_Width.calls 33 1 t118 _ A14.out).mono ?_); rintro e w35 ⟨rfl, hb⟩; have n0_ := Aside0.mk (below_step (by repeat (first | (with_reducible first | exact HB.out | apply below_alloc | apply pw_below_drewN | apply below_drew1) | exact HB.out)) hb); clear HB; have HB := n0_; clear n0_; (try clear hb); (try clear hb2); (try clear hk); (try clear hi)) | (go_at_call 27; (with_reducible refine (place_Width.calls 33 0 t119 _ A16.out).mono ?_); rintro e w36 ⟨rfl, hb⟩; have n0_ := Aside0.mk (below_step (by repeat (first | (with_reducible first | exact HB.out | apply below_alloc | apply pw_below_drewN | apply below_drew1) | exact HB.out)) hb); clear HB; have HB := n0_; clear n0_; (try clear hb); (try clear hb2); (try clear hk); (try clear hi)))
                    go_ret
                    exact ⟨by first | rfl | (simp [errW_none, errW_some] <;> rfl) | (simp [*, errW_none, errW_some] <;> rfl), by repeat (first | (with_reducible first | exact HB.out | apply below_alloc | apply pw_below_drewN | apply below_drew1) | exact HB.out)⟩
                · rw [if_neg c17] at H
                  have c17b0 : (t119 == 32) = false := beq_eq_false_iff_ne.mpr c17
                  have c17b1 : (t119 != 32) = true := bne_iff_ne.mpr c17
                  obtain rfl := Option.some.inj H
                  go_enter Try.func14, Try.ntmps14
                  go_wp2_with (first | ((with_reducible refine gate_callee (f := 15) rfl ?_); refine goesL_ (some 8) rfl rfl Try.func15 (by kernel_rfl) rfl #[.int .i64 40] rfl (by (try simp only [List.map_toArray, List.map_cons, List.map_nil]); first | done | rfl | (simp only [List.length_drop, List.length_take]; rfl)) ?_; (with_reducible refine (place_Leaf.calls 40 t108 t109 _ A1.out).mono ?_); rintro e w' ⟨rfl, ⟨nd, rfl⟩⟩; refine ⟨_, rfl, ?_⟩) | ((with_reducible refine gate_callee (f := 16) rfl ?_); refine goesL_ (some 12) rfl rfl Try.func16 (by kernel_rfl) rfl #[.int .i64 33, .int .i64 1] rfl (by (try simp only [List.map_toArray, List.map_cons, List.map_nil]); first | done | rfl | (simp only [List.length_drop, List.length_take]; rfl)) ?_; (with_reducible refine (place_Top.calls 33 1 t110 t111 _ A2.out).mono ?_); rintro e w' ⟨rfl, ⟨nd, rfl⟩⟩; refine ⟨_, rfl, ?_⟩) | ((with_reducible refine gate_callee (f := 18) rfl ?_); refine goesL_ (some 16) rfl rfl Try.func18 (by kernel_rfl) rfl #[.int .i64 33, .int .i64 1] rfl (by (try simp only [List.map_toArray, List.map_cons, List.map_nil]); first | done | rfl | (simp only [List.length_drop, List.length_take]; rfl)) ?_; (with_reducible refine (place_Root.calls 33 1 t112 t113 _ A3.out).mono ?_); rintro e w' ⟨rfl, ⟨nd, rfl⟩⟩; refine ⟨_, rfl, ?_⟩) | ((with_reducible refine gate_callee (f := 20) rfl ?_); refine goesL_ (some 19) rfl rfl Try.func20 (by kernel_rfl) rfl #[.int .i64 33] rfl (by (try simp only [List.map_toArray, List.map_cons, List.map_nil]); first | done | rfl | (simp only [List.length_drop, List.length_take]; rfl)) ?_; (with_reducible refine (place_Leaves.calls 33 t114 _ A4.out).mono ?_); rintro e w' ⟨rfl, ⟨nd, rfl⟩⟩; refine ⟨_, rfl, ?_⟩) | (go_at_call 22; (with_reducible refine (place_Tops.calls 33 t115 _ A6.out).mono ?_); rintro e w' ⟨rfl, ⟨nd, rfl⟩⟩) | (go_at_call 24; (with_reducible refine (place_Cells.calls 33 t116 _ A8.out).mono ?_); rintro e w' ⟨rfl, ⟨nd, rfl⟩⟩) | (go_at_call 26; (with_reducible refine (place_Offset.calls 1 8 t117 _ A12.out).mono ?_); rintro e w' ⟨rfl, ⟨nd, rfl⟩⟩) | (go_at_call 27; (with_reducible refine (place_Width.calls 33 1 t118 _ A14.out).mono ?_); rintro e w37 ⟨rfl, hb⟩; have n0_ := Aside0.mk (below_step (by repeat (first | (with_reducible first | exact HB.out | apply below_alloc | apply pw_below_drewN | apply below_drew1) | exact HB.out)) hb); clear HB; have HB := n0_; clear n0_; (try clear hb); (try clear hb2); (try clear hk); (try clear hi)) | (go_at_call 27; (with_reducible refine (place_Width.calls 33 0 t119 _ A16.out).mono ?_); rintro e w38 ⟨rfl, hb⟩; have n0_ := Aside0.mk (below_step (by repeat (first | (with_reducible first | exact HB.out | apply below_alloc | apply pw_below_drewN | apply below_drew1) | exact HB.out)) hb); clear HB; have HB := n0_; clear n0_; (try clear hb); (try clear hb2); (try clear hk); (try clear hi)))
                  go_ret
                  exact ⟨by first | rfl | (simp [errW_none, errW_some] <;> rfl) | (simp [*, errW_none, errW_some] <;> rfl), by repeat (first | (with_reducible first | exact HB.out | apply below_alloc | apply pw_below_drewN | apply below_drew1) | exact HB.out)⟩
              · rw [if_neg c15] at H
                have c15b0 : (t118 == 1) = false := beq_eq_false_iff_ne.mpr c15
                have c15b1 : (t118 != 1) = true := bne_iff_ne.mpr c15
                obtain rfl := Option.some.inj H
                go_enter Try.func14, Try.ntmps14
                go_wp2_with (first | ((with_reducible refine gate_callee (f := 15) rfl ?_); refine goesL_ (some 8) rfl rfl Try.func15 (by kernel_rfl) rfl #[.int .i64 40] rfl (by (try simp only [List.map_toArray, List.map_cons, List.map_nil]); first | done | rfl | (simp only [List.length_drop, List.length_take]; rfl)) ?_; (with_reducible refine (place_Leaf.calls 40 t108 t109 _ A1.out).mono ?_); rintro e w' ⟨rfl, ⟨nd, rfl⟩⟩; refine ⟨_, rfl, ?_⟩) | ((with_reducible refine gate_callee (f := 16) rfl ?_); refine goesL_ (some 12) rfl rfl Try.func16 (by kernel_rfl) rfl #[.int .i64 33, .int .i64 1] rfl (by (try simp only [List.map_toArray, List.map_cons, List.map_nil]); first | done | rfl | (simp only [List.length_drop, List.length_take]; rfl)) ?_; (with_reducible refine (place_Top.calls 33 1 t110 t111 _ A2.out).mono ?_); rintro e w' ⟨rfl, ⟨nd, rfl⟩⟩; refine ⟨_, rfl, ?_⟩) | ((with_reducible refine gate_callee (f := 18) rfl ?_); refine goesL_ (some 16) rfl rfl Try.func18 (by kernel_rfl) rfl #[.int .i64 33, .int .i64 1] rfl (by (try simp only [List.map_toArray, List.map_cons, List.map_nil]); first | done | rfl | (simp only [List.length_drop, List.length_take]; rfl)) ?_; (with_reducible refine (place_Root.calls 33 1 t112 t113 _ A3.out).mono ?_); rintro e w' ⟨rfl, ⟨nd, rfl⟩⟩; refine ⟨_, rfl, ?_⟩) | ((with_reducible refine gate_callee (f := 20) rfl ?_); refine goesL_ (some 19) rfl rfl Try.func20 (by kernel_rfl) rfl #[.int .i64 33] rfl (by (try simp only [List.map_toArray, List.map_cons, List.map_nil]); first | done | rfl | (simp only [List.length_drop, List.length_take]; rfl)) ?_; (with_reducible refine (place_Leaves.calls 33 t114 _ A4.out).mono ?_); rintro e w' ⟨rfl, ⟨nd, rfl⟩⟩; refine ⟨_, rfl, ?_⟩) | (go_at_call 22; (with_reducible refine (place_Tops.calls 33 t115 _ A6.out).mono ?_); rintro e w' ⟨rfl, ⟨nd, rfl⟩⟩) | (go_at_call 24; (with_reducible refine (place_Cells.calls 33 t116 _ A8.out).mono ?_); rintro e w' ⟨rfl, ⟨nd, rfl⟩⟩) | (go_at_call 26; (with_reducible refine (place_Offset.calls 1 8 t117 _ A12.out).mono ?_); rintro e w' ⟨rfl, ⟨nd, rfl⟩⟩) | (go_at_call 27; (with_reducible refine (place_Width.calls 33 1 t118 _ A14.out).mono ?_); rintro e w39 ⟨rfl, hb⟩; have n0_ := Aside0.mk (below_step (by repeat (first | (with_reducible first | exact HB.out | apply below_alloc | apply pw_below_drewN | apply below_drew1) | exact HB.out)) hb); clear HB; have HB := n0_; clear n0_; (try clear hb); (try clear hb2); (try clear hk); (try clear hi)))
                go_ret
                exact ⟨by first | rfl | (simp [errW_none, errW_some] <;> rfl) | (simp [*, errW_none, errW_some] <;> rfl), by repeat (first | (with_reducible first | exact HB.out | apply below_alloc | apply pw_below_drewN | apply below_drew1) | exact HB.out)⟩
            · rw [if_neg c13] at H
              have c13b0 : (t117 == 40) = false := beq_eq_false_iff_ne.mpr c13
              have c13b1 : (t117 != 40) = true := bne_iff_ne.mpr c13
              obtain rfl := Option.some.inj H
              go_enter Try.func14, Try.ntmps14
              go_wp2_with (first | ((with_reducible refine gate_callee (f := 15) rfl ?_); refine goesL_ (some 8) rfl rfl Try.func15 (by kernel_rfl) rfl #[.int .i64 40] rfl (by (try simp only [List.map_toArray, List.map_cons, List.map_nil]); first | done | rfl | (simp only [List.length_drop, List.length_take]; rfl)) ?_; (with_reducible refine (place_Leaf.calls 40 t108 t109 _ A1.out).mono ?_); rintro e w' ⟨rfl, ⟨nd, rfl⟩⟩; refine ⟨_, rfl, ?_⟩) | ((with_reducible refine gate_callee (f := 16) rfl ?_); refine goesL_ (some 12) rfl rfl Try.func16 (by kernel_rfl) rfl #[.int .i64 33, .int .i64 1] rfl (by (try simp only [List.map_toArray, List.map_cons, List.map_nil]); first | done | rfl | (simp only [List.length_drop, List.length_take]; rfl)) ?_; (with_reducible refine (place_Top.calls 33 1 t110 t111 _ A2.out).mono ?_); rintro e w' ⟨rfl, ⟨nd, rfl⟩⟩; refine ⟨_, rfl, ?_⟩) | ((with_reducible refine gate_callee (f := 18) rfl ?_); refine goesL_ (some 16) rfl rfl Try.func18 (by kernel_rfl) rfl #[.int .i64 33, .int .i64 1] rfl (by (try simp only [List.map_toArray, List.map_cons, List.map_nil]); first | done | rfl | (simp only [List.length_drop, List.length_take]; rfl)) ?_; (with_reducible refine (place_Root.calls 33 1 t112 t113 _ A3.out).mono ?_); rintro e w' ⟨rfl, ⟨nd, rfl⟩⟩; refine ⟨_, rfl, ?_⟩) | ((with_reducible refine gate_callee (f := 20) rfl ?_); refine goesL_ (some 19) rfl rfl Try.func20 (by kernel_rfl) rfl #[.int .i64 33] rfl (by (try simp only [List.map_toArray, List.map_cons, List.map_nil]); first | done | rfl | (simp only [List.length_drop, List.length_take]; rfl)) ?_; (with_reducible refine (place_Leaves.calls 33 t114 _ A4.out).mono ?_); rintro e w' ⟨rfl, ⟨nd, rfl⟩⟩; refine ⟨_, rfl, ?_⟩) | (go_at_call 22; (with_reducible refine (place_Tops.calls 33 t115 _ A6.out).mono ?_); rintro e w' ⟨rfl, ⟨nd, rfl⟩⟩) | (go_at_call 24; (with_reducible refine (place_Cells.calls 33 t116 _ A8.out).mono ?_); rintro e w' ⟨rfl, ⟨nd, rfl⟩⟩) | (go_at_call 26; (with_reducible refine (place_Offset.calls 1 8 t117 _ A12.out).mono ?_); rintro e w' ⟨rfl, ⟨nd, rfl⟩⟩))
              go_ret
              exact ⟨by first | rfl | (simp [errW_none, errW_some] <;> rfl) | (simp [*, errW_none, errW_some] <;> rfl), by repeat (first | (with_reducible first | exact HB.out | apply below_alloc | apply pw_below_drewN | apply below_drew1) | exact HB.out)⟩
          · rw [if_neg c11] at H
            have c11b0 : (t109 == 8) = false := beq_eq_false_iff_ne.mpr c11
            have c11b1 : (t109 != 8) = true := bne_iff_ne.mpr c11
            obtain rfl := Option.some.inj H
            go_enter Try.func14, Try.ntmps14
            go_wp2_with (first | ((with_reducible refine gate_callee (f := 15) rfl ?_); refine goesL_ (some 8) rfl rfl Try.func15 (by kernel_rfl) rfl #[.int .i64 40] rfl (by (try simp only [List.map_toArray, List.map_cons, List.map_nil]); first | done | rfl | (simp only [List.length_drop, List.length_take]; rfl)) ?_; (with_reducible refine (place_Leaf.calls 40 t108 t109 _ A1.out).mono ?_); rintro e w' ⟨rfl, ⟨nd, rfl⟩⟩; refine ⟨_, rfl, ?_⟩) | ((with_reducible refine gate_callee (f := 16) rfl ?_); refine goesL_ (some 12) rfl rfl Try.func16 (by kernel_rfl) rfl #[.int .i64 33, .int .i64 1] rfl (by (try simp only [List.map_toArray, List.map_cons, List.map_nil]); first | done | rfl | (simp only [List.length_drop, List.length_take]; rfl)) ?_; (with_reducible refine (place_Top.calls 33 1 t110 t111 _ A2.out).mono ?_); rintro e w' ⟨rfl, ⟨nd, rfl⟩⟩; refine ⟨_, rfl, ?_⟩) | ((with_reducible refine gate_callee (f := 18) rfl ?_); refine goesL_ (some 16) rfl rfl Try.func18 (by kernel_rfl) rfl #[.int .i64 33, .int .i64 1] rfl (by (try simp only [List.map_toArray, List.map_cons, List.map_nil]); first | done | rfl | (simp only [List.length_drop, List.length_take]; rfl)) ?_; (with_reducible refine (place_Root.calls 33 1 t112 t113 _ A3.out).mono ?_); rintro e w' ⟨rfl, ⟨nd, rfl⟩⟩; refine ⟨_, rfl, ?_⟩) | ((with_reducible refine gate_callee (f := 20) rfl ?_); refine goesL_ (some 19) rfl rfl Try.func20 (by kernel_rfl) rfl #[.int .i64 33] rfl (by (try simp only [List.map_toArray, List.map_cons, List.map_nil]); first | done | rfl | (simp only [List.length_drop, List.length_take]; rfl)) ?_; (with_reducible refine (place_Leaves.calls 33 t114 _ A4.out).mono ?_); rintro e w' ⟨rfl, ⟨nd, rfl⟩⟩; refine ⟨_, rfl, ?_⟩) | (go_at_call 22; (with_reducible refine (place_Tops.calls 33 t115 _ A6.out).mono ?_); rintro e w' ⟨rfl, ⟨nd, rfl⟩⟩) | (go_at_call 24; (with_reducible refine (place_Cells.calls 33 t116 _ A8.out).mono ?_); rintro e w' ⟨rfl, ⟨nd, rfl⟩⟩))
            go_ret
            exact ⟨by first | rfl | (simp [errW_none, errW_some] <;> rfl) | (simp [*, errW_none, errW_some] <;> rfl), by repeat (first | (with_reducible first | exact HB.out | apply below_alloc | apply pw_below_drewN | apply below_drew1) | exact HB.out)⟩
        · rw [if_neg c10] at H
          have c10b0 : (t108 == 1) = false := beq_eq_false_iff_ne.mpr c10
          have c10b1 : (t108 != 1) = true := bne_iff_ne.mpr c10
          obtain rfl := Option.some.inj H
          go_enter Try.func14, Try.ntmps14
          go_wp2_with (first | ((with_reducible refine gate_callee (f := 15) rfl ?_); refine goesL_ (some 8) rfl rfl Try.func15 (by kernel_rfl) rfl #[.int .i64 40] rfl (by (try simp only [List.map_toArray, List.map_cons, List.map_nil]); first | done | rfl | (simp only [List.length_drop, List.length_take]; rfl)) ?_; (with_reducible refine (place_Leaf.calls 40 t108 t109 _ A1.out).mono ?_); rintro e w' ⟨rfl, ⟨nd, rfl⟩⟩; refine ⟨_, rfl, ?_⟩) | ((with_reducible refine gate_callee (f := 16) rfl ?_); refine goesL_ (some 12) rfl rfl Try.func16 (by kernel_rfl) rfl #[.int .i64 33, .int .i64 1] rfl (by (try simp only [List.map_toArray, List.map_cons, List.map_nil]); first | done | rfl | (simp only [List.length_drop, List.length_take]; rfl)) ?_; (with_reducible refine (place_Top.calls 33 1 t110 t111 _ A2.out).mono ?_); rintro e w' ⟨rfl, ⟨nd, rfl⟩⟩; refine ⟨_, rfl, ?_⟩) | ((with_reducible refine gate_callee (f := 18) rfl ?_); refine goesL_ (some 16) rfl rfl Try.func18 (by kernel_rfl) rfl #[.int .i64 33, .int .i64 1] rfl (by (try simp only [List.map_toArray, List.map_cons, List.map_nil]); first | done | rfl | (simp only [List.length_drop, List.length_take]; rfl)) ?_; (with_reducible refine (place_Root.calls 33 1 t112 t113 _ A3.out).mono ?_); rintro e w' ⟨rfl, ⟨nd, rfl⟩⟩; refine ⟨_, rfl, ?_⟩) | ((with_reducible refine gate_callee (f := 20) rfl ?_); refine goesL_ (some 19) rfl rfl Try.func20 (by kernel_rfl) rfl #[.int .i64 33] rfl (by (try simp only [List.map_toArray, List.map_cons, List.map_nil]); first | done | rfl | (simp only [List.length_drop, List.length_take]; rfl)) ?_; (with_reducible refine (place_Leaves.calls 33 t114 _ A4.out).mono ?_); rintro e w' ⟨rfl, ⟨nd, rfl⟩⟩; refine ⟨_, rfl, ?_⟩) | (go_at_call 22; (with_reducible refine (place_Tops.calls 33 t115 _ A6.out).mono ?_); rintro e w' ⟨rfl, ⟨nd, rfl⟩⟩) | (go_at_call 24; (with_reducible refine (place_Cells.calls 33 t116 _ A8.out).mono ?_); rintro e w' ⟨rfl, ⟨nd, rfl⟩⟩))
          go_ret
          exact ⟨by first | rfl | (simp [errW_none, errW_some] <;> rfl) | (simp [*, errW_none, errW_some] <;> rfl), by repeat (first | (with_reducible first | exact HB.out | apply below_alloc | apply pw_below_drewN | apply below_drew1) | exact HB.out)⟩
      · rw [if_neg c9] at H
        have c9b0 : (t116 == 4) = false := beq_eq_false_iff_ne.mpr c9
        have c9b1 : (t116 != 4) = true := bne_iff_ne.mpr c9
        obtain rfl := Option.some.inj H
        go_enter Try.func14, Try.ntmps14
        go_wp2_with (first | ((with_reducible refine gate_callee (f := 15) rfl ?_); refine goesL_ (some 8) rfl rfl Try.func15 (by kernel_rfl) rfl #[.int .i64 40] rfl (by (try simp only [List.map_toArray, List.map_cons, List.map_nil]); first | done | rfl | (simp only [List.length_drop, List.length_take]; rfl)) ?_; (with_reducible refine (place_Leaf.calls 40 t108 t109 _ A1.out).mono ?_); rintro e w' ⟨rfl, ⟨nd, rfl⟩⟩; refine ⟨_, rfl, ?_⟩) | ((with_reducible refine gate_callee (f := 16) rfl ?_); refine goesL_ (some 12) rfl rfl Try.func16 (by kernel_rfl) rfl #[.int .i64 33, .int .i64 1] rfl (by (try simp only [List.map_toArray, List.map_cons, List.map_nil]); first | done | rfl | (simp only [List.length_drop, List.length_take]; rfl)) ?_; (with_reducible refine (place_Top.calls 33 1 t110 t111 _ A2.out).mono ?_); rintro e w' ⟨rfl, ⟨nd, rfl⟩⟩; refine ⟨_, rfl, ?_⟩) | ((with_reducible refine gate_callee (f := 18) rfl ?_); refine goesL_ (some 16) rfl rfl Try.func18 (by kernel_rfl) rfl #[.int .i64 33, .int .i64 1] rfl (by (try simp only [List.map_toArray, List.map_cons, List.map_nil]); first | done | rfl | (simp only [List.length_drop, List.length_take]; rfl)) ?_; (with_reducible refine (place_Root.calls 33 1 t112 t113 _ A3.out).mono ?_); rintro e w' ⟨rfl, ⟨nd, rfl⟩⟩; refine ⟨_, rfl, ?_⟩) | ((with_reducible refine gate_callee (f := 20) rfl ?_); refine goesL_ (some 19) rfl rfl Try.func20 (by kernel_rfl) rfl #[.int .i64 33] rfl (by (try simp only [List.map_toArray, List.map_cons, List.map_nil]); first | done | rfl | (simp only [List.length_drop, List.length_take]; rfl)) ?_; (with_reducible refine (place_Leaves.calls 33 t114 _ A4.out).mono ?_); rintro e w' ⟨rfl, ⟨nd, rfl⟩⟩; refine ⟨_, rfl, ?_⟩) | (go_at_call 22; (with_reducible refine (place_Tops.calls 33 t115 _ A6.out).mono ?_); rintro e w' ⟨rfl, ⟨nd, rfl⟩⟩) | (go_at_call 24; (with_reducible refine (place_Cells.calls 33 t116 _ A8.out).mono ?_); rintro e w' ⟨rfl, ⟨nd, rfl⟩⟩))
        go_ret
        exact ⟨by first | rfl | (simp [errW_none, errW_some] <;> rfl) | (simp [*, errW_none, errW_some] <;> rfl), by repeat (first | (with_reducible first | exact HB.out | apply below_alloc | apply pw_below_drewN | apply below_drew1) | exact HB.out)⟩
    · rw [if_neg c7] at H
      have c7b0 : (t115 == 1) = false := beq_eq_false_iff_ne.mpr c7
      have c7b1 : (t115 != 1) = true := bne_iff_ne.mpr c7
      obtain rfl := Option.some.inj H
      go_enter Try.func14, Try.ntmps14
      go_wp2_with (first | ((with_reducible refine gate_callee (f := 15) rfl ?_); refine goesL_ (some 8) rfl rfl Try.func15 (by kernel_rfl) rfl #[.int .i64 40] rfl (by (try simp only [List.map_toArray, List.map_cons, List.map_nil]); first | done | rfl | (simp only [List.length_drop, List.length_take]; rfl)) ?_; (with_reducible refine (place_Leaf.calls 40 t108 t109 _ A1.out).mono ?_); rintro e w' ⟨rfl, ⟨nd, rfl⟩⟩; refine ⟨_, rfl, ?_⟩) | ((with_reducible refine gate_callee (f := 16) rfl ?_); refine goesL_ (some 12) rfl rfl Try.func16 (by kernel_rfl) rfl #[.int .i64 33, .int .i64 1] rfl (by (try simp only [List.map_toArray, List.map_cons, List.map_nil]); first | done | rfl | (simp only [List.length_drop, List.length_take]; rfl)) ?_; (with_reducible refine (place_Top.calls 33 1 t110 t111 _ A2.out).mono ?_); rintro e w' ⟨rfl, ⟨nd, rfl⟩⟩; refine ⟨_, rfl, ?_⟩) | ((with_reducible refine gate_callee (f := 18) rfl ?_); refine goesL_ (some 16) rfl rfl Try.func18 (by kernel_rfl) rfl #[.int .i64 33, .int .i64 1] rfl (by (try simp only [List.map_toArray, List.map_cons, List.map_nil]); first | done | rfl | (simp only [List.length_drop, List.length_take]; rfl)) ?_; (with_reducible refine (place_Root.calls 33 1 t112 t113 _ A3.out).mono ?_); rintro e w' ⟨rfl, ⟨nd, rfl⟩⟩; refine ⟨_, rfl, ?_⟩) | ((with_reducible refine gate_callee (f := 20) rfl ?_); refine goesL_ (some 19) rfl rfl Try.func20 (by kernel_rfl) rfl #[.int .i64 33] rfl (by (try simp only [List.map_toArray, List.map_cons, List.map_nil]); first | done | rfl | (simp only [List.length_drop, List.length_take]; rfl)) ?_; (with_reducible refine (place_Leaves.calls 33 t114 _ A4.out).mono ?_); rintro e w' ⟨rfl, ⟨nd, rfl⟩⟩; refine ⟨_, rfl, ?_⟩) | (go_at_call 22; (with_reducible refine (place_Tops.calls 33 t115 _ A6.out).mono ?_); rintro e w' ⟨rfl, ⟨nd, rfl⟩⟩))
      go_ret
      exact ⟨by first | rfl | (simp [errW_none, errW_some] <;> rfl) | (simp [*, errW_none, errW_some] <;> rfl), by repeat (first | (with_reducible first | exact HB.out | apply below_alloc | apply pw_below_drewN | apply below_drew1) | exact HB.out)⟩
  · rw [if_neg c5] at H
    have c5b0 : (t114 == 2) = false := beq_eq_false_iff_ne.mpr c5
    have c5b1 : (t114 != 2) = true := bne_iff_ne.mpr c5
    obtain rfl := Option.some.inj H
    go_enter Try.func14, Try.ntmps14
    go_wp2_with (first | ((with_reducible refine gate_callee (f := 15) rfl ?_); refine goesL_ (some 8) rfl rfl Try.func15 (by kernel_rfl) rfl #[.int .i64 40] rfl (by (try simp only [List.map_toArray, List.map_cons, List.map_nil]); first | done | rfl | (simp only [List.length_drop, List.length_take]; rfl)) ?_; (with_reducible refine (place_Leaf.calls 40 t108 t109 _ A1.out).mono ?_); rintro e w' ⟨rfl, ⟨nd, rfl⟩⟩; refine ⟨_, rfl, ?_⟩) | ((with_reducible refine gate_callee (f := 16) rfl ?_); refine goesL_ (some 12) rfl rfl Try.func16 (by kernel_rfl) rfl #[.int .i64 33, .int .i64 1] rfl (by (try simp only [List.map_toArray, List.map_cons, List.map_nil]); first | done | rfl | (simp only [List.length_drop, List.length_take]; rfl)) ?_; (with_reducible refine (place_Top.calls 33 1 t110 t111 _ A2.out).mono ?_); rintro e w' ⟨rfl, ⟨nd, rfl⟩⟩; refine ⟨_, rfl, ?_⟩) | ((with_reducible refine gate_callee (f := 18) rfl ?_); refine goesL_ (some 16) rfl rfl Try.func18 (by kernel_rfl) rfl #[.int .i64 33, .int .i64 1] rfl (by (try simp only [List.map_toArray, List.map_cons, List.map_nil]); first | done | rfl | (simp only [List.length_drop, List.length_take]; rfl)) ?_; (with_reducible refine (place_Root.calls 33 1 t112 t113 _ A3.out).mono ?_); rintro e w' ⟨rfl, ⟨nd, rfl⟩⟩; refine ⟨_, rfl, ?_⟩) | ((with_reducible refine gate_callee (f := 20) rfl ?_); refine goesL_ (some 19) rfl rfl Try.func20 (by kernel_rfl) rfl #[.int .i64 33] rfl (by (try simp only [List.map_toArray, List.map_cons, List.map_nil]); first | done | rfl | (simp only [List.length_drop, List.length_take]; rfl)) ?_; (with_reducible refine (place_Leaves.calls 33 t114 _ A4.out).mono ?_); rintro e w' ⟨rfl, ⟨nd, rfl⟩⟩; refine ⟨_, rfl, ?_⟩))
    go_ret
    exact ⟨by first | rfl | (simp [errW_none, errW_some] <;> rfl) | (simp [*, errW_none, errW_some] <;> rfl), by repeat (first | (with_reducible first | exact HB.out | apply below_alloc | apply pw_below_drewN | apply below_drew1) | exact HB.out)⟩

/-! ### lodgerlaw06_PlaceEach: function 4 -/
mutual
def lodgerlaw06_PlaceEach.j0 : Nat → Int → Bool → Option (Bool)
  | 0, _, _ => none
  | k + 1, x7, x79 => if x79 = true then (some false) else (lodgerlaw06_PlaceEach.l0 k x7 0 0)
def lodgerlaw06_PlaceEach.l0 : Nat → Int → Int → Int → Option (Bool)
  | 0, _, _, _ => none
  | k + 1, x7, x14, x15 => (place_Leaves.f x7).bind fun t131 => (if x15 < t131 then ((place_Width.f x7 x15).bind fun t132 => (if t132 < 1 then (some false) else (if t132 > 32 then (some false) else (if t132 < 32 then ((place_Leaves.f x7).bind fun t133 => (if x15 = (wrap64 (t133 - 1)) then (lodgerlaw06_PlaceEach.l0 k x7 (wrap64 (x14 + t132)) (wrap64 (x15 + 1))) else (some false))) else (lodgerlaw06_PlaceEach.l0 k x7 (wrap64 (x14 + t132)) (wrap64 (x15 + 1))))))) else (some (x14 == x7)))
end
def lodgerlaw06_PlaceEach.f (k : Nat) (a0 : Int) (a1 : Int) (a2 : Int) : Option (Bool) := (lodgerlaw06_awake.f).bind fun t122 => (if t122 = true then (if (wrap64 ((wrap64 (a0)) + 1)) = 0 then (none) else ((place_Leaf.f (Int.tmod (wrap64 (a1)) (wrap64 ((wrap64 (a0)) + 1)))).bind fun bt123 => ((place_Leaf.f (Int.tmod (wrap64 (a2)) (wrap64 ((wrap64 (a0)) + 1)))).bind fun bt125 => (if bt123.1 < 0 then (lodgerlaw06_PlaceEach.j0 k (wrap64 ((wrap64 (a0)) + 1)) true) else ((place_Leaves.f (wrap64 ((wrap64 (a0)) + 1))).bind fun t127 => (if bt123.1 ≥ t127 then (lodgerlaw06_PlaceEach.j0 k (wrap64 ((wrap64 (a0)) + 1)) true) else (if bt123.2 < 0 then (lodgerlaw06_PlaceEach.j0 k (wrap64 ((wrap64 (a0)) + 1)) true) else ((place_Width.f (wrap64 ((wrap64 (a0)) + 1)) bt123.1).bind fun t128 => (if bt123.2 ≥ t128 then (lodgerlaw06_PlaceEach.j0 k (wrap64 ((wrap64 (a0)) + 1)) true) else (if bt123.1 = bt125.1 then (if ((bt123.2 == bt125.2) != ((Int.tmod (wrap64 (a1)) (wrap64 ((wrap64 (a0)) + 1))) == (Int.tmod (wrap64 (a2)) (wrap64 ((wrap64 (a0)) + 1))))) = true then (lodgerlaw06_PlaceEach.j0 k (wrap64 ((wrap64 (a0)) + 1)) true) else ((place_Offset.f bt125.1 bt125.2).bind fun t129 => (lodgerlaw06_PlaceEach.j0 k (wrap64 ((wrap64 (a0)) + 1)) (t129 != (Int.tmod (wrap64 (a2)) (wrap64 ((wrap64 (a0)) + 1))))))) else (if (false != ((Int.tmod (wrap64 (a1)) (wrap64 ((wrap64 (a0)) + 1))) == (Int.tmod (wrap64 (a2)) (wrap64 ((wrap64 (a0)) + 1))))) = true then (lodgerlaw06_PlaceEach.j0 k (wrap64 ((wrap64 (a0)) + 1)) true) else ((place_Offset.f bt125.1 bt125.2).bind fun t130 => (lodgerlaw06_PlaceEach.j0 k (wrap64 ((wrap64 (a0)) + 1)) (t130 != (Int.tmod (wrap64 (a2)) (wrap64 ((wrap64 (a0)) + 1))))))))))))))))) else (some false))
theorem lodgerlaw06_PlaceEach.mono_l : ∀ k, (∀ y0 y1, LeO (lodgerlaw06_PlaceEach.j0 k y0 y1) (lodgerlaw06_PlaceEach.j0 (k + 1) y0 y1)) ∧ (∀ y0 y1 y2, LeO (lodgerlaw06_PlaceEach.l0 k y0 y1 y2) (lodgerlaw06_PlaceEach.l0 (k + 1) y0 y1 y2))
  | 0 => ⟨fun _ _ r h => by simp [lodgerlaw06_PlaceEach.j0] at h, fun _ _ _ r h => by simp [lodgerlaw06_PlaceEach.l0] at h⟩
  | k + 1 => by
    obtain ⟨ih0, ih1⟩ := lodgerlaw06_PlaceEach.mono_l k
    refine ⟨?_, ?_⟩
    · intro y0 y1
      unfold lodgerlaw06_PlaceEach.j0
      repeat' first
      | (with_reducible exact ih0 _ _)
      | (with_reducible exact ih1 _ _ _)
      | (with_reducible exact LeO.refl _)
      | (with_reducible exact LeO.none _)
      | (with_reducible refine LeO.ite ?_ ?_)
      | (with_reducible refine LeO.bind ?_ (fun _ => ?_))
      | exact ih0 _ _
      | exact ih1 _ _ _
      | exact LeO.none _
      | refine LeO.ite ?_ ?_
      | refine LeO.bind ?_ (fun _ => ?_)
    · intro y0 y1 y2
      unfold lodgerlaw06_PlaceEach.l0
      repeat' first
      | (with_reducible exact ih0 _ _)
      | (with_reducible exact ih1 _ _ _)
      | (with_reducible exact LeO.refl _)
      | (with_reducible exact LeO.none _)
      | (with_reducible refine LeO.ite ?_ ?_)
      | (with_reducible refine LeO.bind ?_ (fun _ => ?_))
      | exact ih0 _ _
      | exact ih1 _ _ _
      | exact LeO.none _
      | refine LeO.ite ?_ ?_
      | refine LeO.bind ?_ (fun _ => ?_)
theorem lodgerlaw06_PlaceEach.mono : ∀ a0 a1 a2 k, LeO (lodgerlaw06_PlaceEach.f k a0 a1 a2) (lodgerlaw06_PlaceEach.f (k + 1) a0 a1 a2) := by
  intro a0 a1 a2 k
  obtain ⟨ih0, ih1⟩ := lodgerlaw06_PlaceEach.mono_l k
  unfold lodgerlaw06_PlaceEach.f
  repeat' first
      | (with_reducible exact ih0 _ _)
      | (with_reducible exact ih1 _ _ _)
      | (with_reducible exact LeO.refl _)
      | (with_reducible exact LeO.none _)
      | (with_reducible refine LeO.ite ?_ ?_)
      | (with_reducible refine LeO.bind ?_ (fun _ => ?_))
      | exact ih0 _ _
      | exact ih1 _ _ _
      | exact LeO.none _
      | refine LeO.ite ?_ ?_
      | refine LeO.bind ?_ (fun _ => ?_)
set_option maxHeartbeats 8000000 in
set_option maxRecDepth 100000 in
theorem lodgerlaw06_PlaceEach.calls (k : Nat) (a0 : Int) (a1 : Int) (a2 : Int) (r : Bool) (w : World) (h : lodgerlaw06_PlaceEach.f k a0 a1 a2 = some r) :
    Calls Try.prog 4 #[.int .u16 a0, .int .u16 a1, .int .u16 a2] w fun e w' => e = .returned (.bool r) ∧ Below w.heap.size w w' := by
  have HB := Aside0.mk (Below.refl w.heap.size w)
  have H : ((lodgerlaw06_awake.f).bind fun t122 => (if t122 = true then (if (wrap64 ((wrap64 (a0)) + 1)) = 0 then (none) else ((place_Leaf.f (Int.tmod (wrap64 (a1)) (wrap64 ((wrap64 (a0)) + 1)))).bind fun bt123 => ((place_Leaf.f (Int.tmod (wrap64 (a2)) (wrap64 ((wrap64 (a0)) + 1)))).bind fun bt125 => (if bt123.1 < 0 then (lodgerlaw06_PlaceEach.j0 k (wrap64 ((wrap64 (a0)) + 1)) true) else ((place_Leaves.f (wrap64 ((wrap64 (a0)) + 1))).bind fun t127 => (if bt123.1 ≥ t127 then (lodgerlaw06_PlaceEach.j0 k (wrap64 ((wrap64 (a0)) + 1)) true) else (if bt123.2 < 0 then (lodgerlaw06_PlaceEach.j0 k (wrap64 ((wrap64 (a0)) + 1)) true) else ((place_Width.f (wrap64 ((wrap64 (a0)) + 1)) bt123.1).bind fun t128 => (if bt123.2 ≥ t128 then (lodgerlaw06_PlaceEach.j0 k (wrap64 ((wrap64 (a0)) + 1)) true) else (if bt123.1 = bt125.1 then (if ((bt123.2 == bt125.2) != ((Int.tmod (wrap64 (a1)) (wrap64 ((wrap64 (a0)) + 1))) == (Int.tmod (wrap64 (a2)) (wrap64 ((wrap64 (a0)) + 1))))) = true then (lodgerlaw06_PlaceEach.j0 k (wrap64 ((wrap64 (a0)) + 1)) true) else ((place_Offset.f bt125.1 bt125.2).bind fun t129 => (lodgerlaw06_PlaceEach.j0 k (wrap64 ((wrap64 (a0)) + 1)) (t129 != (Int.tmod (wrap64 (a2)) (wrap64 ((wrap64 (a0)) + 1))))))) else (if (false != ((Int.tmod (wrap64 (a1)) (wrap64 ((wrap64 (a0)) + 1))) == (Int.tmod (wrap64 (a2)) (wrap64 ((wrap64 (a0)) + 1))))) = true then (lodgerlaw06_PlaceEach.j0 k (wrap64 ((wrap64 (a0)) + 1)) true) else ((place_Offset.f bt125.1 bt125.2).bind fun t130 => (lodgerlaw06_PlaceEach.j0 k (wrap64 ((wrap64 (a0)) + 1)) (t130 != (Int.tmod (wrap64 (a2)) (wrap64 ((wrap64 (a0)) + 1))))))))))))))))) else (some false))) = some r := h
  clear h
  replace H := Option.bind_eq_some_iff.mp H
  obtain ⟨t122, A40, H⟩ := H
  replace H : (if t122 = true then (if (wrap64 ((wrap64 (a0)) + 1)) = 0 then (none) else ((place_Leaf.f (Int.tmod (wrap64 (a1)) (wrap64 ((wrap64 (a0)) + 1)))).bind fun bt123 => ((place_Leaf.f (Int.tmod (wrap64 (a2)) (wrap64 ((wrap64 (a0)) + 1)))).bind fun bt125 => (if bt123.1 < 0 then (lodgerlaw06_PlaceEach.j0 k (wrap64 ((wrap64 (a0)) + 1)) true) else ((place_Leaves.f (wrap64 ((wrap64 (a0)) + 1))).bind fun t127 => (if bt123.1 ≥ t127 then (lodgerlaw06_PlaceEach.j0 k (wrap64 ((wrap64 (a0)) + 1)) true) else (if bt123.2 < 0 then (lodgerlaw06_PlaceEach.j0 k (wrap64 ((wrap64 (a0)) + 1)) true) else ((place_Width.f (wrap64 ((wrap64 (a0)) + 1)) bt123.1).bind fun t128 => (if bt123.2 ≥ t128 then (lodgerlaw06_PlaceEach.j0 k (wrap64 ((wrap64 (a0)) + 1)) true) else (if bt123.1 = bt125.1 then (if ((bt123.2 == bt125.2) != ((Int.tmod (wrap64 (a1)) (wrap64 ((wrap64 (a0)) + 1))) == (Int.tmod (wrap64 (a2)) (wrap64 ((wrap64 (a0)) + 1))))) = true then (lodgerlaw06_PlaceEach.j0 k (wrap64 ((wrap64 (a0)) + 1)) true) else ((place_Offset.f bt125.1 bt125.2).bind fun t129 => (lodgerlaw06_PlaceEach.j0 k (wrap64 ((wrap64 (a0)) + 1)) (t129 != (Int.tmod (wrap64 (a2)) (wrap64 ((wrap64 (a0)) + 1))))))) else (if (false != ((Int.tmod (wrap64 (a1)) (wrap64 ((wrap64 (a0)) + 1))) == (Int.tmod (wrap64 (a2)) (wrap64 ((wrap64 (a0)) + 1))))) = true then (lodgerlaw06_PlaceEach.j0 k (wrap64 ((wrap64 (a0)) + 1)) true) else ((place_Offset.f bt125.1 bt125.2).bind fun t130 => (lodgerlaw06_PlaceEach.j0 k (wrap64 ((wrap64 (a0)) + 1)) (t130 != (Int.tmod (wrap64 (a2)) (wrap64 ((wrap64 (a0)) + 1))))))))))))))))) else (some false)) = some r := H
  have A4 := Aside0.mk A40
  clear A40
  by_cases c5 : t122 = true
  · subst c5
    have H1 : (if (wrap64 ((wrap64 (a0)) + 1)) = 0 then (none) else ((place_Leaf.f (Int.tmod (wrap64 (a1)) (wrap64 ((wrap64 (a0)) + 1)))).bind fun bt123 => ((place_Leaf.f (Int.tmod (wrap64 (a2)) (wrap64 ((wrap64 (a0)) + 1)))).bind fun bt125 => (if bt123.1 < 0 then (lodgerlaw06_PlaceEach.j0 k (wrap64 ((wrap64 (a0)) + 1)) true) else ((place_Leaves.f (wrap64 ((wrap64 (a0)) + 1))).bind fun t127 => (if bt123.1 ≥ t127 then (lodgerlaw06_PlaceEach.j0 k (wrap64 ((wrap64 (a0)) + 1)) true) else (if bt123.2 < 0 then (lodgerlaw06_PlaceEach.j0 k (wrap64 ((wrap64 (a0)) + 1)) true) else ((place_Width.f (wrap64 ((wrap64 (a0)) + 1)) bt123.1).bind fun t128 => (if bt123.2 ≥ t128 then (lodgerlaw06_PlaceEach.j0 k (wrap64 ((wrap64 (a0)) + 1)) true) else (if bt123.1 = bt125.1 then (if ((bt123.2 == bt125.2) != ((Int.tmod (wrap64 (a1)) (wrap64 ((wrap64 (a0)) + 1))) == (Int.tmod (wrap64 (a2)) (wrap64 ((wrap64 (a0)) + 1))))) = true then (lodgerlaw06_PlaceEach.j0 k (wrap64 ((wrap64 (a0)) + 1)) true) else ((place_Offset.f bt125.1 bt125.2).bind fun t129 => (lodgerlaw06_PlaceEach.j0 k (wrap64 ((wrap64 (a0)) + 1)) (t129 != (Int.tmod (wrap64 (a2)) (wrap64 ((wrap64 (a0)) + 1))))))) else (if (false != ((Int.tmod (wrap64 (a1)) (wrap64 ((wrap64 (a0)) + 1))) == (Int.tmod (wrap64 (a2)) (wrap64 ((wrap64 (a0)) + 1))))) = true then (lodgerlaw06_PlaceEach.j0 k (wrap64 ((wrap64 (a0)) + 1)) true) else ((place_Offset.f bt125.1 bt125.2).bind fun t130 => (lodgerlaw06_PlaceEach.j0 k (wrap64 ((wrap64 (a0)) + 1)) (t130 != (Int.tmod (wrap64 (a2)) (wrap64 ((wrap64 (a0)) + 1))))))))))))))))) = some r := by rw [if_pos rfl] at H; exact H
    clear H
    have H := H1
    clear H1
    by_cases c6 : (wrap64 ((wrap64 (a0)) + 1)) = 0
    · rw [if_pos c6] at H
      exact absurd H (by simp)
    · rw [if_neg c6] at H
      have c6b0 : ((wrap64 ((wrap64 (a0)) + 1)) == 0) = false := beq_eq_false_iff_ne.mpr c6
      have c6b1 : ((wrap64 ((wrap64 (a0)) + 1)) != 0) = true := bne_iff_ne.mpr c6
      replace H := Option.bind_eq_some_iff.mp H
      obtain ⟨⟨t123, t124⟩, A70, H⟩ := H
      replace H : ((place_Leaf.f (Int.tmod (wrap64 (a2)) (wrap64 ((wrap64 (a0)) + 1)))).bind fun bt125 => (if t123 < 0 then (lodgerlaw06_PlaceEach.j0 k (wrap64 ((wrap64 (a0)) + 1)) true) else ((place_Leaves.f (wrap64 ((wrap64 (a0)) + 1))).bind fun t127 => (if t123 ≥ t127 then (lodgerlaw06_PlaceEach.j0 k (wrap64 ((wrap64 (a0)) + 1)) true) else (if t124 < 0 then (lodgerlaw06_PlaceEach.j0 k (wrap64 ((wrap64 (a0)) + 1)) true) else ((place_Width.f (wrap64 ((wrap64 (a0)) + 1)) t123).bind fun t128 => (if t124 ≥ t128 then (lodgerlaw06_PlaceEach.j0 k (wrap64 ((wrap64 (a0)) + 1)) true) else (if t123 = bt125.1 then (if ((t124 == bt125.2) != ((Int.tmod (wrap64 (a1)) (wrap64 ((wrap64 (a0)) + 1))) == (Int.tmod (wrap64 (a2)) (wrap64 ((wrap64 (a0)) + 1))))) = true then (lodgerlaw06_PlaceEach.j0 k (wrap64 ((wrap64 (a0)) + 1)) true) else ((place_Offset.f bt125.1 bt125.2).bind fun t129 => (lodgerlaw06_PlaceEach.j0 k (wrap64 ((wrap64 (a0)) + 1)) (t129 != (Int.tmod (wrap64 (a2)) (wrap64 ((wrap64 (a0)) + 1))))))) else (if (false != ((Int.tmod (wrap64 (a1)) (wrap64 ((wrap64 (a0)) + 1))) == (Int.tmod (wrap64 (a2)) (wrap64 ((wrap64 (a0)) + 1))))) = true then (lodgerlaw06_PlaceEach.j0 k (wrap64 ((wrap64 (a0)) + 1)) true) else ((place_Offset.f bt125.1 bt125.2).bind fun t130 => (lodgerlaw06_PlaceEach.j0 k (wrap64 ((wrap64 (a0)) + 1)) (t130 != (Int.tmod (wrap64 (a2)) (wrap64 ((wrap64 (a0)) + 1))))))))))))))) = some r := H
      have A7 := Aside0.mk A70
      clear A70
      replace H := Option.bind_eq_some_iff.mp H
      obtain ⟨⟨t125, t126⟩, A80, H⟩ := H
      replace H : (if t123 < 0 then (lodgerlaw06_PlaceEach.j0 k (wrap64 ((wrap64 (a0)) + 1)) true) else ((place_Leaves.f (wrap64 ((wrap64 (a0)) + 1))).bind fun t127 => (if t123 ≥ t127 then (lodgerlaw06_PlaceEach.j0 k (wrap64 ((wrap64 (a0)) + 1)) true) else (if t124 < 0 then (lodgerlaw06_PlaceEach.j0 k (wrap64 ((wrap64 (a0)) + 1)) true) else ((place_Width.f (wrap64 ((wrap64 (a0)) + 1)) t123).bind fun t128 => (if t124 ≥ t128 then (lodgerlaw06_PlaceEach.j0 k (wrap64 ((wrap64 (a0)) + 1)) true) else (if t123 = t125 then (if ((t124 == t126) != ((Int.tmod (wrap64 (a1)) (wrap64 ((wrap64 (a0)) + 1))) == (Int.tmod (wrap64 (a2)) (wrap64 ((wrap64 (a0)) + 1))))) = true then (lodgerlaw06_PlaceEach.j0 k (wrap64 ((wrap64 (a0)) + 1)) true) else ((place_Offset.f t125 t126).bind fun t129 => (lodgerlaw06_PlaceEach.j0 k (wrap64 ((wrap64 (a0)) + 1)) (t129 != (Int.tmod (wrap64 (a2)) (wrap64 ((wrap64 (a0)) + 1))))))) else (if (false != ((Int.tmod (wrap64 (a1)) (wrap64 ((wrap64 (a0)) + 1))) == (Int.tmod (wrap64 (a2)) (wrap64 ((wrap64 (a0)) + 1))))) = true then (lodgerlaw06_PlaceEach.j0 k (wrap64 ((wrap64 (a0)) + 1)) true) else ((place_Offset.f t125 t126).bind fun t130 => (lodgerlaw06_PlaceEach.j0 k (wrap64 ((wrap64 (a0)) + 1)) (t130 != (Int.tmod (wrap64 (a2)) (wrap64 ((wrap64 (a0)) + 1)))))))))))))) = some r := H
      have A8 := Aside0.mk A80
      clear A80
      have HC9 := Aside0.mk H
      clear H
      go_enter Try.func4, Try.ntmps4
      go_upto_region 8 with (first | ((with_reducible refine gate_callee (f := 14) rfl ?_); refine goesL_ (some 17) rfl rfl Try.func14 (by kernel_rfl) rfl #[] rfl (by (try simp only [List.map_toArray, List.map_cons, List.map_nil]); first | done | rfl | (simp only [List.length_drop, List.length_take]; rfl)) ?_; (with_reducible refine (lodgerlaw06_awake.calls  true _ A4.out).mono ?_); rintro e w10 ⟨rfl, hb⟩; refine ⟨_, rfl, ?_⟩; have n0_ := Aside0.mk (below_step (by repeat (first | (with_reducible first | exact HB.out | apply below_alloc | apply pw_below_drewN | apply below_drew1) | exact HB.out)) hb); clear HB; have HB := n0_; clear n0_; (try clear hb); (try clear hb2); (try clear hk); (try clear hi)) | ((with_reducible refine gate_callee (f := 15) rfl ?_); refine goesL_ (some 32) rfl rfl Try.func15 (by kernel_rfl) rfl #[.int .i64 (Int.tmod (wrap64 (a1)) (wrap64 ((wrap64 (a0)) + 1)))] rfl (by (try simp only [List.map_toArray, List.map_cons, List.map_nil]); first | done | rfl | (simp only [List.length_drop, List.length_take]; rfl)) ?_; (with_reducible refine (place_Leaf.calls (Int.tmod (wrap64 (a1)) (wrap64 ((wrap64 (a0)) + 1))) t123 t124 _ A7.out).mono ?_); rintro e w' ⟨rfl, ⟨nd, rfl⟩⟩; refine ⟨_, rfl, ?_⟩) | ((with_reducible refine gate_callee (f := 15) rfl ?_); refine goesL_ (some 37) rfl rfl Try.func15 (by kernel_rfl) rfl #[.int .i64 (Int.tmod (wrap64 (a2)) (wrap64 ((wrap64 (a0)) + 1)))] rfl (by (try simp only [List.map_toArray, List.map_cons, List.map_nil]); first | done | rfl | (simp only [List.length_drop, List.length_take]; rfl)) ?_; (with_reducible refine (place_Leaf.calls (Int.tmod (wrap64 (a2)) (wrap64 ((wrap64 (a0)) + 1))) t125 t126 _ A8.out).mono ?_); rintro e w' ⟨rfl, ⟨nd, rfl⟩⟩; refine ⟨_, rfl, ?_⟩))
      (try simp only [Act.put, List.setIfInBounds_toArray, List.set_cons_zero, List.set_cons_succ])
      go_cut [79] (fun v79 wc => ∃ (kq : Nat) (x79_8 : Bool), v79 = .bool x79_8 ∧ Aside0 (lodgerlaw06_PlaceEach.j0 kq (wrap64 ((wrap64 (a0)) + 1)) x79_8 = some r) ∧ Aside0 (kq ≤ k) ∧ Aside0 (Below w.heap.size w wc))
      case first =>
        have H := HC9.out
        clear HC9
        by_cases c11 : t123 < 0
        · rw [if_pos c11] at H
          have c11b0 : decide (t123 < 0) = true := decide_eq_true c11
          clear c11
          (first | rw [c11b0] | (simp only [i64_w, i32_w]; rw [c11b0]) | skip)
          have H' := Aside0.mk H
          clear H
          go_wp2
          go_meet
          case rel => exact ⟨_, (true), (by first | rfl | (simp; done) | (simp [*]; done)), H', ⟨by first | omega | exact Nat.le_refl _⟩, ⟨by repeat (first | (with_reducible first | exact HB.out | apply below_alloc | apply pw_below_drewN | apply below_drew1) | exact HB.out)⟩⟩
        · rw [if_neg c11] at H
          have c11b0 : decide (t123 < 0) = false := decide_eq_false c11
          clear c11
          (first | rw [c11b0] | (simp only [i64_w, i32_w]; rw [c11b0]) | skip)
          replace H := Option.bind_eq_some_iff.mp H
          obtain ⟨t127, A120, H⟩ := H
          replace H : (if t123 ≥ t127 then (lodgerlaw06_PlaceEach.j0 k (wrap64 ((wrap64 (a0)) + 1)) true) else (if t124 < 0 then (lodgerlaw06_PlaceEach.j0 k (wrap64 ((wrap64 (a0)) + 1)) true) else ((place_Width.f (wrap64 ((wrap64 (a0)) + 1)) t123).bind fun t128 => (if t124 ≥ t128 then (lodgerlaw06_PlaceEach.j0 k (wrap64 ((wrap64 (a0)) + 1)) true) else (if t123 = t125 then (if ((t124 == t126) != ((Int.tmod (wrap64 (a1)) (wrap64 ((wrap64 (a0)) + 1))) == (Int.tmod (wrap64 (a2)) (wrap64 ((wrap64 (a0)) + 1))))) = true then (lodgerlaw06_PlaceEach.j0 k (wrap64 ((wrap64 (a0)) + 1)) true) else ((place_Offset.f t125 t126).bind fun t129 => (lodgerlaw06_PlaceEach.j0 k (wrap64 ((wrap64 (a0)) + 1)) (t129 != (Int.tmod (wrap64 (a2)) (wrap64 ((wrap64 (a0)) + 1))))))) else (if (false != ((Int.tmod (wrap64 (a1)) (wrap64 ((wrap64 (a0)) + 1))) == (Int.tmod (wrap64 (a2)) (wrap64 ((wrap64 (a0)) + 1))))) = true then (lodgerlaw06_PlaceEach.j0 k (wrap64 ((wrap64 (a0)) + 1)) true) else ((place_Offset.f t125 t126).bind fun t130 => (lodgerlaw06_PlaceEach.j0 k (wrap64 ((wrap64 (a0)) + 1)) (t130 != (Int.tmod (wrap64 (a2)) (wrap64 ((wrap64 (a0)) + 1)))))))))))) = some r := H
          have A12 := Aside0.mk A120
          clear A120
          by_cases c13 : t123 ≥ t127
          · rw [if_pos c13] at H
            have c13b0 : decide (t127 ≤ t123) = true := decide_eq_true c13
            clear c13
            have H' := Aside0.mk H
            clear H
            go_wp2_with (first | (go_at_call 20; (with_reducible refine (place_Leaves.calls (wrap64 ((wrap64 (a0)) + 1)) t127 _ A12.out).mono ?_); rintro e w' ⟨rfl, ⟨nd, rfl⟩⟩))
            go_meet
            case rel => exact ⟨_, (true), (by first | rfl | (simp; done) | (simp [*]; done)), H', ⟨by first | omega | exact Nat.le_refl _⟩, ⟨by repeat (first | (with_reducible first | exact HB.out | apply below_alloc | apply pw_below_drewN | apply below_drew1) | exact HB.out)⟩⟩
          · rw [if_neg c13] at H
            have c13b0 : decide (t127 ≤ t123) = false := decide_eq_false c13
            clear c13
            by_cases c14 : t124 < 0
            · rw [if_pos c14] at H
              have c14b0 : decide (t124 < 0) = true := decide_eq_true c14
              clear c14
              have H' := Aside0.mk H
              clear H
              go_wp2_with (first | (go_at_call 20; (with_reducible refine (place_Leaves.calls (wrap64 ((wrap64 (a0)) + 1)) t127 _ A12.out).mono ?_); rintro e w' ⟨rfl, ⟨nd, rfl⟩⟩))
              go_meet
              case rel => exact ⟨_, (true), (by first | rfl | (simp; done) | (simp [*]; done)), H', ⟨by first | omega | exact Nat.le_refl _⟩, ⟨by repeat (first | (with_reducible first | exact HB.out | apply below_alloc | apply pw_below_drewN | apply below_drew1) | exact HB.out)⟩⟩
            · rw [if_neg c14] at H
              have c14b0 : decide (t124 < 0) = false := decide_eq_false c14
              clear c14
              replace H := Option.bind_eq_some_iff.mp H
              obtain ⟨t128, A150, H⟩ := H
              replace H : (if t124 ≥ t128 then (lodgerlaw06_PlaceEach.j0 k (wrap64 ((wrap64 (a0)) + 1)) true) else (if t123 = t125 then (if ((t124 == t126) != ((Int.tmod (wrap64 (a1)) (wrap64 ((wrap64 (a0)) + 1))) == (Int.tmod (wrap64 (a2)) (wrap64 ((wrap64 (a0)) + 1))))) = true then (lodgerlaw06_PlaceEach.j0 k (wrap64 ((wrap64 (a0)) + 1)) true) else ((place_Offset.f t125 t126).bind fun t129 => (lodgerlaw06_PlaceEach.j0 k (wrap64 ((wrap64 (a0)) + 1)) (t129 != (Int.tmod (wrap64 (a2)) (wrap64 ((wrap64 (a0)) + 1))))))) else (if (false != ((Int.tmod (wrap64 (a1)) (wrap64 ((wrap64 (a0)) + 1))) == (Int.tmod (wrap64 (a2)) (wrap64 ((wrap64 (a0)) + 1))))) = true then (lodgerlaw06_PlaceEach.j0 k (wrap64 ((wrap64 (a0)) + 1)) true) else ((place_Offset.f t125 t126).bind fun t130 => (lodgerlaw06_PlaceEach.j0 k (wrap64 ((wrap64 (a0)) + 1)) (t130 != (Int.tmod (wrap64 (a2)) (wrap64 ((wrap64 (a0)) + 1))))))))) = some r := H
              have A15 := Aside0.mk A150
              clear A150
              by_cases c16 : t124 ≥ t128
              · rw [if_pos c16] at H
                have c16b0 : decide (t128 ≤ t124) = true := decide_eq_true c16
                clear c16
                have H' := Aside0.mk H
                clear H
                go_wp2_with (first | (go_at_call 20; (with_reducible refine (place_Leaves.calls (wrap64 ((wrap64 (a0)) + 1)) t127 _ A12.out).mono ?_); rintro e w' ⟨rfl, ⟨nd, rfl⟩⟩) | (go_at_call 27; (with_reducible refine (place_Width.calls (wrap64 ((wrap64 (a0)) + 1)) t123 t128 _ A15.out).mono ?_); rintro e w17 ⟨rfl, hb⟩; have n0_ := Aside0.mk (below_step (by repeat (first | (with_reducible first | exact HB.out | apply below_alloc | apply pw_below_drewN | apply below_drew1) | exact HB.out)) hb); clear HB; have HB := n0_; clear n0_; (try clear hb); (try clear hb2); (try clear hk); (try clear hi)))
                go_meet
                case rel => exact ⟨_, (true), (by first | rfl | (simp; done) | (simp [*]; done)), H', ⟨by first | omega | exact Nat.le_refl _⟩, ⟨by repeat (first | (with_reducible first | exact HB.out | apply below_alloc | apply pw_below_drewN | apply below_drew1) | exact HB.out)⟩⟩
              · rw [if_neg c16] at H
                have c16b0 : decide (t128 ≤ t124) = false := decide_eq_false c16
                clear c16
                by_cases c18 : t123 = t125
                · rw [if_pos c18] at H
                  have c18b0 : (t123 == t125) = true := beq_iff_eq.mpr c18
                  have c18b1 : (t123 != t125) = false := bne_eq_false_iff_eq.mpr c18
                  clear c18
                  by_cases c19 : ((t124 == t126) != ((Int.tmod (wrap64 (a1)) (wrap64 ((wrap64 (a0)) + 1))) == (Int.tmod (wrap64 (a2)) (wrap64 ((wrap64 (a0)) + 1))))) = true
                  · rw [if_pos c19] at H
                    have c19b0 : ((t124 == t126) != ((Int.tmod (wrap64 (a1)) (wrap64 ((wrap64 (a0)) + 1))) == (Int.tmod (wrap64 (a2)) (wrap64 ((wrap64 (a0)) + 1))))) = true := c19
                    (try (have c19b1 : decide ((t124 == t126) = ((Int.tmod (wrap64 (a1)) (wrap64 ((wrap64 (a0)) + 1))) == (Int.tmod (wrap64 (a2)) (wrap64 ((wrap64 (a0)) + 1))))) = false := by simpa using c19))
                    (try (have c19b2 : ((t124 == t126) == ((Int.tmod (wrap64 (a1)) (wrap64 ((wrap64 (a0)) + 1))) == (Int.tmod (wrap64 (a2)) (wrap64 ((wrap64 (a0)) + 1))))) = false := by simpa using c19))
                    (try (have c19b3 : ¬ ((t124 == t126) = ((Int.tmod (wrap64 (a1)) (wrap64 ((wrap64 (a0)) + 1))) == (Int.tmod (wrap64 (a2)) (wrap64 ((wrap64 (a0)) + 1))))) := by simpa using c19))
                    clear c19
                    have H' := Aside0.mk H
                    clear H
                    go_wp2_with (first | (go_at_call 20; (with_reducible refine (place_Leaves.calls (wrap64 ((wrap64 (a0)) + 1)) t127 _ A12.out).mono ?_); rintro e w' ⟨rfl, ⟨nd, rfl⟩⟩) | (go_at_call 27; (with_reducible refine (place_Width.calls (wrap64 ((wrap64 (a0)) + 1)) t123 t128 _ A15.out).mono ?_); rintro e w20 ⟨rfl, hb⟩; have n0_ := Aside0.mk (below_step (by repeat (first | (with_reducible first | exact HB.out | apply below_alloc | apply pw_below_drewN | apply below_drew1) | exact HB.out)) hb); clear HB; have HB := n0_; clear n0_; (try clear hb); (try clear hb2); (try clear hk); (try clear hi)))
                    go_meet
                    case rel => exact ⟨_, (true), (by first | rfl | (simp; done) | (simp [*]; done)), H', ⟨by first | omega | exact Nat.le_refl _⟩, ⟨by repeat (first | (with_reducible first | exact HB.out | apply below_alloc | apply pw_below_drewN | apply below_drew1) | exact HB.out)⟩⟩
                  · rw [if_neg c19] at H
                    have c19b0 : ((t124 == t126) != ((Int.tmod (wrap64 (a1)) (wrap64 ((wrap64 (a0)) + 1))) == (Int.tmod (wrap64 (a2)) (wrap64 ((wrap64 (a0)) + 1))))) = false := by simpa using c19
                    (try (have c19b1 : decide ((t124 == t126) = ((Int.tmod (wrap64 (a1)) (wrap64 ((wrap64 (a0)) + 1))) == (Int.tmod (wrap64 (a2)) (wrap64 ((wrap64 (a0)) + 1))))) = true := by simpa using c19))
                    (try (have c19b2 : ((t124 == t126) == ((Int.tmod (wrap64 (a1)) (wrap64 ((wrap64 (a0)) + 1))) == (Int.tmod (wrap64 (a2)) (wrap64 ((wrap64 (a0)) + 1))))) = true := by simpa using c19))
                    clear c19
                    replace H := Option.bind_eq_some_iff.mp H
                    obtain ⟨t129, A210, H⟩ := H
                    replace H : (lodgerlaw06_PlaceEach.j0 k (wrap64 ((wrap64 (a0)) + 1)) (t129 != (Int.tmod (wrap64 (a2)) (wrap64 ((wrap64 (a0)) + 1))))) = some r := H
                    have A21 := Aside0.mk A210
                    clear A210
                    have H' := Aside0.mk H
                    clear H
                    go_wp2_with (first | (go_at_call 20; (with_reducible refine (place_Leaves.calls (wrap64 ((wrap64 (a0)) + 1)) t127 _ A12.out).mono ?_); rintro e w' ⟨rfl, ⟨nd, rfl⟩⟩) | (go_at_call 27; (with_reducible refine (place_Width.calls (wrap64 ((wrap64 (a0)) + 1)) t123 t128 _ A15.out).mono ?_); rintro e w22 ⟨rfl, hb⟩; have n0_ := Aside0.mk (below_step (by repeat (first | (with_reducible first | exact HB.out | apply below_alloc | apply pw_below_drewN | apply below_drew1) | exact HB.out)) hb); clear HB; have HB := n0_; clear n0_; (try clear hb); (try clear hb2); (try clear hk); (try clear hi)) | (go_at_call 26; (with_reducible refine (place_Offset.calls t125 t126 t129 _ A21.out).mono ?_); rintro e w' ⟨rfl, ⟨nd, rfl⟩⟩))
                    go_meet
                    case rel => exact ⟨_, ((t129 != (Int.tmod (wrap64 (a2)) (wrap64 ((wrap64 (a0)) + 1))))), (by first | rfl | (simp; done) | (simp [*]; done)), H', ⟨by first | omega | exact Nat.le_refl _⟩, ⟨by repeat (first | (with_reducible first | exact HB.out | apply below_alloc | apply pw_below_drewN | apply below_drew1) | exact HB.out)⟩⟩
                · rw [if_neg c18] at H
                  have c18b0 : (t123 == t125) = false := beq_eq_false_iff_ne.mpr c18
                  have c18b1 : (t123 != t125) = true := bne_iff_ne.mpr c18
                  by_cases c23 : (false != ((Int.tmod (wrap64 (a1)) (wrap64 ((wrap64 (a0)) + 1))) == (Int.tmod (wrap64 (a2)) (wrap64 ((wrap64 (a0)) + 1))))) = true
                  · rw [if_pos c23] at H
                    have c23b0 : (false != ((Int.tmod (wrap64 (a1)) (wrap64 ((wrap64 (a0)) + 1))) == (Int.tmod (wrap64 (a2)) (wrap64 ((wrap64 (a0)) + 1))))) = true := c23
                    (try (have c23b1 : decide (false = ((Int.tmod (wrap64 (a1)) (wrap64 ((wrap64 (a0)) + 1))) == (Int.tmod (wrap64 (a2)) (wrap64 ((wrap64 (a0)) + 1))))) = false := by simpa using c23))
                    (try (have c23b2 : (false == ((Int.tmod (wrap64 (a1)) (wrap64 ((wrap64 (a0)) + 1))) == (Int.tmod (wrap64 (a2)) (wrap64 ((wrap64 (a0)) + 1))))) = false := by simpa using c23))
                    (try (have c23b3 : ¬ (false = ((Int.tmod (wrap64 (a1)) (wrap64 ((wrap64 (a0)) + 1))) == (Int.tmod (wrap64 (a2)) (wrap64 ((wrap64 (a0)) + 1))))) := by simpa using c23))
                    clear c23
                    have H' := Aside0.mk H
                    clear H
                    go_wp2_with (first | (go_at_call 20; (with_reducible refine (place_Leaves.calls (wrap64 ((wrap64 (a0)) + 1)) t127 _ A12.out).mono ?_); rintro e w' ⟨rfl, ⟨nd, rfl⟩⟩) | (go_at_call 27; (with_reducible refine (place_Width.calls (wrap64 ((wrap64 (a0)) + 1)) t123 t128 _ A15.out).mono ?_); rintro e w24 ⟨rfl, hb⟩; have n0_ := Aside0.mk (below_step (by repeat (first | (with_reducible first | exact HB.out | apply below_alloc | apply pw_below_drewN | apply below_drew1) | exact HB.out)) hb); clear HB; have HB := n0_; clear n0_; (try clear hb); (try clear hb2); (try clear hk); (try clear hi)))
                    go_meet
                    case rel => exact ⟨_, (true), (by first | rfl | (simp; done) | (simp [*]; done)), H', ⟨by first | omega | exact Nat.le_refl _⟩, ⟨by repeat (first | (with_reducible first | exact HB.out | apply below_alloc | apply pw_below_drewN | apply below_drew1) | exact HB.out)⟩⟩
                  · rw [if_neg c23] at H
                    have c23b0 : (false != ((Int.tmod (wrap64 (a1)) (wrap64 ((wrap64 (a0)) + 1))) == (Int.tmod (wrap64 (a2)) (wrap64 ((wrap64 (a0)) + 1))))) = false := by simpa using c23
                    (try (have c23b1 : decide (false = ((Int.tmod (wrap64 (a1)) (wrap64 ((wrap64 (a0)) + 1))) == (Int.tmod (wrap64 (a2)) (wrap64 ((wrap64 (a0)) + 1))))) = true := by simpa using c23))
                    (try (have c23b2 : (false == ((Int.tmod (wrap64 (a1)) (wrap64 ((wrap64 (a0)) + 1))) == (Int.tmod (wrap64 (a2)) (wrap64 ((wrap64 (a0)) + 1))))) = true := by simpa using c23))
                    clear c23
                    replace H := Option.bind_eq_some_iff.mp H
                    obtain ⟨t130, A250, H⟩ := H
                    replace H : (lodgerlaw06_PlaceEach.j0 k (wrap64 ((wrap64 (a0)) + 1)) (t130 != (Int.tmod (wrap64 (a2)) (wrap64 ((wrap64 (a0)) + 1))))) = some r := H
                    have A25 := Aside0.mk A250
                    clear A250
                    have H' := Aside0.mk H
                    clear H
                    go_wp2_with (first | (go_at_call 20; (with_reducible refine (place_Leaves.calls (wrap64 ((wrap64 (a0)) + 1)) t127 _ A12.out).mono ?_); rintro e w' ⟨rfl, ⟨nd, rfl⟩⟩) | (go_at_call 27; (with_reducible refine (place_Width.calls (wrap64 ((wrap64 (a0)) + 1)) t123 t128 _ A15.out).mono ?_); rintro e w26 ⟨rfl, hb⟩; have n0_ := Aside0.mk (below_step (by repeat (first | (with_reducible first | exact HB.out | apply below_alloc | apply pw_below_drewN | apply below_drew1) | exact HB.out)) hb); clear HB; have HB := n0_; clear n0_; (try clear hb); (try clear hb2); (try clear hk); (try clear hi)) | (go_at_call 26; (with_reducible refine (place_Offset.calls t125 t126 t130 _ A25.out).mono ?_); rintro e w' ⟨rfl, ⟨nd, rfl⟩⟩))
                    go_meet
                    case rel => exact ⟨_, ((t130 != (Int.tmod (wrap64 (a2)) (wrap64 ((wrap64 (a0)) + 1))))), (by first | rfl | (simp; done) | (simp [*]; done)), H', ⟨by first | omega | exact Nat.le_refl _⟩, ⟨by repeat (first | (with_reducible first | exact HB.out | apply below_alloc | apply pw_below_drewN | apply below_drew1) | exact HB.out)⟩⟩
      case rest =>
        clear HC9
        try clear c1
        try clear c2
        try clear p2
        try clear c4
        try clear c5
        try clear c6
        try clear c6b0
        try clear c6b1
        try clear p6
        try clear c11
        try clear c11b0
        try clear c13
        try clear c13b0
        try clear c14
        try clear c14b0
        try clear c15
        try clear c16
        try clear c16b0
        try clear c18
        try clear c18b0
        try clear c18b1
        try clear c19
        try clear c19b0
        try clear c19b1
        try clear c19b2
        try clear c23
        try clear c23b0
        try clear c23b1
        try clear c23b2
        obtain ⟨kq, x79_8, rfl, HA, HJ8, HB⟩ := hcut
        cases kq with
        | zero => exact absurd HA.out (by simp [lodgerlaw06_PlaceEach.j0])
        | succ kj8 =>
          have H := HA.out
          clear HA
          simp only [lodgerlaw06_PlaceEach.j0] at H
          by_cases c27 : x79_8 = true
          · subst c27
            have H1 : (some false) = some r := by rw [if_pos rfl] at H; exact H
            clear H
            have H := H1
            clear H1
            obtain rfl := Option.some.inj H
            go_wp2
            go_ret
            exact ⟨by first | rfl | (simp [errW_none, errW_some] <;> rfl) | (simp [*, errW_none, errW_some] <;> rfl), by repeat (first | (with_reducible first | exact HB.out | apply below_alloc | apply pw_below_drewN | apply below_drew1) | exact HB.out)⟩
          · replace c27 := Bool.eq_false_iff.mpr c27
            subst c27
            have H1 : (lodgerlaw06_PlaceEach.l0 kj8 (wrap64 ((wrap64 (a0)) + 1)) 0 0) = some r := by rw [if_neg (show ¬ (false = true) by decide)] at H; exact H
            clear H
            have H := H1
            clear H1
            have H' := Aside0.mk H
            clear H
            go_wp2
            go_loopg [14, 15] kj8 (fun kq v14 v15 w' => ∃ (x14_2 : Int) (x15_2 : Int), v14 = .int .i64 x14_2 ∧ v15 = .int .i64 x15_2 ∧ Aside0 (lodgerlaw06_PlaceEach.l0 kq (wrap64 ((wrap64 (a0)) + 1)) x14_2 x15_2 = some r) ∧ Aside0 (kq ≤ kj8) ∧ Aside0 (Below w.heap.size w w'))
            case atStart => exact ⟨(0), (0), (by first | rfl | (simp; done) | (simp [*]; done)), (by first | rfl | (simp; done) | (simp [*]; done)), H', ⟨Nat.le_refl _⟩, ⟨by repeat (first | (with_reducible first | exact HB.out | apply below_alloc | apply pw_below_drewN | apply below_drew1) | exact HB.out)⟩⟩
            case round =>
              clear H'
              try clear c1
              try clear c2
              try clear p2
              try clear c4
              try clear c5
              try clear c6
              try clear c6b0
              try clear c6b1
              try clear p6
              try clear c11
              try clear c11b0
              try clear c13
              try clear c13b0
              try clear c14
              try clear c14b0
              try clear c15
              try clear c16
              try clear c16b0
              try clear c18
              try clear c18b0
              try clear c18b1
              try clear c19
              try clear c19b0
              try clear c19b1
              try clear c19b2
              try clear c23
              try clear c23b0
              try clear c23b1
              try clear c23b2
              try clear c27
              try clear p2
              try clear p6
              obtain ⟨x14_2, x15_2, rfl, rfl, HA, HK2, HB⟩ := hrel
              cases gk with
              | zero => exact absurd HA.out (by simp [lodgerlaw06_PlaceEach.l0])
              | succ k2 =>
                have H := HA.out
                clear HA
                simp only [lodgerlaw06_PlaceEach.l0] at H
                replace H := Option.bind_eq_some_iff.mp H
                obtain ⟨t131, A280, H⟩ := H
                replace H : (if x15_2 < t131 then ((place_Width.f (wrap64 ((wrap64 (a0)) + 1)) x15_2).bind fun t132 => (if t132 < 1 then (some false) else (if t132 > 32 then (some false) else (if t132 < 32 then ((place_Leaves.f (wrap64 ((wrap64 (a0)) + 1))).bind fun t133 => (if x15_2 = (wrap64 (t133 - 1)) then (lodgerlaw06_PlaceEach.l0 k2 (wrap64 ((wrap64 (a0)) + 1)) (wrap64 (x14_2 + t132)) (wrap64 (x15_2 + 1))) else (some false))) else (lodgerlaw06_PlaceEach.l0 k2 (wrap64 ((wrap64 (a0)) + 1)) (wrap64 (x14_2 + t132)) (wrap64 (x15_2 + 1))))))) else (some (x14_2 == (wrap64 ((wrap64 (a0)) + 1))))) = some r := H
                have A28 := Aside0.mk A280
                clear A280
                by_cases c29 : x15_2 < t131
                · rw [if_pos c29] at H
                  have c29b0 : decide (x15_2 < t131) = true := decide_eq_true c29
                  clear c29
                  replace H := Option.bind_eq_some_iff.mp H
                  obtain ⟨t132, A300, H⟩ := H
                  replace H : (if t132 < 1 then (some false) else (if t132 > 32 then (some false) else (if t132 < 32 then ((place_Leaves.f (wrap64 ((wrap64 (a0)) + 1))).bind fun t133 => (if x15_2 = (wrap64 (t133 - 1)) then (lodgerlaw06_PlaceEach.l0 k2 (wrap64 ((wrap64 (a0)) + 1)) (wrap64 (x14_2 + t132)) (wrap64 (x15_2 + 1))) else (some false))) else (lodgerlaw06_PlaceEach.l0 k2 (wrap64 ((wrap64 (a0)) + 1)) (wrap64 (x14_2 + t132)) (wrap64 (x15_2 + 1)))))) = some r := H
                  have A30 := Aside0.mk A300
                  clear A300
                  by_cases c31 : t132 < 1
                  · rw [if_pos c31] at H
                    have c31b0 : decide (t132 < 1) = true := decide_eq_true c31
                    clear c31
                    obtain rfl := Option.some.inj H
                    go_wp2_with (first | ((with_reducible refine gate_callee (f := 20) rfl ?_); refine goesL_ (some 82) rfl rfl Try.func20 (by kernel_rfl) rfl #[.int .i64 (wrap64 ((wrap64 (a0)) + 1))] rfl (by (try simp only [List.map_toArray, List.map_cons, List.map_nil]); first | done | rfl | (simp only [List.length_drop, List.length_take]; rfl)) ?_; (with_reducible refine (place_Leaves.calls (wrap64 ((wrap64 (a0)) + 1)) t131 _ A28.out).mono ?_); rintro e w' ⟨rfl, ⟨nd, rfl⟩⟩; refine ⟨_, rfl, ?_⟩) | ((with_reducible refine gate_callee (f := 27) rfl ?_); refine goesL_ (some 88) rfl rfl Try.func27 (by kernel_rfl) rfl #[.int .i64 (wrap64 ((wrap64 (a0)) + 1)), .int .i64 x15_2] rfl (by (try simp only [List.map_toArray, List.map_cons, List.map_nil]); first | done | rfl | (simp only [List.length_drop, List.length_take]; rfl)) ?_; (with_reducible refine (place_Width.calls (wrap64 ((wrap64 (a0)) + 1)) x15_2 t132 _ A30.out).mono ?_); rintro e w32 ⟨rfl, hb⟩; refine ⟨_, rfl, ?_⟩; have n0_ := Aside0.mk (below_step (by repeat (first | (with_reducible first | exact HB.out | apply below_alloc | apply pw_below_drewN | apply below_drew1) | exact HB.out)) hb); clear HB; have HB := n0_; clear n0_; (try clear hb); (try clear hb2); (try clear hk); (try clear hi)))
                    go_ret
                    exact ⟨by first | rfl | (simp [errW_none, errW_some] <;> rfl) | (simp [*, errW_none, errW_some] <;> rfl), by repeat (first | (with_reducible first | exact HB.out | apply below_alloc | apply pw_below_drewN | apply below_drew1) | exact HB.out)⟩
                  · rw [if_neg c31] at H
                    have c31b0 : decide (t132 < 1) = false := decide_eq_false c31
                    clear c31
                    by_cases c33 : t132 > 32
                    · rw [if_pos c33] at H
                      have c33b0 : decide (32 < t132) = true := decide_eq_true c33
                      clear c33
                      obtain rfl := Option.some.inj H
                      go_wp2_with (first | ((with_reducible refine gate_callee (f := 20) rfl ?_); refine goesL_ (some 82) rfl rfl Try.func20 (by kernel_rfl) rfl #[.int .i64 (wrap64 ((wrap64 (a0)) + 1))] rfl (by (try simp only [List.map_toArray, List.map_cons, List.map_nil]); first | done | rfl | (simp only [List.length_drop, List.length_take]; rfl)) ?_; (with_reducible refine (place_Leaves.calls (wrap64 ((wrap64 (a0)) + 1)) t131 _ A28.out).mono ?_); rintro e w' ⟨rfl, ⟨nd, rfl⟩⟩; refine ⟨_, rfl, ?_⟩) | ((with_reducible refine gate_callee (f := 27) rfl ?_); refine goesL_ (some 88) rfl rfl Try.func27 (by kernel_rfl) rfl #[.int .i64 (wrap64 ((wrap64 (a0)) + 1)), .int .i64 x15_2] rfl (by (try simp only [List.map_toArray, List.map_cons, List.map_nil]); first | done | rfl | (simp only [List.length_drop, List.length_take]; rfl)) ?_; (with_reducible refine (place_Width.calls (wrap64 ((wrap64 (a0)) + 1)) x15_2 t132 _ A30.out).mono ?_); rintro e w34 ⟨rfl, hb⟩; refine ⟨_, rfl, ?_⟩; have n0_ := Aside0.mk (below_step (by repeat (first | (with_reducible first | exact HB.out | apply below_alloc | apply pw_below_drewN | apply below_drew1) | exact HB.out)) hb); clear HB; have HB := n0_; clear n0_; (try clear hb); (try clear hb2); (try clear hk); (try clear hi)))
                      go_ret
                      exact ⟨by first | rfl | (simp [errW_none, errW_some] <;> rfl) | (simp [*, errW_none, errW_some] <;> rfl), by repeat (first | (with_reducible first | exact HB.out | apply below_alloc | apply pw_below_drewN | apply below_drew1) | exact HB.out)⟩
                    · rw [if_neg c33] at H
                      have c33b0 : decide (32 < t132) = false := decide_eq_false c33
                      clear c33
                      by_cases c35 : t132 < 32
                      · rw [if_pos c35] at H
                        have c35b0 : decide (t132 < 32) = true := decide_eq_true c35
                        clear c35
                        replace H := Option.bind_eq_some_iff.mp H
                        obtain ⟨t133, A360, H⟩ := H
                        replace H : (if x15_2 = (wrap64 (t133 - 1)) then (lodgerlaw06_PlaceEach.l0 k2 (wrap64 ((wrap64 (a0)) + 1)) (wrap64 (x14_2 + t132)) (wrap64 (x15_2 + 1))) else (some false)) = some r := H
                        have A36 := Aside0.mk A360
                        clear A360
                        by_cases c37 : x15_2 = (wrap64 (t133 - 1))
                        · rw [if_pos c37] at H
                          have c37b0 : (x15_2 == (wrap64 (t133 - 1))) = true := beq_iff_eq.mpr c37
                          have c37b1 : (x15_2 != (wrap64 (t133 - 1))) = false := bne_eq_false_iff_eq.mpr c37
                          clear c37
                          have H' := Aside0.mk H
                          clear H
                          go_wp2_with (first | ((with_reducible refine gate_callee (f := 20) rfl ?_); refine goesL_ (some 82) rfl rfl Try.func20 (by kernel_rfl) rfl #[.int .i64 (wrap64 ((wrap64 (a0)) + 1))] rfl (by (try simp only [List.map_toArray, List.map_cons, List.map_nil]); first | done | rfl | (simp only [List.length_drop, List.length_take]; rfl)) ?_; (with_reducible refine (place_Leaves.calls (wrap64 ((wrap64 (a0)) + 1)) t131 _ A28.out).mono ?_); rintro e w' ⟨rfl, ⟨nd, rfl⟩⟩; refine ⟨_, rfl, ?_⟩) | ((with_reducible refine gate_callee (f := 27) rfl ?_); refine goesL_ (some 88) rfl rfl Try.func27 (by kernel_rfl) rfl #[.int .i64 (wrap64 ((wrap64 (a0)) + 1)), .int .i64 x15_2] rfl (by (try simp only [List.map_toArray, List.map_cons, List.map_nil]); first | done | rfl | (simp only [List.length_drop, List.length_take]; rfl)) ?_; (with_reducible refine (place_Width.calls (wrap64 ((wrap64 (a0)) + 1)) x15_2 t132 _ A30.out).mono ?_); rintro e w38 ⟨rfl, hb⟩; refine ⟨_, rfl, ?_⟩; have n0_ := Aside0.mk (below_step (by repeat (first | (with_reducible first | exact HB.out | apply below_alloc | apply pw_below_drewN | apply below_drew1) | exact HB.out)) hb); clear HB; have HB := n0_; clear n0_; (try clear hb); (try clear hb2); (try clear hk); (try clear hi)) | (go_at_call 20; (with_reducible refine (place_Leaves.calls (wrap64 ((wrap64 (a0)) + 1)) t133 _ A36.out).mono ?_); rintro e w' ⟨rfl, ⟨nd, rfl⟩⟩))
                          go_roundg k2
                          case measure => have := HJ8.out; have := HK2.out; omega
                          case rel => exact ⟨(wrap64 (x14_2 + t132)), (wrap64 (x15_2 + 1)), (by first | rfl | (simp; done) | (simp [*]; done)), (by first | rfl | (simp; done) | (simp [*]; done)), H', ⟨by have := HJ8.out; have := HK2.out; omega⟩, ⟨by repeat (first | (with_reducible first | exact HB.out | apply below_alloc | apply pw_below_drewN | apply below_drew1) | exact HB.out)⟩⟩
                        · rw [if_neg c37] at H
                          have c37b0 : (x15_2 == (wrap64 (t133 - 1))) = false := beq_eq_false_iff_ne.mpr c37
                          have c37b1 : (x15_2 != (wrap64 (t133 - 1))) = true := bne_iff_ne.mpr c37
                          obtain rfl := Option.some.inj H
                          go_wp2_with (first | ((with_reducible refine gate_callee (f := 20) rfl ?_); refine goesL_ (some 82) rfl rfl Try.func20 (by kernel_rfl) rfl #[.int .i64 (wrap64 ((wrap64 (a0)) + 1))] rfl (by (try simp only [List.map_toArray, List.map_cons, List.map_nil]); first | done | rfl | (simp only [List.length_drop, List.length_take]; rfl)) ?_; (with_reducible refine (place_Leaves.calls (wrap64 ((wrap64 (a0)) + 1)) t131 _ A28.out).mono ?_); rintro e w' ⟨rfl, ⟨nd, rfl⟩⟩; refine ⟨_, rfl, ?_⟩) | ((with_reducible refine gate_callee (f := 27) rfl ?_); refine goesL_ (some 88) rfl rfl Try.func27 (by kernel_rfl) rfl #[.int .i64 (wrap64 ((wrap64 (a0)) + 1)), .int .i64 x15_2] rfl (by (try simp only [List.map_toArray, List.map_cons, List.map_nil]); first | done | rfl | (simp only [List.length_drop, List.length_take]; rfl)) ?_; (with_reducible refine (place_Width.calls (wrap64 ((wrap64 (a0)) + 1)) x15_2 t132 _ A30.out).mono ?_); rintro e w39 ⟨rfl, hb⟩; refine ⟨_, rfl, ?_⟩; have n0_ := Aside0.mk (below_step (by repeat (first | (with_reducible first | exact HB.out | apply below_alloc | apply pw_below_drewN | apply below_drew1) | exact HB.out)) hb); clear HB; have HB := n0_; clear n0_; (try clear hb); (try clear hb2); (try clear hk); (try clear hi)) | (go_at_call 20; (with_reducible refine (place_Leaves.calls (wrap64 ((wrap64 (a0)) + 1)) t133 _ A36.out).mono ?_); rintro e w' ⟨rfl, ⟨nd, rfl⟩⟩))
                          go_ret
                          exact ⟨by first | rfl | (simp [errW_none, errW_some] <;> rfl) | (simp [*, errW_none, errW_some] <;> rfl), by repeat (first | (with_reducible first | exact HB.out | apply below_alloc | apply pw_below_drewN | apply below_drew1) | exact HB.out)⟩
                      · rw [if_neg c35] at H
                        have c35b0 : decide (t132 < 32) = false := decide_eq_false c35
                        clear c35
                        have H' := Aside0.mk H
                        clear H
                        go_wp2_with (first | ((with_reducible refine gate_callee (f := 20) rfl ?_); refine goesL_ (some 82) rfl rfl Try.func20 (by kernel_rfl) rfl #[.int .i64 (wrap64 ((wrap64 (a0)) + 1))] rfl (by (try simp only [List.map_toArray, List.map_cons, List.map_nil]); first | done | rfl | (simp only [List.length_drop, List.length_take]; rfl)) ?_; (with_reducible refine (place_Leaves.calls (wrap64 ((wrap64 (a0)) + 1)) t131 _ A28.out).mono ?_); rintro e w' ⟨rfl, ⟨nd, rfl⟩⟩; refine ⟨_, rfl, ?_⟩) | ((with_reducible refine gate_callee (f := 27) rfl ?_); refine goesL_ (some 88) rfl rfl Try.func27 (by kernel_rfl) rfl #[.int .i64 (wrap64 ((wrap64 (a0)) + 1)), .int .i64 x15_2] rfl (by (try simp only [List.map_toArray, List.map_cons, List.map_nil]); first | done | rfl | (simp only [List.length_drop, List.length_take]; rfl)) ?_; (with_reducible refine (place_Width.calls (wrap64 ((wrap64 (a0)) + 1)) x15_2 t132 _ A30.out).mono ?_); rintro e w40 ⟨rfl, hb⟩; refine ⟨_, rfl, ?_⟩; have n0_ := Aside0.mk (below_step (by repeat (first | (with_reducible first | exact HB.out | apply below_alloc | apply pw_below_drewN | apply below_drew1) | exact HB.out)) hb); clear HB; have HB := n0_; clear n0_; (try clear hb); (try clear hb2); (try clear hk); (try clear hi)))
                        go_roundg k2
                        case measure => have := HJ8.out; have := HK2.out; omega
                        case rel => exact ⟨(wrap64 (x14_2 + t132)), (wrap64 (x15_2 + 1)), (by first | rfl | (simp; done) | (simp [*]; done)), (by first | rfl | (simp; done) | (simp [*]; done)), H', ⟨by have := HJ8.out; have := HK2.out; omega⟩, ⟨by repeat (first | (with_reducible first | exact HB.out | apply below_alloc | apply pw_below_drewN | apply below_drew1) | exact HB.out)⟩⟩
                · rw [if_neg c29] at H
                  have c29b0 : decide (x15_2 < t131) = false := decide_eq_false c29
                  clear c29
                  obtain rfl := Option.some.inj H
                  go_wp2_with (first | ((with_reducible refine gate_callee (f := 20) rfl ?_); refine goesL_ (some 82) rfl rfl Try.func20 (by kernel_rfl) rfl #[.int .i64 (wrap64 ((wrap64 (a0)) + 1))] rfl (by (try simp only [List.map_toArray, List.map_cons, List.map_nil]); first | done | rfl | (simp only [List.length_drop, List.length_take]; rfl)) ?_; (with_reducible refine (place_Leaves.calls (wrap64 ((wrap64 (a0)) + 1)) t131 _ A28.out).mono ?_); rintro e w' ⟨rfl, ⟨nd, rfl⟩⟩; refine ⟨_, rfl, ?_⟩))
                  go_ret
                  exact ⟨by first | rfl | (simp [errW_none, errW_some] <;> rfl) | (simp [*, errW_none, errW_some] <;> rfl), by repeat (first | (with_reducible first | exact HB.out | apply below_alloc | apply pw_below_drewN | apply below_drew1) | exact HB.out)⟩
  · replace c5 := Bool.eq_false_iff.mpr c5
    subst c5
    have H1 : (some false) = some r := by rw [if_neg (show ¬ (false = true) by decide)] at H; exact H
    clear H
    have H := H1
    clear H1
    obtain rfl := Option.some.inj H
    go_enter Try.func4, Try.ntmps4
    go_wp2_with (first | ((with_reducible refine gate_callee (f := 14) rfl ?_); refine goesL_ (some 17) rfl rfl Try.func14 (by kernel_rfl) rfl #[] rfl (by (try simp only [List.map_toArray, List.map_cons, List.map_nil]); first | done | rfl | (simp only [List.length_drop, List.length_take]; rfl)) ?_; (with_reducible refine (lodgerlaw06_awake.calls  false _ A4.out).mono ?_); rintro e w41 ⟨rfl, hb⟩; refine ⟨_, rfl, ?_⟩; have n0_ := Aside0.mk (below_step (by repeat (first | (with_reducible first | exact HB.out | apply below_alloc | apply pw_below_drewN | apply below_drew1) | exact HB.out)) hb); clear HB; have HB := n0_; clear n0_; (try clear hb); (try clear hb2); (try clear hk); (try clear hi)))
    go_ret
    exact ⟨by first | rfl | (simp [errW_none, errW_some] <;> rfl) | (simp [*, errW_none, errW_some] <;> rfl), by repeat (first | (with_reducible first | exact HB.out | apply below_alloc | apply pw_below_drewN | apply below_drew1) | exact HB.out)⟩

/-- THE ONE PURE STATEMENT of lodgerlaw06_PlaceEach: yours. -/
def lodgerlaw06_PlaceEach.Pure : Prop := ∀ (a0 : Int) (a1 : Int) (a2 : Int), (Lit.int .u16 a0).wf = true → (Lit.int .u16 a1).wf = true → (Lit.int .u16 a2).wf = true → ∃ k, lodgerlaw06_PlaceEach.f k a0 a1 a2 = some true
theorem lodgerlaw06_PlaceEach.walk (P : lodgerlaw06_PlaceEach.Pure) (a0 : Int) (a1 : Int) (a2 : Int) (w : World) (w0 : (Lit.int .u16 a0).wf = true) (w1 : (Lit.int .u16 a1).wf = true) (w2 : (Lit.int .u16 a2).wf = true) :
    Calls Try.prog 4 #[.int .u16 a0, .int .u16 a1, .int .u16 a2] w fun e w' => e = .returned (.bool true) ∧ Below w.heap.size w w' := by
  obtain ⟨k, h⟩ := P a0 a1 a2 w0 w1 w2
  refine (lodgerlaw06_PlaceEach.calls k a0 a1 a2 true w h).mono ?_
  rintro e w' ⟨rfl, hd⟩
  exact ⟨rfl, hd⟩

end Go.Proofs.Yteieippmopfnaaa.PPlaceEach
