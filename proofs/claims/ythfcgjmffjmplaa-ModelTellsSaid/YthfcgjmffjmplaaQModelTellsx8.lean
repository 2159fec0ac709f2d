/- The walk of ModelTells, part of it: what the Go functions answer; no condition. -/
import Derived.Test.YthfcgjmffjmplaaQModelTellsx0
import Derived.Test.YthfcgjmffjmplaaQModelTellsx4
import Derived.Test.YthfcgjmffjmplaaQModelTellsx7
namespace Go.Proofs.Ythfcgjmffjmplaa.PModelTells
open Go.RowKit Go.Proofs.YthfcgjmffjmplaaW.PrintWords Go.Proofs.YthfcgjmffjmplaaW.PrintLast Go.Proofs.YthfcgjmffjmplaaW.PrintMore
attribute [local go_sem] max2_int min2_int max_two min_two max_three min_three max_four min_four   -- for this text's walks alone
set_option linter.unusedVariables false
set_option linter.unusedSimpArgs false

/-! ### lodgerref06_Leaves: function 52 -/
def lodgerref06_Leaves.l0 : Nat → Int → Int → Option (Int)
 | 0, _, _ => none
 | k + 1, x0, x3 => if (wrap64 (32 * x3)) < x0 then (lodgerref06_Leaves.l0 k x0 (wrap64 (x3 + 1))) else (some x3)
def lodgerref06_Leaves.f (k : Nat) (a0 : Int) : Option (Int) := lodgerref06_Leaves.l0 k a0 0
theorem lodgerref06_Leaves.mono_l : ∀ k, (∀ y0 y1, LeO (lodgerref06_Leaves.l0 k y0 y1) (lodgerref06_Leaves.l0 (k + 1) y0 y1))
 | 0 => fun _ _ r h => by simp [lodgerref06_Leaves.l0] at h
 | k + 1 => by
  have ih0 := lodgerref06_Leaves.mono_l k
  ·intro y0 y1
   unfold lodgerref06_Leaves.l0
   repeat' first
   | (with_reducible exact ih0 _ _)
   | (with_reducible exact LeO.refl _)
   | (with_reducible exact LeO.none _)
   | (with_reducible refine LeO.ite ?_ ?_)
   | (with_reducible refine LeO.bind ?_ (fun _ => ?_))
   | exact ih0 _ _
   | exact LeO.none _
   | refine LeO.ite ?_ ?_
   | refine LeO.bind ?_ (fun _ => ?_)
theorem lodgerref06_Leaves.mono : ∀ a0 k, LeO (lodgerref06_Leaves.f k a0) (lodgerref06_Leaves.f (k + 1) a0) := by
 intro a0 k
 have ih0 := lodgerref06_Leaves.mono_l k
 unfold lodgerref06_Leaves.f
 repeat' first
   | (with_reducible exact ih0 _ _)
   | (with_reducible exact LeO.refl _)
   | (with_reducible exact LeO.none _)
   | (with_reducible refine LeO.ite ?_ ?_)
   | (with_reducible refine LeO.bind ?_ (fun _ => ?_))
   | exact ih0 _ _
   | exact LeO.none _
   | refine LeO.ite ?_ ?_
   | refine LeO.bind ?_ (fun _ => ?_)
set_option maxHeartbeats 8000000 in
set_option maxRecDepth 100000 in
theorem lodgerref06_Leaves.calls (k : Nat) (a0 : Int) (r : Int) (w : World) (h : lodgerref06_Leaves.f k a0 = some r) :
  Calls Try.prog 52 #[.int .i64 a0] w fun e w' => e = .returned (.int .i64 r) ∧ Drawn0 w w' := by
 have H : (lodgerref06_Leaves.l0 k a0 0) = some r := h
 clear h
 have H' := Aside0.mk H
 clear H
 go_enter Try.func52, Try.ntmps52
 go_wp2
 go_loopg [3] k (fun kq v3 w' => ∃ (x3_1 : Int), v3 = .int .i64 x3_1 ∧ Aside0 (lodgerref06_Leaves.l0 kq a0 x3_1 = some r) ∧ Aside0 (kq ≤ k) ∧ Drawn0 w w')
 case atStart => exact ⟨(0), (by first | rfl | (simp; done) | (simp [*]; done)), H', ⟨Nat.le_refl _⟩, by repeat (first | exact Drawn0.refl _ | apply Drawn0.step)⟩
 case round =>
  clear H'
  obtain ⟨x3_1, rfl, HA, HK1, ⟨m1, rfl⟩⟩ := hrel
  cases gk with
  | zero => exact absurd HA.out (by simp [lodgerref06_Leaves.l0])
  | succ k1 =>
   have H := HA.out
   clear HA
   simp only [lodgerref06_Leaves.l0] at H
   by_cases c2 : (wrap64 (32 * x3_1)) < a0
   ·rw [if_pos c2] at H
    have c2b0 : decide ((wrap64 (32 * x3_1)) < a0) = true := decide_eq_true c2
    clear c2
    have H' := Aside0.mk H
    clear H
    go_wp2
    go_roundg k1
    case measure => have := HK1.out; omega
    case rel => exact ⟨(wrap64 (x3_1 + 1)), (by first | rfl | (simp; done) | (simp [*]; done)), H', ⟨by have := HK1.out; omega⟩, by repeat (first | exact Drawn0.refl _ | apply Drawn0.step)⟩
   ·rw [if_neg c2] at H
    have c2b0 : decide ((wrap64 (32 * x3_1)) < a0) = false := decide_eq_false c2
    clear c2
    obtain rfl := Option.some.inj H
    go_wp2
    go_ret
    exact ⟨by first | rfl | (simp; done) | (simp [*]; done), by repeat (first | exact Drawn0.refl _ | apply Drawn0.step)⟩

/-! ### lodgerref06_Tops: function 53 -/
def lodgerref06_Tops.l0 : Nat → Int → Int → Option (Int)
 | 0, _, _ => none
 | k + 1, x0, x3 => (lodgerref06_Leaves.f k x0).bind fun t255 => (if (wrap64 (64 * x3)) < t255 then (lodgerref06_Tops.l0 k x0 (wrap64 (x3 + 1))) else (some x3))
def lodgerref06_Tops.f (k : Nat) (a0 : Int) : Option (Int) := lodgerref06_Tops.l0 k a0 0
theorem lodgerref06_Tops.mono_l : ∀ k, (∀ y0 y1, LeO (lodgerref06_Tops.l0 k y0 y1) (lodgerref06_Tops.l0 (k + 1) y0 y1))
 | 0 => fun _ _ r h => by simp [lodgerref06_Tops.l0] at h
 | k + 1 => by
  have ih0 := lodgerref06_Tops.mono_l k
  ·intro y0 y1
   unfold lodgerref06_Tops.l0
   repeat' first
   | (with_reducible exact ih0 _ _)
   | (with_reducible exact lodgerref06_Leaves.mono _ _)
   | (with_reducible exact LeO.refl _)
   | (with_reducible exact LeO.none _)
   | (with_reducible refine LeO.ite ?_ ?_)
   | (with_reducible refine LeO.bind ?_ (fun _ => ?_))
   | exact ih0 _ _
   | exact lodgerref06_Leaves.mono _ _
   | exact LeO.none _
   | refine LeO.ite ?_ ?_
   | refine LeO.bind ?_ (fun _ => ?_)
theorem lodgerref06_Tops.mono : ∀ a0 k, LeO (lodgerref06_Tops.f k a0) (lodgerref06_Tops.f (k + 1) a0) := by
 intro a0 k
 have ih0 := lodgerref06_Tops.mono_l k
 unfold lodgerref06_Tops.f
 repeat' first
   | (with_reducible exact ih0 _ _)
   | (with_reducible exact lodgerref06_Leaves.mono _ _)
   | (with_reducible exact LeO.refl _)
   | (with_reducible exact LeO.none _)
   | (with_reducible refine LeO.ite ?_ ?_)
   | (with_reducible refine LeO.bind ?_ (fun _ => ?_))
   | exact ih0 _ _
   | exact lodgerref06_Leaves.mono _ _
   | exact LeO.none _
   | refine LeO.ite ?_ ?_
   | refine LeO.bind ?_ (fun _ => ?_)
set_option maxHeartbeats 8000000 in
set_option maxRecDepth 100000 in
theorem lodgerref06_Tops.calls (k : Nat) (a0 : Int) (r : Int) (w : World) (h : lodgerref06_Tops.f k a0 = some r) :
  Calls Try.prog 53 #[.int .i64 a0] w fun e w' => e = .returned (.int .i64 r) ∧ Drawn0 w w' := by
 have H : (lodgerref06_Tops.l0 k a0 0) = some r := h
 clear h
 have H' := Aside0.mk H
 clear H
 go_enter Try.func53, Try.ntmps53
 go_wp2
 go_loopg [3] k (fun kq v3 w' => ∃ (x3_1 : Int), v3 = .int .i64 x3_1 ∧ Aside0 (lodgerref06_Tops.l0 kq a0 x3_1 = some r) ∧ Aside0 (kq ≤ k) ∧ Drawn0 w w')
 case atStart => exact ⟨(0), (by first | rfl | (simp; done) | (simp [*]; done)), H', ⟨Nat.le_refl _⟩, by repeat (first | exact Drawn0.refl _ | apply Drawn0.step)⟩
 case round =>
  clear H'
  obtain ⟨x3_1, rfl, HA, HK1, ⟨m1, rfl⟩⟩ := hrel
  cases gk with
  | zero => exact absurd HA.out (by simp [lodgerref06_Tops.l0])
  | succ k1 =>
   have H := HA.out
   clear HA
   simp only [lodgerref06_Tops.l0] at H
   replace H := Option.bind_eq_some_iff.mp H
   obtain ⟨t255, A20, H⟩ := H
   replace H : (if (wrap64 (64 * x3_1)) < t255 then (lodgerref06_Tops.l0 k1 a0 (wrap64 (x3_1 + 1))) else (some x3_1)) = some r := H
   have A2 := Aside0.mk A20
   clear A20
   by_cases c3 : (wrap64 (64 * x3_1)) < t255
   ·rw [if_pos c3] at H
    have c3b0 : decide ((wrap64 (64 * x3_1)) < t255) = true := decide_eq_true c3
    clear c3
    have H' := Aside0.mk H
    clear H
    go_wp2_with (first | ((with_reducible refine gate_callee (f := 52) rfl ?_); refine goesL_ (some 7) rfl rfl Try.func52 (by kernel_rfl) rfl #[.int .i64 a0] rfl (by (try simp only [List.map_toArray, List.map_cons, List.map_nil]); first | done | rfl | (simp only [List.length_drop, List.length_take]; rfl)) ?_; (with_reducible refine (lodgerref06_Leaves.calls k1 a0 t255 _ A2.out).mono ?_); rintro e w' ⟨rfl, ⟨nd, rfl⟩⟩; refine ⟨_, rfl, ?_⟩) | (go_at_call 52; (with_reducible refine (lodgerref06_Leaves.calls k1 a0 t255 _ A2.out).mono ?_); rintro e w' ⟨rfl, ⟨nd, rfl⟩⟩))
    go_roundg k1
    case measure => have := HK1.out; omega
    case rel => exact ⟨(wrap64 (x3_1 + 1)), (by first | rfl | (simp; done) | (simp [*]; done)), H', ⟨by have := HK1.out; omega⟩, by repeat (first | exact Drawn0.refl _ | apply Drawn0.step)⟩
   ·rw [if_neg c3] at H
    have c3b0 : decide ((wrap64 (64 * x3_1)) < t255) = false := decide_eq_false c3
    clear c3
    obtain rfl := Option.some.inj H
    go_wp2_with (first | ((with_reducible refine gate_callee (f := 52) rfl ?_); refine goesL_ (some 7) rfl rfl Try.func52 (by kernel_rfl) rfl #[.int .i64 a0] rfl (by (try simp only [List.map_toArray, List.map_cons, List.map_nil]); first | done | rfl | (simp only [List.length_drop, List.length_take]; rfl)) ?_; (with_reducible refine (lodgerref06_Leaves.calls k1 a0 t255 _ A2.out).mono ?_); rintro e w' ⟨rfl, ⟨nd, rfl⟩⟩; refine ⟨_, rfl, ?_⟩) | (go_at_call 52; (with_reducible refine (lodgerref06_Leaves.calls k1 a0 t255 _ A2.out).mono ?_); rintro e w' ⟨rfl, ⟨nd, rfl⟩⟩))
    go_ret
    exact ⟨by first | rfl | (simp; done) | (simp [*]; done), by repeat (first | exact Drawn0.refl _ | apply Drawn0.step)⟩

/-! ### lodgerref06_Cells: function 39 -/
def lodgerref06_Cells.f (k : Nat) (a0 : Int) : Option (Int) := (lodgerref06_Leaves.f k a0).bind fun t256 => ((lodgerref06_Tops.f k a0).bind fun t257 => (some (wrap64 ((wrap64 (t256 + t257)) + 1))))
theorem lodgerref06_Cells.mono : ∀ a0 k, LeO (lodgerref06_Cells.f k a0) (lodgerref06_Cells.f (k + 1) a0) := by
 intro a0 k
 unfold lodgerref06_Cells.f
 repeat' first
   | (with_reducible exact lodgerref06_Leaves.mono _ _)
   | (with_reducible exact lodgerref06_Tops.mono _ _)
   | (with_reducible exact LeO.refl _)
   | (with_reducible exact LeO.none _)
   | (with_reducible refine LeO.ite ?_ ?_)
   | (with_reducible refine LeO.bind ?_ (fun _ => ?_))
   | exact lodgerref06_Leaves.mono _ _
   | exact lodgerref06_Tops.mono _ _
   | exact LeO.none _
   | refine LeO.ite ?_ ?_
   | refine LeO.bind ?_ (fun _ => ?_)
set_option maxHeartbeats 8000000 in
set_option maxRecDepth 100000 in
theorem lodgerref06_Cells.calls (k : Nat) (a0 : Int) (r : Int) (w : World) (h : lodgerref06_Cells.f k a0 = some r) :
  Calls Try.prog 39 #[.int .i64 a0] w fun e w' => e = .returned (.int .i64 r) ∧ Drawn0 w w' := by
 have H : ((lodgerref06_Leaves.f k a0).bind fun t256 => ((lodgerref06_Tops.f k a0).bind fun t257 => (some (wrap64 ((wrap64 (t256 + t257)) + 1))))) = some r := h
 clear h
 replace H := Option.bind_eq_some_iff.mp H
 obtain ⟨t256, A20, H⟩ := H
 replace H : ((lodgerref06_Tops.f k a0).bind fun t257 => (some (wrap64 ((wrap64 (t256 + t257)) + 1)))) = some r := H
 have A2 := Aside0.mk A20
 clear A20
 replace H := Option.bind_eq_some_iff.mp H
 obtain ⟨t257, A30, H⟩ := H
 replace H : (some (wrap64 ((wrap64 (t256 + t257)) + 1))) = some r := H
 have A3 := Aside0.mk A30
 clear A30
 obtain rfl := Option.some.inj H
 go_enter Try.func39, Try.ntmps39
 go_wp2_with (first | ((with_reducible refine gate_callee (f := 52) rfl ?_); refine goesL_ (some 4) rfl rfl Try.func52 (by kernel_rfl) rfl #[.int .i64 a0] rfl (by (try simp only [List.map_toArray, List.map_cons, List.map_nil]); first | done | rfl | (simp only [List.length_drop, List.length_take]; rfl)) ?_; (with_reducible refine (lodgerref06_Leaves.calls k a0 t256 _ A2.out).mono ?_); rintro e w' ⟨rfl, ⟨nd, rfl⟩⟩; refine ⟨_, rfl, ?_⟩) | ((with_reducible refine gate_callee (f := 53) rfl ?_); refine goesL_ (some 6) rfl rfl Try.func53 (by kernel_rfl) rfl #[.int .i64 a0] rfl (by (try simp only [List.map_toArray, List.map_cons, List.map_nil]); first | done | rfl | (simp only [List.length_drop, List.length_take]; rfl)) ?_; (with_reducible refine (lodgerref06_Tops.calls k a0 t257 _ A3.out).mono ?_); rintro e w' ⟨rfl, ⟨nd, rfl⟩⟩; refine ⟨_, rfl, ?_⟩) | (go_at_call 52; (with_reducible refine (lodgerref06_Leaves.calls k a0 t256 _ A2.out).mono ?_); rintro e w' ⟨rfl, ⟨nd, rfl⟩⟩) | (go_at_call 53; (with_reducible refine (lodgerref06_Tops.calls k a0 t257 _ A3.out).mono ?_); rintro e w' ⟨rfl, ⟨nd, rfl⟩⟩))
 go_ret
 exact ⟨by first | rfl | (simp; done) | (simp [*]; done), by repeat (first | exact Drawn0.refl _ | apply Drawn0.step)⟩

/-! ### lodgerref08_Fits: function 21 -/
def lodgerref08_Fits.f (k : Nat) (a0_0 : Int) (a0_1 : Int) (l0_2 : List Int) (a0_3 : Int) (a0_4 : Int) (a0_5 : Int) (a0_6 : Int) (l1 : List Int) : Option (Bool) := (lodgerref05_May.f k a0_0 a0_1 l0_2 a0_3 a0_4 a0_5 a0_6).bind fun t259 => (if t259 = true then ((lodgerref05_Many.f k a0_0 a0_1).bind fun t260 => (if t260 ≤ 4096 then ((lodgerref05_Many.f k a0_0 a0_1).bind fun t261 => ((lodgerref06_Cells.f k t261).bind fun t262 => (some ((l1.length : Int) == t262)))) else (some false))) else (some false))
theorem lodgerref08_Fits.mono : ∀ a0 a1 a2 a3 a4 a5 a6 a7 k, LeO (lodgerref08_Fits.f k a0 a1 a2 a3 a4 a5 a6 a7) (lodgerref08_Fits.f (k + 1) a0 a1 a2 a3 a4 a5 a6 a7) := by
 intro a0 a1 a2 a3 a4 a5 a6 a7 k
 unfold lodgerref08_Fits.f
 repeat' first
   | (with_reducible exact lodgerref05_Many.mono _ _ _)
   | (with_reducible exact lodgerref05_May.mono _ _ _ _ _ _ _ _)
   | (with_reducible exact lodgerref06_Cells.mono _ _)
   | (with_reducible exact LeO.refl _)
   | (with_reducible exact LeO.none _)
   | (with_reducible refine LeO.ite ?_ ?_)
   | (with_reducible refine LeO.bind ?_ (fun _ => ?_))
   | exact lodgerref05_Many.mono _ _ _
   | exact lodgerref05_May.mono _ _ _ _ _ _ _ _
   | exact lodgerref06_Cells.mono _ _
   | exact LeO.none _
   | refine LeO.ite ?_ ?_
   | refine LeO.bind ?_ (fun _ => ?_)
set_option maxHeartbeats 8000000 in
set_option maxRecDepth 100000 in
theorem lodgerref08_Fits.calls (k : Nat) (a0_0 : Int) (a0_1 : Int) (A0_2 : Option Addr) (c0_2 : Nat) (l0_2 : List Int) (a0_3 : Int) (a0_4 : Int) (a0_5 : Int) (a0_6 : Int) (A1 : Option Addr) (c1 : Nat) (l1 : List Int) (r : Bool) (w : World) (hr0_2 : Kd.C (Kd.int .i64) w A0_2 l0_2.length l0_2) (hc0_2 : l0_2.length ≤ c0_2) (hr1 : Kd.C (Kd.int .u64) w A1 l1.length l1) (hc1 : l1.length ≤ c1) (h : lodgerref08_Fits.f k a0_0 a0_1 l0_2 a0_3 a0_4 a0_5 a0_6 l1 = some r) :
  Calls Try.prog 21 #[.agg #[.int .u32 a0_0, .int .i64 a0_1, .slice A0_2 l0_2.length c0_2, .int .i64 a0_3, .int .i64 a0_4, .int .i64 a0_5, .int .i64 a0_6], .slice A1 l1.length c1] w fun e w' => e = .returned (.bool r) ∧ Below w.heap.size w w' := by
 have hu27 := Try.underlying27
 have hu24 := Try.underlying24
 have HR0_2 := Aside0.mk hr0_2
 have HC0_2 := Aside0.mk hc0_2
 clear hr0_2 hc0_2
 have HR1 := Aside0.mk hr1
 have HC1 := Aside0.mk hc1
 clear hr1 hc1
 have HB := Aside0.mk (Below.refl w.heap.size w)
 have H : ((lodgerref05_May.f k a0_0 a0_1 l0_2 a0_3 a0_4 a0_5 a0_6).bind fun t259 => (if t259 = true then ((lodgerref05_Many.f k a0_0 a0_1).bind fun t260 => (if t260 ≤ 4096 then ((lodgerref05_Many.f k a0_0 a0_1).bind fun t261 => ((lodgerref06_Cells.f k t261).bind fun t262 => (some ((l1.length : Int) == t262)))) else (some false))) else (some false))) = some r := h
 clear h
 replace H := Option.bind_eq_some_iff.mp H
 obtain ⟨t259, A30, H⟩ := H
 replace H : (if t259 = true then ((lodgerref05_Many.f k a0_0 a0_1).bind fun t260 => (if t260 ≤ 4096 then ((lodgerref05_Many.f k a0_0 a0_1).bind fun t261 => ((lodgerref06_Cells.f k t261).bind fun t262 => (some ((l1.length : Int) == t262)))) else (some false))) else (some false)) = some r := H
 have A3 := Aside0.mk A30
 clear A30
 by_cases c4 : t259 = true
 ·subst c4
  have H1 : ((lodgerref05_Many.f k a0_0 a0_1).bind fun t260 => (if t260 ≤ 4096 then ((lodgerref05_Many.f k a0_0 a0_1).bind fun t261 => ((lodgerref06_Cells.f k t261).bind fun t262 => (some ((l1.length : Int) == t262)))) else (some false))) = some r := by rw [if_pos rfl] at H; exact H
  clear H
  have H := H1
  clear H1
  replace H := Option.bind_eq_some_iff.mp H
  obtain ⟨t260, A50, H⟩ := H
  replace H : (if t260 ≤ 4096 then ((lodgerref05_Many.f k a0_0 a0_1).bind fun t261 => ((lodgerref06_Cells.f k t261).bind fun t262 => (some ((l1.length : Int) == t262)))) else (some false)) = some r := H
  have A5 := Aside0.mk A50
  clear A50
  by_cases c6 : t260 ≤ 4096
  ·rw [if_pos c6] at H
   have c6b0 : decide (t260 ≤ 4096) = true := decide_eq_true c6
   clear c6
   replace H := Option.bind_eq_some_iff.mp H
   obtain ⟨t261, A70, H⟩ := H
   replace H : ((lodgerref06_Cells.f k t261).bind fun t262 => (some ((l1.length : Int) == t262))) = some r := H
   have A7 := Aside0.mk A70
   clear A70
   have E_ := A5.out.symm.trans A7.out
   replace E_ := Option.some.inj E_
   subst E_
   replace H := Option.bind_eq_some_iff.mp H
   obtain ⟨t262, A80, H⟩ := H
   replace H : (some ((l1.length : Int) == t262)) = some r := H
   have A8 := Aside0.mk A80
   clear A80
   obtain rfl := Option.some.inj H
   go_enter Try.func21, Try.ntmps21
   go_wp2_with (first | ((with_reducible refine gate_dst (N := 2) rfl ?_); (try (refine gate_guard (by rfl) ?_; dsimp only)); refine box_event ?hg (N := 2) ?hd (cs := #[.int .u32 a0_0, .int .i64 a0_1, .slice A0_2 l0_2.length c0_2, .int .i64 a0_3, .int .i64 a0_4, .int .i64 a0_5, .int .i64 a0_6]) (t := 27) ?hr ?_; (case hd => rfl); (case hg => rfl); (case hr => first | (go_simp; done) | (go_simp; rfl)); intro gb258 hg w9 hbox hb; have n0_ := Aside0.mk (below_step (by repeat (first | (with_reducible first | exact HB.out | apply below_alloc | apply pw_below_drewN | apply below_drew1) | exact HB.out)) hb); have n1_ := Aside0.mk (hbox); have n2_ := Aside0.mk ((by rw [hg]; exact (below_size (by repeat (first | (with_reducible first | exact HB.out | apply below_alloc | apply pw_below_drewN | apply below_drew1) | exact HB.out))) : w.heap.size ≤ gb258)); have n3_ := Aside0.mk ((by rw [hg]; exact (below_size (by repeat (first | (with_reducible first | exact HB.out | apply below_alloc | apply pw_below_drewN | apply below_drew1) | exact HB.out))) : w.heap.size ≤ gb258)); clear HB; have HB := n0_; have BK258 := n1_; have GW258 := n2_; have GE258 := n3_; clear n0_ n1_ n2_ n3_; clear hb hbox hg; have hcz10_0 : w9.cell? ⟨gb258, 0, none⟩ = some (.int .u32 a0_0) := (blk_cell BK258.out 0).trans rfl; have hcz10_1 : w9.cell? ⟨gb258, 1, none⟩ = some (.int .i64 a0_1) := (blk_cell BK258.out 1).trans rfl; have hcz10_2 : w9.cell? ⟨gb258, 2, none⟩ = some (.slice A0_2 l0_2.length c0_2) := (blk_cell BK258.out 2).trans rfl; have hcz10_3 : w9.cell? ⟨gb258, 3, none⟩ = some (.int .i64 a0_3) := (blk_cell BK258.out 3).trans rfl; have hcz10_4 : w9.cell? ⟨gb258, 4, none⟩ = some (.int .i64 a0_4) := (blk_cell BK258.out 4).trans rfl; have hcz10_5 : w9.cell? ⟨gb258, 5, none⟩ = some (.int .i64 a0_5) := (blk_cell BK258.out 5).trans rfl; have hcz10_6 : w9.cell? ⟨gb258, 6, none⟩ = some (.int .i64 a0_6) := (blk_cell BK258.out 6).trans rfl; have hfz10_0 := blk_frozen BK258.out 0; have hfz10_1 := blk_frozen BK258.out 1; have hfz10_2 := blk_frozen BK258.out 2; have hfz10_3 := blk_frozen BK258.out 3; have hfz10_4 := blk_frozen BK258.out 4; have hfz10_5 := blk_frozen BK258.out 5; have hfz10_6 := blk_frozen BK258.out 6) | ((with_reducible refine gate_callee (f := 10) rfl ?_); refine goesL_ (some 6) rfl rfl Try.func10 (by kernel_rfl) rfl #[.agg #[.int .u32 a0_0, .int .i64 a0_1, .slice A0_2 l0_2.length c0_2, .int .i64 a0_3, .int .i64 a0_4, .int .i64 a0_5, .int .i64 a0_6]] rfl (by (try simp only [List.map_toArray, List.map_cons, List.map_nil]); first | done | rfl | (simp only [List.length_drop, List.length_take]; rfl)) ?_; (with_reducible refine (lodgerref05_May.calls k a0_0 a0_1 _ _ l0_2 a0_3 a0_4 a0_5 a0_6 true _ ?side1 ?side2 A3.out).mono ?_); (case side1 => repeat (first | exact (Kd.C_below HR0_2.out HB.out) | (with_reducible refine Kd.C_alloc ?_ _) | (with_reducible refine Kd.C_drewN ?_ _) | (with_reducible refine Kd.C_drew ?_))); (case side2 => exact HC0_2.out); rintro e w11 ⟨rfl, hb⟩; refine ⟨_, rfl, ?_⟩; have n0_ := Aside0.mk (blk_below (g := gb258) (o := .cells #[.int .u32 a0_0, .int .i64 a0_1, .slice A0_2 l0_2.length c0_2, .int .i64 a0_3, .int .i64 a0_4, .int .i64 a0_5, .int .i64 a0_6] 27 (0, 0)) (by (with_reducible repeat (first | refine blk_drewN ?_ _ | refine blk_drew ?_ | refine blk_alloc ?_ _)); exact BK258.out) hb); have n1_ := Aside0.mk (below_step (by repeat (first | (with_reducible first | exact HB.out | apply below_alloc | apply pw_below_drewN | apply below_drew1 | refine below_set ?_ GE258.out) | exact HB.out)) hb); clear BK258; clear HB; have BK258 := n0_; have HB := n1_; clear n0_ n1_; (try clear hb); (try clear hb2); (try clear hk); (try clear hi); have hcz12_0 : w11.cell? ⟨gb258, 0, none⟩ = some (.int .u32 a0_0) := (blk_cell BK258.out 0).trans rfl; have hcz12_1 : w11.cell? ⟨gb258, 1, none⟩ = some (.int .i64 a0_1) := (blk_cell BK258.out 1).trans rfl; have hcz12_2 : w11.cell? ⟨gb258, 2, none⟩ = some (.slice A0_2 l0_2.length c0_2) := (blk_cell BK258.out 2).trans rfl; have hcz12_3 : w11.cell? ⟨gb258, 3, none⟩ = some (.int .i64 a0_3) := (blk_cell BK258.out 3).trans rfl; have hcz12_4 : w11.cell? ⟨gb258, 4, none⟩ = some (.int .i64 a0_4) := (blk_cell BK258.out 4).trans rfl; have hcz12_5 : w11.cell? ⟨gb258, 5, none⟩ = some (.int .i64 a0_5) := (blk_cell BK258.out 5).trans rfl; have hcz12_6 : w11.cell? ⟨gb258, 6, none⟩ = some (.int .i64 a0_6) := (blk_cell BK258.out 6).trans rfl; have hfz12_0 := blk_frozen BK258.out 0; have hfz12_1 := blk_frozen BK258.out 1; have hfz12_2 := blk_frozen BK258.out 2; have hfz12_3 := blk_frozen BK258.out 3; have hfz12_4 := blk_frozen BK258.out 4; have hfz12_5 := blk_frozen BK258.out 5; have hfz12_6 := blk_frozen BK258.out 6) | (go_at_call 24; (with_reducible refine (lodgerref05_Many.calls k a0_0 a0_1 t260 _ A5.out).mono ?_); rintro e w13 ⟨rfl, hb⟩; have n0_ := Aside0.mk (blk_below (g := gb258) (o := .cells #[.int .u32 a0_0, .int .i64 a0_1, .slice A0_2 l0_2.length c0_2, .int .i64 a0_3, .int .i64 a0_4, .int .i64 a0_5, .int .i64 a0_6] 27 (0, 0)) (by (with_reducible repeat (first | refine blk_drewN ?_ _ | refine blk_drew ?_ | refine blk_alloc ?_ _)); exact BK258.out) hb); have n1_ := Aside0.mk (below_step (by repeat (first | (with_reducible first | exact HB.out | apply below_alloc | apply pw_below_drewN | apply below_drew1 | refine below_set ?_ GE258.out) | exact HB.out)) hb); clear BK258; clear HB; have BK258 := n0_; have HB := n1_; clear n0_ n1_; (try clear hb); (try clear hb2); (try clear hk); (try clear hi); have hcz14_0 : w13.cell? ⟨gb258, 0, none⟩ = some (.int .u32 a0_0) := (blk_cell BK258.out 0).trans rfl; have hcz14_1 : w13.cell? ⟨gb258, 1, none⟩ = some (.int .i64 a0_1) := (blk_cell BK258.out 1).trans rfl; have hcz14_2 : w13.cell? ⟨gb258, 2, none⟩ = some (.slice A0_2 l0_2.length c0_2) := (blk_cell BK258.out 2).trans rfl; have hcz14_3 : w13.cell? ⟨gb258, 3, none⟩ = some (.int .i64 a0_3) := (blk_cell BK258.out 3).trans rfl; have hcz14_4 : w13.cell? ⟨gb258, 4, none⟩ = some (.int .i64 a0_4) := (blk_cell BK258.out 4).trans rfl; have hcz14_5 : w13.cell? ⟨gb258, 5, none⟩ = some (.int .i64 a0_5) := (blk_cell BK258.out 5).trans rfl; have hcz14_6 : w13.cell? ⟨gb258, 6, none⟩ = some (.int .i64 a0_6) := (blk_cell BK258.out 6).trans rfl; have hfz14_0 := blk_frozen BK258.out 0; have hfz14_1 := blk_frozen BK258.out 1; have hfz14_2 := blk_frozen BK258.out 2; have hfz14_3 := blk_frozen BK258.out 3; have hfz14_4 := blk_frozen BK258.out 4; have hfz14_5 := blk_frozen BK258.out 5; have hfz14_6 := blk_frozen BK258.out 6) | (go_at_call 24; (with_reducible refine (lodgerref05_Many.calls k a0_0 a0_1 t260 _ A7.out).mono ?_); rintro e w15 ⟨rfl, hb⟩; have n0_ := Aside0.mk (blk_below (g := gb258) (o := .cells #[.int .u32 a0_0, .int .i64 a0_1, .slice A0_2 l0_2.length c0_2, .int .i64 a0_3, .int .i64 a0_4, .int .i64 a0_5, .int .i64 a0_6] 27 (0, 0)) (by (with_reducible repeat (first | refine blk_drewN ?_ _ | refine blk_drew ?_ | refine blk_alloc ?_ _)); exact BK258.out) hb); have n1_ := Aside0.mk (below_step (by repeat (first | (with_reducible first | exact HB.out | apply below_alloc | apply pw_below_drewN | apply below_drew1 | refine below_set ?_ GE258.out) | exact HB.out)) hb); clear BK258; clear HB; have BK258 := n0_; have HB := n1_; clear n0_ n1_; (try clear hb); (try clear hb2); (try clear hk); (try clear hi)) | (go_at_call 39; (with_reducible refine (lodgerref06_Cells.calls k t260 t262 _ A8.out).mono ?_); rintro e w' ⟨rfl, ⟨nd, rfl⟩⟩))
   go_ret
   exact ⟨by first | rfl | (simp [errW_none, errW_some] <;> rfl) | (simp [*, errW_none, errW_some] <;> rfl), by repeat (first | (with_reducible first | exact HB.out | apply below_alloc | apply pw_below_drewN | apply below_drew1 | refine below_set ?_ GE258.out) | exact HB.out)⟩
  ·rw [if_neg c6] at H
   have c6b0 : decide (t260 ≤ 4096) = false := decide_eq_false c6
   clear c6
   obtain rfl := Option.some.inj H
   go_enter Try.func21, Try.ntmps21
   go_wp2_with (first | ((with_reducible refine gate_dst (N := 2) rfl ?_); (try (refine gate_guard (by rfl) ?_; dsimp only)); refine box_event ?hg (N := 2) ?hd (cs := #[.int .u32 a0_0, .int .i64 a0_1, .slice A0_2 l0_2.length c0_2, .int .i64 a0_3, .int .i64 a0_4, .int .i64 a0_5, .int .i64 a0_6]) (t := 27) ?hr ?_; (case hd => rfl); (case hg => rfl); (case hr => first | (go_simp; done) | (go_simp; rfl)); intro gb258 hg w16 hbox hb; have n0_ := Aside0.mk (below_step (by repeat (first | (with_reducible first | exact HB.out | apply below_alloc | apply pw_below_drewN | apply below_drew1) | exact HB.out)) hb); have n1_ := Aside0.mk (hbox); have n2_ := Aside0.mk ((by rw [hg]; exact (below_size (by repeat (first | (with_reducible first | exact HB.out | apply below_alloc | apply pw_below_drewN | apply below_drew1) | exact HB.out))) : w.heap.size ≤ gb258)); have n3_ := Aside0.mk ((by rw [hg]; exact (below_size (by repeat (first | (with_reducible first | exact HB.out | apply below_alloc | apply pw_below_drewN | apply below_drew1) | exact HB.out))) : w.heap.size ≤ gb258)); clear HB; have HB := n0_; have BK258 := n1_; have GW258 := n2_; have GE258 := n3_; clear n0_ n1_ n2_ n3_; clear hb hbox hg; have hcz17_0 : w16.cell? ⟨gb258, 0, none⟩ = some (.int .u32 a0_0) := (blk_cell BK258.out 0).trans rfl; have hcz17_1 : w16.cell? ⟨gb258, 1, none⟩ = some (.int .i64 a0_1) := (blk_cell BK258.out 1).trans rfl; have hcz17_2 : w16.cell? ⟨gb258, 2, none⟩ = some (.slice A0_2 l0_2.length c0_2) := (blk_cell BK258.out 2).trans rfl; have hcz17_3 : w16.cell? ⟨gb258, 3, none⟩ = some (.int .i64 a0_3) := (blk_cell BK258.out 3).trans rfl; have hcz17_4 : w16.cell? ⟨gb258, 4, none⟩ = some (.int .i64 a0_4) := (blk_cell BK258.out 4).trans rfl; have hcz17_5 : w16.cell? ⟨gb258, 5, none⟩ = some (.int .i64 a0_5) := (blk_cell BK258.out 5).trans rfl; have hcz17_6 : w16.cell? ⟨gb258, 6, none⟩ = some (.int .i64 a0_6) := (blk_cell BK258.out 6).trans rfl; have hfz17_0 := blk_frozen BK258.out 0; have hfz17_1 := blk_frozen BK258.out 1; have hfz17_2 := blk_frozen BK258.out 2; have hfz17_3 := blk_frozen BK258.out 3; have hfz17_4 := blk_frozen BK258.out 4; have hfz17_5 := blk_frozen BK258.out 5; have hfz17_6 := blk_frozen BK258.out 6) | ((with_reducible refine gate_callee (f := 10) rfl ?_); refine goesL_ (some 6) rfl rfl Try.func10 (by kernel_rfl) rfl #[.agg #[.int .u32 a0_0, .int .i64 a0_1, .slice A0_2 l0_2.length c0_2, .int .i64 a0_3, .int .i64 a0_4, .int .i64 a0_5, .int .i64 a0_6]] rfl (by (try simp only [List.map_toArray, List.map_cons, List.map_nil]); first | done | rfl | (simp only [List.length_drop, List.length_take]; rfl)) ?_; (with_reducible refine (lodgerref05_May.calls k a0_0 a0_1 _ _ l0_2 a0_3 a0_4 a0_5 a0_6 true _ ?side1 ?side2 A3.out).mono ?_); (case side1 => repeat (first | exact (Kd.C_below HR0_2.out HB.out) | (with_reducible refine Kd.C_alloc ?_ _) | (with_reducible refine Kd.C_drewN ?_ _) | (with_reducible refine Kd.C_drew ?_))); (case side2 => exact HC0_2.out); rintro e w18 ⟨rfl, hb⟩; refine ⟨_, rfl, ?_⟩; have n0_ := Aside0.mk (blk_below (g := gb258) (o := .cells #[.int .u32 a0_0, .int .i64 a0_1, .slice A0_2 l0_2.length c0_2, .int .i64 a0_3, .int .i64 a0_4, .int .i64 a0_5, .int .i64 a0_6] 27 (0, 0)) (by (with_reducible repeat (first | refine blk_drewN ?_ _ | refine blk_drew ?_ | refine blk_alloc ?_ _)); exact BK258.out) hb); have n1_ := Aside0.mk (below_step (by repeat (first | (with_reducible first | exact HB.out | apply below_alloc | apply pw_below_drewN | apply below_drew1 | refine below_set ?_ GE258.out) | exact HB.out)) hb); clear BK258; clear HB; have BK258 := n0_; have HB := n1_; clear n0_ n1_; (try clear hb); (try clear hb2); (try clear hk); (try clear hi); have hcz19_0 : w18.cell? ⟨gb258, 0, none⟩ = some (.int .u32 a0_0) := (blk_cell BK258.out 0).trans rfl; have hcz19_1 : w18.cell? ⟨gb258, 1, none⟩ = some (.int .i64 a0_1) := (blk_cell BK258.out 1).trans rfl; have hcz19_2 : w18.cell? ⟨gb258, 2, none⟩ = some (.slice A0_2 l0_2.length c0_2) := (blk_cell BK258.out 2).trans rfl; have hcz19_3 : w18.cell? ⟨gb258, 3, none⟩ = some (.int .i64 a0_3) := (blk_cell BK258.out 3).trans rfl; have hcz19_4 : w18.cell? ⟨gb258, 4, none⟩ = some (.int .i64 a0_4) := (blk_cell BK258.out 4).trans rfl; have hcz19_5 : w18.cell? ⟨gb258, 5, none⟩ = some (.int .i64 a0_5) := (blk_cell BK258.out 5).trans rfl; have hcz19_6 : w18.cell? ⟨gb258, 6, none⟩ = some (.int .i64 a0_6) := (blk_cell BK258.out 6).trans rfl; have hfz19_0 := blk_frozen BK258.out 0; have hfz19_1 := blk_frozen BK258.out 1; have hfz19_2 := blk_frozen BK258.out 2; have hfz19_3 := blk_frozen BK258.out 3; have hfz19_4 := blk_frozen BK258.out 4; have hfz19_5 := blk_frozen BK258.out 5; have hfz19_6 := blk_frozen BK258.out 6) | (go_at_call 24; (with_reducible refine (lodgerref05_Many.calls k a0_0 a0_1 t260 _ A5.out).mono ?_); rintro e w20 ⟨rfl, hb⟩; have n0_ := Aside0.mk (blk_below (g := gb258) (o := .cells #[.int .u32 a0_0, .int .i64 a0_1, .slice A0_2 l0_2.length c0_2, .int .i64 a0_3, .int .i64 a0_4, .int .i64 a0_5, .int .i64 a0_6] 27 (0, 0)) (by (with_reducible repeat (first | refine blk_drewN ?_ _ | refine blk_drew ?_ | refine blk_alloc ?_ _)); exact BK258.out) hb); have n1_ := Aside0.mk (below_step (by repeat (first | (with_reducible first | exact HB.out | apply below_alloc | apply pw_below_drewN | apply below_drew1 | refine below_set ?_ GE258.out) | exact HB.out)) hb); clear BK258; clear HB; have BK258 := n0_; have HB := n1_; clear n0_ n1_; (try clear hb); (try clear hb2); (try clear hk); (try clear hi)))
   go_ret
   exact ⟨by first | rfl | (simp [errW_none, errW_some] <;> rfl) | (simp [*, errW_none, errW_some] <;> rfl), by repeat (first | (with_reducible first | exact HB.out | apply below_alloc | apply pw_below_drewN | apply below_drew1 | refine below_set ?_ GE258.out) | exact HB.out)⟩
 ·replace c4 := Bool.eq_false_iff.mpr c4
  subst c4
  have H1 : (some false) = some r := by rw [if_neg (show ¬ (false = true) by decide)] at H; exact H
  clear H
  have H := H1
  clear H1
  obtain rfl := Option.some.inj H
  go_enter Try.func21, Try.ntmps21
  go_wp2_with (first | ((with_reducible refine gate_dst (N := 2) rfl ?_); (try (refine gate_guard (by rfl) ?_; dsimp only)); refine box_event ?hg (N := 2) ?hd (cs := #[.int .u32 a0_0, .int .i64 a0_1, .slice A0_2 l0_2.length c0_2, .int .i64 a0_3, .int .i64 a0_4, .int .i64 a0_5, .int .i64 a0_6]) (t := 27) ?hr ?_; (case hd => rfl); (case hg => rfl); (case hr => first | (go_simp; done) | (go_simp; rfl)); intro gb258 hg w21 hbox hb; have n0_ := Aside0.mk (below_step (by repeat (first | (with_reducible first | exact HB.out | apply below_alloc | apply pw_below_drewN | apply below_drew1) | exact HB.out)) hb); have n1_ := Aside0.mk (hbox); have n2_ := Aside0.mk ((by rw [hg]; exact (below_size (by repeat (first | (with_reducible first | exact HB.out | apply below_alloc | apply pw_below_drewN | apply below_drew1) | exact HB.out))) : w.heap.size ≤ gb258)); have n3_ := Aside0.mk ((by rw [hg]; exact (below_size (by repeat (first | (with_reducible first | exact HB.out | apply below_alloc | apply pw_below_drewN | apply below_drew1) | exact HB.out))) : w.heap.size ≤ gb258)); clear HB; have HB := n0_; have BK258 := n1_; have GW258 := n2_; have GE258 := n3_; clear n0_ n1_ n2_ n3_; clear hb hbox hg; have hcz22_0 : w21.cell? ⟨gb258, 0, none⟩ = some (.int .u32 a0_0) := (blk_cell BK258.out 0).trans rfl; have hcz22_1 : w21.cell? ⟨gb258, 1, none⟩ = some (.int .i64 a0_1) := (blk_cell BK258.out 1).trans rfl; have hcz22_2 : w21.cell? ⟨gb258, 2, none⟩ = some (.slice A0_2 l0_2.length c0_2) := (blk_cell BK258.out 2).trans rfl; have hcz22_3 : w21.cell? ⟨gb258, 3, none⟩ = some (.int .i64 a0_3) := (blk_cell BK258.out 3).trans rfl; have hcz22_4 : w21.cell? ⟨gb258, 4, none⟩ = some (.int .i64 a0_4) := (blk_cell BK258.out 4).trans rfl; have hcz22_5 : w21.cell? ⟨gb258, 5, none⟩ = some (.int .i64 a0_5) := (blk_cell BK258.out 5).trans rfl; have hcz22_6 : w21.cell? ⟨gb258, 6, none⟩ = some (.int .i64 a0_6) := (blk_cell BK258.out 6).trans rfl; have hfz22_0 := blk_frozen BK258.out 0; have hfz22_1 := blk_frozen BK258.out 1; have hfz22_2 := blk_frozen BK258.out 2; have hfz22_3 := blk_frozen BK258.out 3; have hfz22_4 := blk_frozen BK258.out 4; have hfz22_5 := blk_frozen BK258.out 5; have hfz22_6 := blk_frozen BK258.out 6) | ((with_reducible refine gate_callee (f := 10) rfl ?_); refine goesL_ (some 6) rfl rfl Try.func10 (by kernel_rfl) rfl #[.agg #[.int .u32 a0_0, .int .i64 a0_1, .slice A0_2 l0_2.length c0_2, .int .i64 a0_3, .int .i64 a0_4, .int .i64 a0_5, .int .i64 a0_6]] rfl (by (try simp only [List.map_toArray, List.map_cons, List.map_nil]); first | done | rfl | (simp only [List.length_drop, List.length_take]; rfl)) ?_; (with_reducible refine (lodgerref05_May.calls k a0_0 a0_1 _ _ l0_2 a0_3 a0_4 a0_5 a0_6 false _ ?side1 ?side2 A3.out).mono ?_); (case side1 => repeat (first | exact (Kd.C_below HR0_2.out HB.out) | (with_reducible refine Kd.C_alloc ?_ _) | (with_reducible refine Kd.C_drewN ?_ _) | (with_reducible refine Kd.C_drew ?_))); (case side2 => exact HC0_2.out); rintro e w23 ⟨rfl, hb⟩; refine ⟨_, rfl, ?_⟩; have n0_ := Aside0.mk (blk_below (g := gb258) (o := .cells #[.int .u32 a0_0, .int .i64 a0_1, .slice A0_2 l0_2.length c0_2, .int .i64 a0_3, .int .i64 a0_4, .int .i64 a0_5, .int .i64 a0_6] 27 (0, 0)) (by (with_reducible repeat (first | refine blk_drewN ?_ _ | refine blk_drew ?_ | refine blk_alloc ?_ _)); exact BK258.out) hb); have n1_ := Aside0.mk (below_step (by repeat (first | (with_reducible first | exact HB.out | apply below_alloc | apply pw_below_drewN | apply below_drew1 | refine below_set ?_ GE258.out) | exact HB.out)) hb); clear BK258; clear HB; have BK258 := n0_; have HB := n1_; clear n0_ n1_; (try clear hb); (try clear hb2); (try clear hk); (try clear hi)))
  go_ret
  exact ⟨by first | rfl | (simp [errW_none, errW_some] <;> rfl) | (simp [*, errW_none, errW_some] <;> rfl), by repeat (first | (with_reducible first | exact HB.out | apply below_alloc | apply pw_below_drewN | apply below_drew1 | refine below_set ?_ GE258.out) | exact HB.out)⟩

/-! ### lodgerref01_Pow: function 48 -/
def lodgerref01_Pow.l0 : Nat → Int → Int → Int → Option (Int)
 | 0, _, _, _ => none
 | k + 1, x0, x3, x4 => if x4 < x0 then (lodgerref01_Pow.l0 k x0 (IntKind.u64.wrap (x3 * 2)) (wrap64 (x4 + 1))) else (some x3)
def lodgerref01_Pow.f (k : Nat) (a0 : Int) : Option (Int) := lodgerref01_Pow.l0 k a0 1 0
theorem lodgerref01_Pow.mono_l : ∀ k, (∀ y0 y1 y2, LeO (lodgerref01_Pow.l0 k y0 y1 y2) (lodgerref01_Pow.l0 (k + 1) y0 y1 y2))
 | 0 => fun _ _ _ r h => by simp [lodgerref01_Pow.l0] at h
 | k + 1 => by
  have ih0 := lodgerref01_Pow.mono_l k
  ·intro y0 y1 y2
   unfold lodgerref01_Pow.l0
   repeat' first
   | (with_reducible exact ih0 _ _ _)
   | (with_reducible exact LeO.refl _)
   | (with_reducible exact LeO.none _)
   | (with_reducible refine LeO.ite ?_ ?_)
   | (with_reducible refine LeO.bind ?_ (fun _ => ?_))
   | exact ih0 _ _ _
   | exact LeO.none _
   | refine LeO.ite ?_ ?_
   | refine LeO.bind ?_ (fun _ => ?_)
theorem lodgerref01_Pow.mono : ∀ a0 k, LeO (lodgerref01_Pow.f k a0) (lodgerref01_Pow.f (k + 1) a0) := by
 intro a0 k
 have ih0 := lodgerref01_Pow.mono_l k
 unfold lodgerref01_Pow.f
 repeat' first
   | (with_reducible exact ih0 _ _ _)
   | (with_reducible exact LeO.refl _)
   | (with_reducible exact LeO.none _)
   | (with_reducible refine LeO.ite ?_ ?_)
   | (with_reducible refine LeO.bind ?_ (fun _ => ?_))
   | exact ih0 _ _ _
   | exact LeO.none _
   | refine LeO.ite ?_ ?_
   | refine LeO.bind ?_ (fun _ => ?_)
set_option maxHeartbeats 8000000 in
set_option maxRecDepth 100000 in
theorem lodgerref01_Pow.calls (k : Nat) (a0 : Int) (r : Int) (w : World) (h : lodgerref01_Pow.f k a0 = some r) :
  Calls Try.prog 48 #[.int .i64 a0] w fun e w' => e = .returned (.int .u64 r) ∧ Drawn0 w w' := by
 have H : (lodgerref01_Pow.l0 k a0 1 0) = some r := h
 clear h
 have H' := Aside0.mk H
 clear H
 go_enter Try.func48, Try.ntmps48
 go_wp2
 go_loopg [3, 4] k (fun kq v3 v4 w' => ∃ (x3_1 : Int) (x4_1 : Int), v3 = .int .u64 x3_1 ∧ v4 = .int .i64 x4_1 ∧ Aside0 (lodgerref01_Pow.l0 kq a0 x3_1 x4_1 = some r) ∧ Aside0 (kq ≤ k) ∧ Drawn0 w w')
 case atStart => exact ⟨(1), (0), (by first | rfl | (simp; done) | (simp [*]; done)), (by first | rfl | (simp; done) | (simp [*]; done)), H', ⟨Nat.le_refl _⟩, by repeat (first | exact Drawn0.refl _ | apply Drawn0.step)⟩
 case round =>
  clear H'
  obtain ⟨x3_1, x4_1, rfl, rfl, HA, HK1, ⟨m1, rfl⟩⟩ := hrel
  cases gk with
  | zero => exact absurd HA.out (by simp [lodgerref01_Pow.l0])
  | succ k1 =>
   have H := HA.out
   clear HA
   simp only [lodgerref01_Pow.l0] at H
   by_cases c2 : x4_1 < a0
   ·rw [if_pos c2] at H
    have c2b0 : decide (x4_1 < a0) = true := decide_eq_true c2
    clear c2
    have H' := Aside0.mk H
    clear H
    go_wp2
    go_roundg k1
    case measure => have := HK1.out; omega
    case rel => exact ⟨(IntKind.u64.wrap (x3_1 * 2)), (wrap64 (x4_1 + 1)), (by first | rfl | (simp; done) | (simp [*]; done)), (by first | rfl | (simp; done) | (simp [*]; done)), H', ⟨by have := HK1.out; omega⟩, by repeat (first | exact Drawn0.refl _ | apply Drawn0.step)⟩
   ·rw [if_neg c2] at H
    have c2b0 : decide (x4_1 < a0) = false := decide_eq_false c2
    clear c2
    obtain rfl := Option.some.inj H
    go_wp2
    go_ret
    exact ⟨by first | rfl | (simp; done) | (simp [*]; done), by repeat (first | exact Drawn0.refl _ | apply Drawn0.step)⟩

/-! ### lodgerref01_Has: function 34 -/
def lodgerref01_Has.f (k : Nat) (a0 : Int) (a1 : Int) : Option (Bool) := (lodgerref01_Pow.f k a1).bind fun t263 => (if t263 = 0 then (none) else (some ((Int.tmod (IntKind.u64.wrap (Int.tdiv a0 t263)) 2) == 1)))
theorem lodgerref01_Has.mono : ∀ a0 a1 k, LeO (lodgerref01_Has.f k a0 a1) (lodgerref01_Has.f (k + 1) a0 a1) := by
 intro a0 a1 k
 unfold lodgerref01_Has.f
 repeat' first
   | (with_reducible exact lodgerref01_Pow.mono _ _)
   | (with_reducible exact LeO.refl _)
   | (with_reducible exact LeO.none _)
   | (with_reducible refine LeO.ite ?_ ?_)
   | (with_reducible refine LeO.bind ?_ (fun _ => ?_))
   | exact lodgerref01_Pow.mono _ _
   | exact LeO.none _
   | refine LeO.ite ?_ ?_
   | refine LeO.bind ?_ (fun _ => ?_)
set_option maxHeartbeats 8000000 in
set_option maxRecDepth 100000 in
theorem lodgerref01_Has.calls (k : Nat) (a0 : Int) (a1 : Int) (r : Bool) (w : World) (h : lodgerref01_Has.f k a0 a1 = some r) :
  Calls Try.prog 34 #[.int .u64 a0, .int .i64 a1] w fun e w' => e = .returned (.bool r) ∧ Drawn0 w w' := by
 have H : ((lodgerref01_Pow.f k a1).bind fun t263 => (if t263 = 0 then (none) else (some ((Int.tmod (IntKind.u64.wrap (Int.tdiv a0 t263)) 2) == 1)))) = some r := h
 clear h
 replace H := Option.bind_eq_some_iff.mp H
 obtain ⟨t263, A30, H⟩ := H
 replace H : (if t263 = 0 then (none) else (some ((Int.tmod (IntKind.u64.wrap (Int.tdiv a0 t263)) 2) == 1))) = some r := H
 have A3 := Aside0.mk A30
 clear A30
 by_cases c4 : t263 = 0
 ·rw [if_pos c4] at H
  exact absurd H (by simp)
 ·rw [if_neg c4] at H
  have c4b0 : (t263 == 0) = false := beq_eq_false_iff_ne.mpr c4
  have c4b1 : (t263 != 0) = true := bne_iff_ne.mpr c4
  obtain rfl := Option.some.inj H
  go_enter Try.func34, Try.ntmps34
  go_wp2_with (first | ((with_reducible refine gate_callee (f := 48) rfl ?_); refine goesL_ (some 7) rfl rfl Try.func48 (by kernel_rfl) rfl #[.int .i64 a1] rfl (by (try simp only [List.map_toArray, List.map_cons, List.map_nil]); first | done | rfl | (simp only [List.length_drop, List.length_take]; rfl)) ?_; (with_reducible refine (lodgerref01_Pow.calls k a1 t263 _ A3.out).mono ?_); rintro e w' ⟨rfl, ⟨nd, rfl⟩⟩; refine ⟨_, rfl, ?_⟩) | (go_at_call 48; (with_reducible refine (lodgerref01_Pow.calls k a1 t263 _ A3.out).mono ?_); rintro e w' ⟨rfl, ⟨nd, rfl⟩⟩))
  go_ret
  exact ⟨by first | rfl | (simp; done) | (simp [*]; done), by repeat (first | exact Drawn0.refl _ | apply Drawn0.step)⟩

/-! ### lodgerref09_Of: function 23 -/
def lodgerref09_Of.l0 : Nat → List Int → List Int → Int → Int → Int → List Int → Int → Int → Int → Int → Option (List Int)
 | 0, _, _, _, _, _, _, _, _, _, _ => none
 | k + 1, x1, x5, x6, x265000, x265001, x265002, x265003, x265004, x265005, x265006 => (lodgerref05_Many.f k x265000 x265001).bind fun t265 => (if x6 < t265 then (if 0 ≤ (wrap64 (Int.tdiv x6 32)) then (if (wrap64 (Int.tdiv x6 32)) < (x1.length : Int) then ((lodgerref01_Has.f k (rd x1 (wrap64 (Int.tdiv x6 32))) (Int.tmod x6 32)).bind fun t267 => (if t267 = true then ((lodgerref05_Held.f k x265000 x265001 x265002 x265003 x265004 x265005 x265006 x6).bind fun t268 => (if t268 = true then (lodgerref09_Of.l0 k x1 x5 (wrap64 (x6 + 1)) x265000 x265001 x265002 x265003 x265004 x265005 x265006) else (if x5.length < 17592186044416 then (lodgerref09_Of.l0 k x1 (x5 ++ [x6]) (wrap64 (x6 + 1)) x265000 x265001 x265002 x265003 x265004 x265005 x265006) else (none)))) else (lodgerref09_Of.l0 k x1 x5 (wrap64 (x6 + 1)) x265000 x265001 x265002 x265003 x265004 x265005 x265006))) else (none)) else (none)) else (some x5))
def lodgerref09_Of.f (k : Nat) (a0_0 : Int) (a0_1 : Int) (l0_2 : List Int) (a0_3 : Int) (a0_4 : Int) (a0_5 : Int) (a0_6 : Int) (l1 : List Int) : Option (List Int) := lodgerref09_Of.l0 k l1 ([] : List Int) 0 a0_0 a0_1 l0_2 a0_3 a0_4 a0_5 a0_6
theorem lodgerref09_Of.mono_l : ∀ k, (∀ y0 y1 y2 y3 y4 y5 y6 y7 y8 y9, LeO (lodgerref09_Of.l0 k y0 y1 y2 y3 y4 y5 y6 y7 y8 y9) (lodgerref09_Of.l0 (k + 1) y0 y1 y2 y3 y4 y5 y6 y7 y8 y9))
 | 0 => fun _ _ _ _ _ _ _ _ _ _ r h => by simp [lodgerref09_Of.l0] at h
 | k + 1 => by
  have ih0 := lodgerref09_Of.mono_l k
  ·intro y0 y1 y2 y3 y4 y5 y6 y7 y8 y9
   unfold lodgerref09_Of.l0
   repeat' first
   | (with_reducible exact ih0 _ _ _ _ _ _ _ _ _ _)
   | (with_reducible exact lodgerref01_Has.mono _ _ _)
   | (with_reducible exact lodgerref05_Held.mono _ _ _ _ _ _ _ _ _)
   | (with_reducible exact lodgerref05_Many.mono _ _ _)
   | (with_reducible exact LeO.refl _)
   | (with_reducible exact LeO.none _)
   | (with_reducible refine LeO.ite ?_ ?_)
   | (with_reducible refine LeO.bind ?_ (fun _ => ?_))
   | exact ih0 _ _ _ _ _ _ _ _ _ _
   | exact lodgerref01_Has.mono _ _ _
   | exact lodgerref05_Held.mono _ _ _ _ _ _ _ _ _
   | exact lodgerref05_Many.mono _ _ _
   | exact LeO.none _
   | refine LeO.ite ?_ ?_
   | refine LeO.bind ?_ (fun _ => ?_)
theorem lodgerref09_Of.mono : ∀ a0 a1 a2 a3 a4 a5 a6 a7 k, LeO (lodgerref09_Of.f k a0 a1 a2 a3 a4 a5 a6 a7) (lodgerref09_Of.f (k + 1) a0 a1 a2 a3 a4 a5 a6 a7) := by
 intro a0 a1 a2 a3 a4 a5 a6 a7 k
 have ih0 := lodgerref09_Of.mono_l k
 unfold lodgerref09_Of.f
 repeat' first
   | (with_reducible exact ih0 _ _ _ _ _ _ _ _ _ _)
   | (with_reducible exact lodgerref01_Has.mono _ _ _)
   | (with_reducible exact lodgerref05_Held.mono _ _ _ _ _ _ _ _ _)
   | (with_reducible exact lodgerref05_Many.mono _ _ _)
   | (with_reducible exact LeO.refl _)
   | (with_reducible exact LeO.none _)
   | (with_reducible refine LeO.ite ?_ ?_)
   | (with_reducible refine LeO.bind ?_ (fun _ => ?_))
   | exact ih0 _ _ _ _ _ _ _ _ _ _
   | exact lodgerref01_Has.mono _ _ _
   | exact lodgerref05_Held.mono _ _ _ _ _ _ _ _ _
   | exact lodgerref05_Many.mono _ _ _
   | exact LeO.none _
   | refine LeO.ite ?_ ?_
   | refine LeO.bind ?_ (fun _ => ?_)
set_option maxHeartbeats 8000000 in
set_option maxRecDepth 100000 in
theorem lodgerref09_Of.calls (k : Nat) (a0_0 : Int) (a0_1 : Int) (A0_2 : Option Addr) (c0_2 : Nat) (l0_2 : List Int) (a0_3 : Int) (a0_4 : Int) (a0_5 : Int) (a0_6 : Int) (A1 : Option Addr) (c1 : Nat) (l1 : List Int) (r : List Int) (w : World) (hr0_2 : Kd.C (Kd.int .i64) w A0_2 l0_2.length l0_2) (hc0_2 : l0_2.length ≤ c0_2) (hr1 : Kd.C (Kd.int .u64) w A1 l1.length l1) (hc1 : l1.length ≤ c1) (h : lodgerref09_Of.f k a0_0 a0_1 l0_2 a0_3 a0_4 a0_5 a0_6 l1 = some r) :
  Calls Try.prog 23 #[.agg #[.int .u32 a0_0, .int .i64 a0_1, .slice A0_2 l0_2.length c0_2, .int .i64 a0_3, .int .i64 a0_4, .int .i64 a0_5, .int .i64 a0_6], .slice A1 l1.length c1] w fun e w' => ∃ v0_ : Value, e = .returned (v0_) ∧ Kd.R (Kd.int .i64) 3 w' w.heap.size (fun _ => True) v0_ r ∧ Below w.heap.size w w' := by
 have hu27 := Try.underlying27
 have hu24 := Try.underlying24
 have HR0_2 := Aside0.mk hr0_2
 have HC0_2 := Aside0.mk hc0_2
 clear hr0_2 hc0_2
 have HR1 := Aside0.mk hr1
 have HC1 := Aside0.mk hc1
 clear hr1 hc1
 have HB := Aside0.mk (Below.refl w.heap.size w)
 have H : (lodgerref09_Of.l0 k l1 ([] : List Int) 0 a0_0 a0_1 l0_2 a0_3 a0_4 a0_5 a0_6) = some r := h
 clear h
 have H' := Aside0.mk H
 clear H
 go_enter Try.func23, Try.ntmps23
 go_wp2_with (first | ((with_reducible refine gate_dst (N := 2) rfl ?_); refine box_event ?hg (N := 2) ?hd (cs := #[.int .u32 a0_0, .int .i64 a0_1, .slice A0_2 l0_2.length c0_2, .int .i64 a0_3, .int .i64 a0_4, .int .i64 a0_5, .int .i64 a0_6]) (t := 27) ?hr ?_; (case hd => rfl); (case hg => rfl); (case hr => first | (go_simp; done) | (go_simp; rfl)); intro gb264 hg w3 hbox hb; have n0_ := Aside0.mk (below_step (by repeat (first | (with_reducible first | exact HB.out | apply below_alloc | apply pw_below_drewN | apply below_drew1) | exact HB.out)) hb); have n1_ := Aside0.mk (hbox); have n2_ := Aside0.mk ((by rw [hg]; exact (below_size (by repeat (first | (with_reducible first | exact HB.out | apply below_alloc | apply pw_below_drewN | apply below_drew1) | exact HB.out))) : w.heap.size ≤ gb264)); have n3_ := Aside0.mk ((by rw [hg]; exact (below_size (by repeat (first | (with_reducible first | exact HB.out | apply below_alloc | apply pw_below_drewN | apply below_drew1) | exact HB.out))) : w.heap.size ≤ gb264)); clear HB; have HB := n0_; have BK264 := n1_; have GW264 := n2_; have GE264 := n3_; clear n0_ n1_ n2_ n3_; clear hb hbox hg))
 go_loopg [5, 6] k (fun kq v5 v6 w' => ∃ (x5_1 : List Int) (x6_1 : Int), v6 = .int .i64 x6_1 ∧ Aside0 (lodgerref09_Of.l0 kq l1 x5_1 x6_1 a0_0 a0_1 l0_2 a0_3 a0_4 a0_5 a0_6 = some r) ∧ Aside0 (kq ≤ k) ∧ Aside0 (Kd.R (Kd.int .i64) 3 w' w.heap.size (fun _ => True) v5 x5_1) ∧ Aside0 (w'.heap[gb264]? = some (.cells #[.int .u32 a0_0, .int .i64 a0_1, (.slice A0_2 l0_2.length c0_2), .int .i64 a0_3, .int .i64 a0_4, .int .i64 a0_5, .int .i64 a0_6] 27 (0, 0))) ∧ Aside0 (Below w.heap.size w w'))
 case atStart => exact ⟨(([] : List Int)), (0), (by first | rfl | (simp; done) | (simp [*]; done)), H', ⟨Nat.le_refl _⟩, ⟨by first | exact Kd.R_nil _ _ _ _ _ | exact Kd.N_nil _ _ _ _ _ | exact Kd.V_nil _ _ _ _ _ | exact Kd.Q_nil _ _ _ _ _ | exact Kd.S_nil _ _ _ _ _⟩, ⟨by (with_reducible repeat (first | refine blk_drewN ?_ _ | refine blk_drew ?_ | refine blk_alloc ?_ _)); exact BK264.out⟩, ⟨by repeat (first | (with_reducible first | exact HB.out | apply below_alloc | apply pw_below_drewN | apply below_drew1 | refine below_set ?_ GE264.out) | exact HB.out)⟩⟩
 case round =>
  clear H'
  try clear c1
  try clear c2
  try clear p2
  obtain ⟨x5_1, x6_1, rfl, HA, HK1, HO_5, BK264, HB⟩ := hrel
  cases gk with
  | zero => exact absurd HA.out (by simp [lodgerref09_Of.l0])
  | succ k1 =>
   have H := HA.out
   clear HA
   simp only [lodgerref09_Of.l0] at H
   replace H := Option.bind_eq_some_iff.mp H
   obtain ⟨t265, A40, H⟩ := H
   replace H : (if x6_1 < t265 then (if 0 ≤ (wrap64 (Int.tdiv x6_1 32)) then (if (wrap64 (Int.tdiv x6_1 32)) < (l1.length : Int) then ((lodgerref01_Has.f k1 (rd l1 (wrap64 (Int.tdiv x6_1 32))) (Int.tmod x6_1 32)).bind fun t267 => (if t267 = true then ((lodgerref05_Held.f k1 a0_0 a0_1 l0_2 a0_3 a0_4 a0_5 a0_6 x6_1).bind fun t268 => (if t268 = true then (lodgerref09_Of.l0 k1 l1 x5_1 (wrap64 (x6_1 + 1)) a0_0 a0_1 l0_2 a0_3 a0_4 a0_5 a0_6) else (if x5_1.length < 17592186044416 then (lodgerref09_Of.l0 k1 l1 (x5_1 ++ [x6_1]) (wrap64 (x6_1 + 1)) a0_0 a0_1 l0_2 a0_3 a0_4 a0_5 a0_6) else (none)))) else (lodgerref09_Of.l0 k1 l1 x5_1 (wrap64 (x6_1 + 1)) a0_0 a0_1 l0_2 a0_3 a0_4 a0_5 a0_6))) else (none)) else (none)) else (some x5_1)) = some r := H
   have A4 := Aside0.mk A40
   clear A40
   by_cases c5 : x6_1 < t265
   ·rw [if_pos c5] at H
    have c5b0 : decide (x6_1 < t265) = true := decide_eq_true c5
    clear c5
    obtain ⟨ji6, hji6⟩ : ∃ j_ : Int, (wrap64 (Int.tdiv x6_1 32)) = j_ := ⟨_, rfl⟩
    replace H : (if 0 ≤ (ji6) then (if (ji6) < (l1.length : Int) then ((lodgerref01_Has.f k1 (rd l1 (ji6)) (Int.tmod x6_1 32)).bind fun t267 => (if t267 = true then ((lodgerref05_Held.f k1 a0_0 a0_1 l0_2 a0_3 a0_4 a0_5 a0_6 x6_1).bind fun t268 => (if t268 = true then (lodgerref09_Of.l0 k1 l1 x5_1 (wrap64 (x6_1 + 1)) a0_0 a0_1 l0_2 a0_3 a0_4 a0_5 a0_6) else (if x5_1.length < 17592186044416 then (lodgerref09_Of.l0 k1 l1 (x5_1 ++ [x6_1]) (wrap64 (x6_1 + 1)) a0_0 a0_1 l0_2 a0_3 a0_4 a0_5 a0_6) else (none)))) else (lodgerref09_Of.l0 k1 l1 x5_1 (wrap64 (x6_1 + 1)) a0_0 a0_1 l0_2 a0_3 a0_4 a0_5 a0_6))) else (none)) else (none)) = some r := by first | (rw [hji6] at H; exact H) | (simp only [hji6] at H ⊢; exact H)
    (try rw [hji6] at A4)
    have hji6w : (IntKind.i64.wrap (Int.tdiv x6_1 32)) = ji6 := (i64_w _).trans hji6
    by_cases c7 : 0 ≤ (ji6)
    ·rw [if_pos c7] at H
     have c7b0 : decide (0 ≤ (ji6)) = true := decide_eq_true c7
     clear c7
     by_cases c8 : (ji6) < (l1.length : Int)
     ·rw [if_pos c8] at H
      have c8b0 : decide ((ji6) < (l1.length : Int)) = true := decide_eq_true c8
      clear c8
      replace H := Option.bind_eq_some_iff.mp H
      obtain ⟨t267, A90, H⟩ := H
      replace H : (if t267 = true then ((lodgerref05_Held.f k1 a0_0 a0_1 l0_2 a0_3 a0_4 a0_5 a0_6 x6_1).bind fun t268 => (if t268 = true then (lodgerref09_Of.l0 k1 l1 x5_1 (wrap64 (x6_1 + 1)) a0_0 a0_1 l0_2 a0_3 a0_4 a0_5 a0_6) else (if x5_1.length < 17592186044416 then (lodgerref09_Of.l0 k1 l1 (x5_1 ++ [x6_1]) (wrap64 (x6_1 + 1)) a0_0 a0_1 l0_2 a0_3 a0_4 a0_5 a0_6) else (none)))) else (lodgerref09_Of.l0 k1 l1 x5_1 (wrap64 (x6_1 + 1)) a0_0 a0_1 l0_2 a0_3 a0_4 a0_5 a0_6)) = some r := H
      have A9 := Aside0.mk A90
      clear A90
      by_cases c10 : t267 = true
      ·subst c10
       have H1 : ((lodgerref05_Held.f k1 a0_0 a0_1 l0_2 a0_3 a0_4 a0_5 a0_6 x6_1).bind fun t268 => (if t268 = true then (lodgerref09_Of.l0 k1 l1 x5_1 (wrap64 (x6_1 + 1)) a0_0 a0_1 l0_2 a0_3 a0_4 a0_5 a0_6) else (if x5_1.length < 17592186044416 then (lodgerref09_Of.l0 k1 l1 (x5_1 ++ [x6_1]) (wrap64 (x6_1 + 1)) a0_0 a0_1 l0_2 a0_3 a0_4 a0_5 a0_6) else (none)))) = some r := by rw [if_pos rfl] at H; exact H
       clear H
       have H := H1
       clear H1
       replace H := Option.bind_eq_some_iff.mp H
       obtain ⟨t268, A110, H⟩ := H
       replace H : (if t268 = true then (lodgerref09_Of.l0 k1 l1 x5_1 (wrap64 (x6_1 + 1)) a0_0 a0_1 l0_2 a0_3 a0_4 a0_5 a0_6) else (if x5_1.length < 17592186044416 then (lodgerref09_Of.l0 k1 l1 (x5_1 ++ [x6_1]) (wrap64 (x6_1 + 1)) a0_0 a0_1 l0_2 a0_3 a0_4 a0_5 a0_6) else (none))) = some r := H
       have A11 := Aside0.mk A110
       clear A110
       by_cases c12 : t268 = true
       ·subst c12
        have H1 : (lodgerref09_Of.l0 k1 l1 x5_1 (wrap64 (x6_1 + 1)) a0_0 a0_1 l0_2 a0_3 a0_4 a0_5 a0_6) = some r := by rw [if_pos rfl] at H; exact H
        clear H
        have H := H1
        clear H1
        have H' := Aside0.mk H
        clear H
        have hcz13_0 : wr.cell? ⟨gb264, 0, none⟩ = some (.int .u32 a0_0) := (blk_cell BK264.out 0).trans rfl
        have hcz13_1 : wr.cell? ⟨gb264, 1, none⟩ = some (.int .i64 a0_1) := (blk_cell BK264.out 1).trans rfl
        have hcz13_2 : wr.cell? ⟨gb264, 2, none⟩ = some (.slice A0_2 l0_2.length c0_2) := (blk_cell BK264.out 2).trans rfl
        have hcz13_3 : wr.cell? ⟨gb264, 3, none⟩ = some (.int .i64 a0_3) := (blk_cell BK264.out 3).trans rfl
        have hcz13_4 : wr.cell? ⟨gb264, 4, none⟩ = some (.int .i64 a0_4) := (blk_cell BK264.out 4).trans rfl
        have hcz13_5 : wr.cell? ⟨gb264, 5, none⟩ = some (.int .i64 a0_5) := (blk_cell BK264.out 5).trans rfl
        have hcz13_6 : wr.cell? ⟨gb264, 6, none⟩ = some (.int .i64 a0_6) := (blk_cell BK264.out 6).trans rfl
        have hfz13_0 := blk_frozen BK264.out 0
        have hfz13_1 := blk_frozen BK264.out 1
        have hfz13_2 := blk_frozen BK264.out 2
        have hfz13_3 := blk_frozen BK264.out 3
        have hfz13_4 := blk_frozen BK264.out 4
        have hfz13_5 := blk_frozen BK264.out 5
        have hfz13_6 := blk_frozen BK264.out 6
        go_wp2_with (first | ((with_reducible refine gate_callee (f := 24) rfl ?_); refine goesL_ (some 10) rfl rfl Try.func24 (by kernel_rfl) rfl #[.agg #[.int .u32 a0_0, .int .i64 a0_1]] rfl (by (try simp only [List.map_toArray, List.map_cons, List.map_nil]); first | done | rfl | (simp only [List.length_drop, List.length_take]; rfl)) ?_; (with_reducible refine (lodgerref05_Many.calls k1 a0_0 a0_1 t265 _ A4.out).mono ?_); rintro e w14 ⟨rfl, hb⟩; refine ⟨_, rfl, ?_⟩; have n0_ := Aside0.mk (Kd.R_below (by (with_reducible repeat (first | apply Kd.R_alloc | apply Kd.R_drewN | apply Kd.R_drew)); exact HO_5.out) hb); have n1_ := Aside0.mk (blk_below (g := gb264) (o := .cells #[.int .u32 a0_0, .int .i64 a0_1, .slice A0_2 l0_2.length c0_2, .int .i64 a0_3, .int .i64 a0_4, .int .i64 a0_5, .int .i64 a0_6] 27 (0, 0)) (by (with_reducible repeat (first | refine blk_drewN ?_ _ | refine blk_drew ?_ | refine blk_alloc ?_ _)); exact BK264.out) hb); have n2_ := Aside0.mk (below_step (by repeat (first | (with_reducible first | exact HB.out | apply below_alloc | apply pw_below_drewN | apply below_drew1 | refine below_set ?_ GE264.out) | exact HB.out)) hb); clear HO_5; clear BK264; clear HB; have HO_5 := n0_; have BK264 := n1_; have HB := n2_; clear n0_ n1_ n2_; (try clear hb); (try clear hb2); (try clear hk); (try clear hi); have p266 : 0 ≤ ((ji6) : Int) := of_decide_eq_true (by first | (with_reducible assumption) | assumption); have q266 : (ji6) < (l1.length : Int) := of_decide_eq_true (by first | (with_reducible assumption) | assumption); obtain ⟨ad266, e266, hx266_0⟩ := Kd.at_int HR1.out (ji6) p266 q266; cases e266; replace hx266_0 := (HB.out.cell (World.block_lt_of_cell? w _ hx266_0)).trans hx266_0; replace p266 := eq_true p266; replace q266 := eq_true q266) | ((with_reducible refine gate_callee (f := 34) rfl ?_); refine goesL_ (some 21) rfl rfl Try.func34 (by kernel_rfl) rfl #[.int .u64 (rd l1 (ji6)), .int .i64 (Int.tmod x6_1 32)] rfl (by (try simp only [List.map_toArray, List.map_cons, List.map_nil]); first | done | (simp only [hji6]; rfl) | rfl | (simp only [List.length_drop, List.length_take]; rfl)) ?_; (with_reducible refine (lodgerref01_Has.calls k1 (rd l1 (ji6)) (Int.tmod x6_1 32) true _ A9.out).mono ?_); rintro e w' ⟨rfl, ⟨nd, rfl⟩⟩; refine ⟨_, rfl, ?_⟩; have hcz15_0 : w14.cell? ⟨gb264, 0, none⟩ = some (.int .u32 a0_0) := (blk_cell BK264.out 0).trans rfl; have hcz15_1 : w14.cell? ⟨gb264, 1, none⟩ = some (.int .i64 a0_1) := (blk_cell BK264.out 1).trans rfl; have hcz15_2 : w14.cell? ⟨gb264, 2, none⟩ = some (.slice A0_2 l0_2.length c0_2) := (blk_cell BK264.out 2).trans rfl; have hcz15_3 : w14.cell? ⟨gb264, 3, none⟩ = some (.int .i64 a0_3) := (blk_cell BK264.out 3).trans rfl; have hcz15_4 : w14.cell? ⟨gb264, 4, none⟩ = some (.int .i64 a0_4) := (blk_cell BK264.out 4).trans rfl; have hcz15_5 : w14.cell? ⟨gb264, 5, none⟩ = some (.int .i64 a0_5) := (blk_cell BK264.out 5).trans rfl; have hcz15_6 : w14.cell? ⟨gb264, 6, none⟩ = some (.int .i64 a0_6) := (blk_cell BK264.out 6).trans rfl; have hfz15_0 := blk_frozen BK264.out 0; have hfz15_1 := blk_frozen BK264.out 1; have hfz15_2 := blk_frozen BK264.out 2; have hfz15_3 := blk_frozen BK264.out 3; have hfz15_4 := blk_frozen BK264.out 4; have hfz15_5 := blk_frozen BK264.out 5; have hfz15_6 := blk_frozen BK264.out 6) | (go_at_call 30; (with_reducible refine (lodgerref05_Held.calls k1 a0_0 a0_1 _ _ l0_2 a0_3 a0_4 a0_5 a0_6 x6_1 true _ ?side1 ?side2 A11.out).mono ?_); (case side1 => repeat (first | exact (Kd.C_below HR0_2.out (by repeat (first | (with_reducible first | exact HB.out | apply below_alloc | apply pw_below_drewN | apply below_drew1 | refine below_set ?_ GE264.out) | exact HB.out))) | (with_reducible refine Kd.C_alloc ?_ _) | (with_reducible refine Kd.C_drewN ?_ _) | (with_reducible refine Kd.C_drew ?_))); (case side2 => exact HC0_2.out); rintro e w16 ⟨rfl, hb⟩; have n0_ := Aside0.mk (Kd.R_below (by (with_reducible repeat (first | apply Kd.R_alloc | apply Kd.R_drewN | apply Kd.R_drew)); exact HO_5.out) hb); have n1_ := Aside0.mk (blk_below (g := gb264) (o := .cells #[.int .u32 a0_0, .int .i64 a0_1, .slice A0_2 l0_2.length c0_2, .int .i64 a0_3, .int .i64 a0_4, .int .i64 a0_5, .int .i64 a0_6] 27 (0, 0)) (by (with_reducible repeat (first | refine blk_drewN ?_ _ | refine blk_drew ?_ | refine blk_alloc ?_ _)); exact BK264.out) hb); have n2_ := Aside0.mk (below_step (by repeat (first | (with_reducible first | exact HB.out | apply below_alloc | apply pw_below_drewN | apply below_drew1 | refine below_set ?_ GE264.out) | exact HB.out)) hb); clear HO_5; clear BK264; clear HB; have HO_5 := n0_; have BK264 := n1_; have HB := n2_; clear n0_ n1_ n2_; (try clear hb); (try clear hb2); (try clear hk); (try clear hi)))
        go_roundg k1
        case measure => have := HK1.out; omega
        case rel => exact ⟨(x5_1), (wrap64 (x6_1 + 1)), (by first | rfl | (simp; done) | (simp [*]; done)), H', ⟨by have := HK1.out; omega⟩, ⟨by (with_reducible repeat (first | apply Kd.R_alloc | apply Kd.R_drewN | apply Kd.R_drew)); exact HO_5.out⟩, ⟨by (with_reducible repeat (first | refine blk_drewN ?_ _ | refine blk_drew ?_ | refine blk_alloc ?_ _)); exact BK264.out⟩, ⟨by repeat (first | (with_reducible first | exact HB.out | apply below_alloc | apply pw_below_drewN | apply below_drew1 | refine below_set ?_ GE264.out) | exact HB.out)⟩⟩
       ·replace c12 := Bool.eq_false_iff.mpr c12
        subst c12
        have H1 : (if x5_1.length < 17592186044416 then (lodgerref09_Of.l0 k1 l1 (x5_1 ++ [x6_1]) (wrap64 (x6_1 + 1)) a0_0 a0_1 l0_2 a0_3 a0_4 a0_5 a0_6) else (none)) = some r := by rw [if_neg (show ¬ (false = true) by decide)] at H; exact H
        clear H
        have H := H1
        clear H1
        by_cases c17 : x5_1.length < 17592186044416
        ·rw [if_pos c17] at H
         have LMc17 := Aside0.mk c17
         clear c17
         obtain ⟨y269, hy269⟩ : ∃ y_ : List Int, y_ = (x5_1 ++ [x6_1]) := ⟨_, rfl⟩
         replace H : (lodgerref09_Of.l0 k1 l1 y269 (wrap64 (x6_1 + 1)) a0_0 a0_1 l0_2 a0_3 a0_4 a0_5 a0_6) = some r := by first | (rw [hy269]; with_reducible exact H) | (have H2_ := (Option.bind_some _ _).symm.trans H; rw [hy269]; with_reducible exact H2_) | (have H2_ := (Option.bind_some _ _).symm.trans H; with_reducible exact H2_) | with_reducible exact H | (rw [hy269]; exact H) | exact H
         have Ny269 := Aside0.mk hy269
         clear hy269
         have H' := Aside0.mk H
         clear H
         have hcz18_0 : wr.cell? ⟨gb264, 0, none⟩ = some (.int .u32 a0_0) := (blk_cell BK264.out 0).trans rfl
         have hcz18_1 : wr.cell? ⟨gb264, 1, none⟩ = some (.int .i64 a0_1) := (blk_cell BK264.out 1).trans rfl
         have hcz18_2 : wr.cell? ⟨gb264, 2, none⟩ = some (.slice A0_2 l0_2.length c0_2) := (blk_cell BK264.out 2).trans rfl
         have hcz18_3 : wr.cell? ⟨gb264, 3, none⟩ = some (.int .i64 a0_3) := (blk_cell BK264.out 3).trans rfl
         have hcz18_4 : wr.cell? ⟨gb264, 4, none⟩ = some (.int .i64 a0_4) := (blk_cell BK264.out 4).trans rfl
         have hcz18_5 : wr.cell? ⟨gb264, 5, none⟩ = some (.int .i64 a0_5) := (blk_cell BK264.out 5).trans rfl
         have hcz18_6 : wr.cell? ⟨gb264, 6, none⟩ = some (.int .i64 a0_6) := (blk_cell BK264.out 6).trans rfl
         have hfz18_0 := blk_frozen BK264.out 0
         have hfz18_1 := blk_frozen BK264.out 1
         have hfz18_2 := blk_frozen BK264.out 2
         have hfz18_3 := blk_frozen BK264.out 3
         have hfz18_4 := blk_frozen BK264.out 4
         have hfz18_5 := blk_frozen BK264.out 5
         have hfz18_6 := blk_frozen BK264.out 6
         go_wp2_with (first | ((with_reducible refine gate_callee (f := 24) rfl ?_); refine goesL_ (some 10) rfl rfl Try.func24 (by kernel_rfl) rfl #[.agg #[.int .u32 a0_0, .int .i64 a0_1]] rfl (by (try simp only [List.map_toArray, List.map_cons, List.map_nil]); first | done | rfl | (simp only [List.length_drop, List.length_take]; rfl)) ?_; (with_reducible refine (lodgerref05_Many.calls k1 a0_0 a0_1 t265 _ A4.out).mono ?_); rintro e w19 ⟨rfl, hb⟩; refine ⟨_, rfl, ?_⟩; have n0_ := Aside0.mk (Kd.R_below (by (with_reducible repeat (first | apply Kd.R_alloc | apply Kd.R_drewN | apply Kd.R_drew)); exact HO_5.out) hb); have n1_ := Aside0.mk (blk_below (g := gb264) (o := .cells #[.int .u32 a0_0, .int .i64 a0_1, .slice A0_2 l0_2.length c0_2, .int .i64 a0_3, .int .i64 a0_4, .int .i64 a0_5, .int .i64 a0_6] 27 (0, 0)) (by (with_reducible repeat (first | refine blk_drewN ?_ _ | refine blk_drew ?_ | refine blk_alloc ?_ _)); exact BK264.out) hb); have n2_ := Aside0.mk (below_step (by repeat (first | (with_reducible first | exact HB.out | apply below_alloc | apply pw_below_drewN | apply below_drew1 | refine below_set ?_ GE264.out) | exact HB.out)) hb); clear HO_5; clear BK264; clear HB; have HO_5 := n0_; have BK264 := n1_; have HB := n2_; clear n0_ n1_ n2_; (try clear hb); (try clear hb2); (try clear hk); (try clear hi); have p266 : 0 ≤ ((ji6) : Int) := of_decide_eq_true (by first | (with_reducible assumption) | assumption); have q266 : (ji6) < (l1.length : Int) := of_decide_eq_true (by first | (with_reducible assumption) | assumption); obtain ⟨ad266, e266, hx266_0⟩ := Kd.at_int HR1.out (ji6) p266 q266; cases e266; replace hx266_0 := (HB.out.cell (World.block_lt_of_cell? w _ hx266_0)).trans hx266_0; replace p266 := eq_true p266; replace q266 := eq_true q266) | ((with_reducible refine gate_callee (f := 34) rfl ?_); refine goesL_ (some 21) rfl rfl Try.func34 (by kernel_rfl) rfl #[.int .u64 (rd l1 (ji6)), .int .i64 (Int.tmod x6_1 32)] rfl (by (try simp only [List.map_toArray, List.map_cons, List.map_nil]); first | done | (simp only [hji6]; rfl) | rfl | (simp only [List.length_drop, List.length_take]; rfl)) ?_; (with_reducible refine (lodgerref01_Has.calls k1 (rd l1 (ji6)) (Int.tmod x6_1 32) true _ A9.out).mono ?_); rintro e w' ⟨rfl, ⟨nd, rfl⟩⟩; refine ⟨_, rfl, ?_⟩; have hcz20_0 : w19.cell? ⟨gb264, 0, none⟩ = some (.int .u32 a0_0) := (blk_cell BK264.out 0).trans rfl; have hcz20_1 : w19.cell? ⟨gb264, 1, none⟩ = some (.int .i64 a0_1) := (blk_cell BK264.out 1).trans rfl; have hcz20_2 : w19.cell? ⟨gb264, 2, none⟩ = some (.slice A0_2 l0_2.length c0_2) := (blk_cell BK264.out 2).trans rfl; have hcz20_3 : w19.cell? ⟨gb264, 3, none⟩ = some (.int .i64 a0_3) := (blk_cell BK264.out 3).trans rfl; have hcz20_4 : w19.cell? ⟨gb264, 4, none⟩ = some (.int .i64 a0_4) := (blk_cell BK264.out 4).trans rfl; have hcz20_5 : w19.cell? ⟨gb264, 5, none⟩ = some (.int .i64 a0_5) := (blk_cell BK264.out 5).trans rfl; have hcz20_6 : w19.cell? ⟨gb264, 6, none⟩ = some (.int .i64 a0_6) := (blk_cell BK264.out 6).trans rfl; have hfz20_0 := blk_frozen BK264.out 0; have hfz20_1 := blk_frozen BK264.out 1; have hfz20_2 := blk_frozen BK264.out 2; have hfz20_3 := blk_frozen BK264.out 3; have hfz20_4 := blk_frozen BK264.out 4; have hfz20_5 := blk_frozen BK264.out 5; have hfz20_6 := blk_frozen BK264.out 6) | (go_at_call 30; (with_reducible refine (lodgerref05_Held.calls k1 a0_0 a0_1 _ _ l0_2 a0_3 a0_4 a0_5 a0_6 x6_1 false _ ?side1 ?side2 A11.out).mono ?_); (case side1 => repeat (first | exact (Kd.C_below HR0_2.out (by repeat (first | (with_reducible first | exact HB.out | apply below_alloc | apply pw_below_drewN | apply below_drew1 | refine below_set ?_ GE264.out) | exact HB.out))) | (with_reducible refine Kd.C_alloc ?_ _) | (with_reducible refine Kd.C_drewN ?_ _) | (with_reducible refine Kd.C_drew ?_))); (case side2 => exact HC0_2.out); rintro e w21 ⟨rfl, hb⟩; have n0_ := Aside0.mk (Kd.R_below (by (with_reducible repeat (first | apply Kd.R_alloc | apply Kd.R_drewN | apply Kd.R_drew)); exact HO_5.out) hb); have n1_ := Aside0.mk (blk_below (g := gb264) (o := .cells #[.int .u32 a0_0, .int .i64 a0_1, .slice A0_2 l0_2.length c0_2, .int .i64 a0_3, .int .i64 a0_4, .int .i64 a0_5, .int .i64 a0_6] 27 (0, 0)) (by (with_reducible repeat (first | refine blk_drewN ?_ _ | refine blk_drew ?_ | refine blk_alloc ?_ _)); exact BK264.out) hb); have n2_ := Aside0.mk (below_step (by repeat (first | (with_reducible first | exact HB.out | apply below_alloc | apply pw_below_drewN | apply below_drew1 | refine below_set ?_ GE264.out) | exact HB.out)) hb); clear HO_5; clear BK264; clear HB; have HO_5 := n0_; have BK264 := n1_; have HB := n2_; clear n0_ n1_ n2_; (try clear hb); (try clear hb2); (try clear hk); (try clear hi)) | ((with_reducible refine gate_builtin (b := .append) (xs := #[.tmp 28, .tmp 30]) rfl ?_); at_builtin; refine Kd.R_append (Kd.int .i64) (w0 := w) w.heap.size rfl (.tmp 28) (.tmp 30) 25 3 (.int .i64 0) 8 rfl Try.underlying25 info3 rfl (by decide) (by omega) u5 x5_1 x6_1 [.int .i64 x6_1] (fun _ => True) (fun _ => False) rfl rfl ?aP (fun _ hk => hk.elim) ?aF ?aO ?aB ?aS ?aL ?_; (case aP => exact rfl); (case aB => exact (by repeat (first | (with_reducible first | exact HB.out | apply below_alloc | apply pw_below_drewN | apply below_drew1 | refine below_set ?_ GE264.out) | exact HB.out))); (case aF => exact (fun _ _ => trivial)); (case aO => exact (by (with_reducible repeat (first | apply Kd.R_alloc | apply Kd.R_drewN | apply Kd.R_drew)); exact HO_5.out)); (case aS => exact (below_size (by repeat (first | (with_reducible first | exact HB.out | apply below_alloc | apply pw_below_drewN | apply below_drew1 | refine below_set ?_ GE264.out) | exact HB.out)))); (case aL => have := LMc17.out; omega); intro v270 w22 ho hb hg hat; rw [← Ny269.out] at ho; have n0_ := Aside0.mk (blk_grown (g := gb264) (o := .cells #[.int .u32 a0_0, .int .i64 a0_1, .slice A0_2 l0_2.length c0_2, .int .i64 a0_3, .int .i64 a0_4, .int .i64 a0_5, .int .i64 a0_6] 27 (0, 0)) (by (with_reducible repeat (first | refine blk_drewN ?_ _ | refine blk_drew ?_ | refine blk_alloc ?_ _)); exact BK264.out) hg (Kd.R_ne HO_5.out BK264.out (by decide))); have n1_ := Aside0.mk (hb); have n2_ := Aside0.mk (ho); clear BK264; clear HB; clear HO_5; have BK264 := n0_; have HB := n1_; have HO271 := n2_; clear n0_ n1_ n2_; clear ho hb hg hat))
         go_roundg k1
         case measure => have := HK1.out; omega
         case rel => exact ⟨(y269), (wrap64 (x6_1 + 1)), (by first | rfl | (simp; done) | (simp [*]; done)), H', ⟨by have := HK1.out; omega⟩, ⟨by (with_reducible repeat (first | apply Kd.R_alloc | apply Kd.R_drewN | apply Kd.R_drew)); exact HO271.out⟩, ⟨by (with_reducible repeat (first | refine blk_drewN ?_ _ | refine blk_drew ?_ | refine blk_alloc ?_ _)); exact BK264.out⟩, ⟨by repeat (first | (with_reducible first | exact HB.out | apply below_alloc | apply pw_below_drewN | apply below_drew1 | refine below_set ?_ GE264.out) | exact HB.out)⟩⟩
        ·rw [if_neg c17] at H
         exact absurd H (by simp)
      ·replace c10 := Bool.eq_false_iff.mpr c10
       subst c10
       have H1 : (lodgerref09_Of.l0 k1 l1 x5_1 (wrap64 (x6_1 + 1)) a0_0 a0_1 l0_2 a0_3 a0_4 a0_5 a0_6) = some r := by rw [if_neg (show ¬ (false = true) by decide)] at H; exact H
       clear H
       have H := H1
       clear H1
       have H' := Aside0.mk H
       clear H
       have hcz23_0 : wr.cell? ⟨gb264, 0, none⟩ = some (.int .u32 a0_0) := (blk_cell BK264.out 0).trans rfl
       have hcz23_1 : wr.cell? ⟨gb264, 1, none⟩ = some (.int .i64 a0_1) := (blk_cell BK264.out 1).trans rfl
       have hcz23_2 : wr.cell? ⟨gb264, 2, none⟩ = some (.slice A0_2 l0_2.length c0_2) := (blk_cell BK264.out 2).trans rfl
       have hcz23_3 : wr.cell? ⟨gb264, 3, none⟩ = some (.int .i64 a0_3) := (blk_cell BK264.out 3).trans rfl
       have hcz23_4 : wr.cell? ⟨gb264, 4, none⟩ = some (.int .i64 a0_4) := (blk_cell BK264.out 4).trans rfl
       have hcz23_5 : wr.cell? ⟨gb264, 5, none⟩ = some (.int .i64 a0_5) := (blk_cell BK264.out 5).trans rfl
       have hcz23_6 : wr.cell? ⟨gb264, 6, none⟩ = some (.int .i64 a0_6) := (blk_cell BK264.out 6).trans rfl
       have hfz23_0 := blk_frozen BK264.out 0
       have hfz23_1 := blk_frozen BK264.out 1
       have hfz23_2 := blk_frozen BK264.out 2
       have hfz23_3 := blk_frozen BK264.out 3
       have hfz23_4 := blk_frozen BK264.out 4
       have hfz23_5 := blk_frozen BK264.out 5
       have hfz23_6 := blk_frozen BK264.out 6
       go_wp2_with (first | ((with_reducible refine gate_callee (f := 24) rfl ?_); refine goesL_ (some 10) rfl rfl Try.func24 (by kernel_rfl) rfl #[.agg #[.int .u32 a0_0, .int .i64 a0_1]] rfl (by (try simp only [List.map_toArray, List.map_cons, List.map_nil]); first | done | rfl | (simp only [List.length_drop, List.length_take]; rfl)) ?_; (with_reducible refine (lodgerref05_Many.calls k1 a0_0 a0_1 t265 _ A4.out).mono ?_); rintro e w24 ⟨rfl, hb⟩; refine ⟨_, rfl, ?_⟩; have n0_ := Aside0.mk (Kd.R_below (by (with_reducible repeat (first | apply Kd.R_alloc | apply Kd.R_drewN | apply Kd.R_drew)); exact HO_5.out) hb); have n1_ := Aside0.mk (blk_below (g := gb264) (o := .cells #[.int .u32 a0_0, .int .i64 a0_1, .slice A0_2 l0_2.length c0_2, .int .i64 a0_3, .int .i64 a0_4, .int .i64 a0_5, .int .i64 a0_6] 27 (0, 0)) (by (with_reducible repeat (first | refine blk_drewN ?_ _ | refine blk_drew ?_ | refine blk_alloc ?_ _)); exact BK264.out) hb); have n2_ := Aside0.mk (below_step (by repeat (first | (with_reducible first | exact HB.out | apply below_alloc | apply pw_below_drewN | apply below_drew1 | refine below_set ?_ GE264.out) | exact HB.out)) hb); clear HO_5; clear BK264; clear HB; have HO_5 := n0_; have BK264 := n1_; have HB := n2_; clear n0_ n1_ n2_; (try clear hb); (try clear hb2); (try clear hk); (try clear hi); have p266 : 0 ≤ ((ji6) : Int) := of_decide_eq_true (by first | (with_reducible assumption) | assumption); have q266 : (ji6) < (l1.length : Int) := of_decide_eq_true (by first | (with_reducible assumption) | assumption); obtain ⟨ad266, e266, hx266_0⟩ := Kd.at_int HR1.out (ji6) p266 q266; cases e266; replace hx266_0 := (HB.out.cell (World.block_lt_of_cell? w _ hx266_0)).trans hx266_0; replace p266 := eq_true p266; replace q266 := eq_true q266) | ((with_reducible refine gate_callee (f := 34) rfl ?_); refine goesL_ (some 21) rfl rfl Try.func34 (by kernel_rfl) rfl #[.int .u64 (rd l1 (ji6)), .int .i64 (Int.tmod x6_1 32)] rfl (by (try simp only [List.map_toArray, List.map_cons, List.map_nil]); first | done | (simp only [hji6]; rfl) | rfl | (simp only [List.length_drop, List.length_take]; rfl)) ?_; (with_reducible refine (lodgerref01_Has.calls k1 (rd l1 (ji6)) (Int.tmod x6_1 32) false _ A9.out).mono ?_); rintro e w' ⟨rfl, ⟨nd, rfl⟩⟩; refine ⟨_, rfl, ?_⟩) | (go_at_call 24; (with_reducible refine (lodgerref01_Has.calls k1 (rd l1 (ji6)) (Int.tmod x6_1 32) false _ A9.out).mono ?_); rintro e w' ⟨rfl, ⟨nd, rfl⟩⟩))
       go_roundg k1
       case measure => have := HK1.out; omega
       case rel => exact ⟨(x5_1), (wrap64 (x6_1 + 1)), (by first | rfl | (simp; done) | (simp [*]; done)), H', ⟨by have := HK1.out; omega⟩, ⟨by (with_reducible repeat (first | apply Kd.R_alloc | apply Kd.R_drewN | apply Kd.R_drew)); exact HO_5.out⟩, ⟨by (with_reducible repeat (first | refine blk_drewN ?_ _ | refine blk_drew ?_ | refine blk_alloc ?_ _)); exact BK264.out⟩, ⟨by repeat (first | (with_reducible first | exact HB.out | apply below_alloc | apply pw_below_drewN | apply below_drew1 | refine below_set ?_ GE264.out) | exact HB.out)⟩⟩
     ·rw [if_neg c8] at H
      exact absurd H (by simp)
    ·rw [if_neg c7] at H
     exact absurd H (by simp)
   ·rw [if_neg c5] at H
    have c5b0 : decide (x6_1 < t265) = false := decide_eq_false c5
    clear c5
    obtain rfl := Option.some.inj H
    have hcz25_0 : wr.cell? ⟨gb264, 0, none⟩ = some (.int .u32 a0_0) := (blk_cell BK264.out 0).trans rfl
    have hcz25_1 : wr.cell? ⟨gb264, 1, none⟩ = some (.int .i64 a0_1) := (blk_cell BK264.out 1).trans rfl
    have hcz25_2 : wr.cell? ⟨gb264, 2, none⟩ = some (.slice A0_2 l0_2.length c0_2) := (blk_cell BK264.out 2).trans rfl
    have hcz25_3 : wr.cell? ⟨gb264, 3, none⟩ = some (.int .i64 a0_3) := (blk_cell BK264.out 3).trans rfl
    have hcz25_4 : wr.cell? ⟨gb264, 4, none⟩ = some (.int .i64 a0_4) := (blk_cell BK264.out 4).trans rfl
    have hcz25_5 : wr.cell? ⟨gb264, 5, none⟩ = some (.int .i64 a0_5) := (blk_cell BK264.out 5).trans rfl
    have hcz25_6 : wr.cell? ⟨gb264, 6, none⟩ = some (.int .i64 a0_6) := (blk_cell BK264.out 6).trans rfl
    have hfz25_0 := blk_frozen BK264.out 0
    have hfz25_1 := blk_frozen BK264.out 1
    have hfz25_2 := blk_frozen BK264.out 2
    have hfz25_3 := blk_frozen BK264.out 3
    have hfz25_4 := blk_frozen BK264.out 4
    have hfz25_5 := blk_frozen BK264.out 5
    have hfz25_6 := blk_frozen BK264.out 6
    go_wp2_with (first | ((with_reducible refine gate_callee (f := 24) rfl ?_); refine goesL_ (some 10) rfl rfl Try.func24 (by kernel_rfl) rfl #[.agg #[.int .u32 a0_0, .int .i64 a0_1]] rfl (by (try simp only [List.map_toArray, List.map_cons, List.map_nil]); first | done | rfl | (simp only [List.length_drop, List.length_take]; rfl)) ?_; (with_reducible refine (lodgerref05_Many.calls k1 a0_0 a0_1 t265 _ A4.out).mono ?_); rintro e w26 ⟨rfl, hb⟩; refine ⟨_, rfl, ?_⟩; have n0_ := Aside0.mk (Kd.R_below (by (with_reducible repeat (first | apply Kd.R_alloc | apply Kd.R_drewN | apply Kd.R_drew)); exact HO_5.out) hb); have n1_ := Aside0.mk (blk_below (g := gb264) (o := .cells #[.int .u32 a0_0, .int .i64 a0_1, .slice A0_2 l0_2.length c0_2, .int .i64 a0_3, .int .i64 a0_4, .int .i64 a0_5, .int .i64 a0_6] 27 (0, 0)) (by (with_reducible repeat (first | refine blk_drewN ?_ _ | refine blk_drew ?_ | refine blk_alloc ?_ _)); exact BK264.out) hb); have n2_ := Aside0.mk (below_step (by repeat (first | (with_reducible first | exact HB.out | apply below_alloc | apply pw_below_drewN | apply below_drew1 | refine below_set ?_ GE264.out) | exact HB.out)) hb); clear HO_5; clear BK264; clear HB; have HO_5 := n0_; have BK264 := n1_; have HB := n2_; clear n0_ n1_ n2_; (try clear hb); (try clear hb2); (try clear hk); (try clear hi)))
    go_ret
    exact ⟨_, by first | rfl | (simp [errW_none, errW_some] <;> rfl) | (simp [*, errW_none, errW_some] <;> rfl), by (with_reducible repeat (first | apply Kd.R_alloc | apply Kd.R_drewN | apply Kd.R_drew)); exact HO_5.out, by repeat (first | (with_reducible first | exact HB.out | apply below_alloc | apply pw_below_drewN | apply below_drew1 | refine below_set ?_ GE264.out) | exact HB.out)⟩

/-! ### lodgerref09_Has: function 15 -/
def lodgerref09_Has.l0 : Nat → List Int → Int → Int → Option (Bool)
 | 0, _, _, _ => none
 | k + 1, x0, x1, x5 => if x5 < (x0.length : Int) then (if 0 ≤ x5 then (if (rd x0 x5) = x1 then (some true) else (lodgerref09_Has.l0 k x0 x1 (wrap64 (x5 + 1)))) else (none)) else (some false)
def lodgerref09_Has.f (k : Nat) (l0 : List Int) (a1 : Int) : Option (Bool) := lodgerref09_Has.l0 k l0 a1 0
theorem lodgerref09_Has.mono_l : ∀ k, (∀ y0 y1 y2, LeO (lodgerref09_Has.l0 k y0 y1 y2) (lodgerref09_Has.l0 (k + 1) y0 y1 y2))
 | 0 => fun _ _ _ r h => by simp [lodgerref09_Has.l0] at h
 | k + 1 => by
  have ih0 := lodgerref09_Has.mono_l k
  ·intro y0 y1 y2
   unfold lodgerref09_Has.l0
   repeat' first
   | (with_reducible exact ih0 _ _ _)
   | (with_reducible exact LeO.refl _)
   | (with_reducible exact LeO.none _)
   | (with_reducible refine LeO.ite ?_ ?_)
   | (with_reducible refine LeO.bind ?_ (fun _ => ?_))
   | exact ih0 _ _ _
   | exact LeO.none _
   | refine LeO.ite ?_ ?_
   | refine LeO.bind ?_ (fun _ => ?_)
theorem lodgerref09_Has.mono : ∀ a0 a1 k, LeO (lodgerref09_Has.f k a0 a1) (lodgerref09_Has.f (k + 1) a0 a1) := by
 intro a0 a1 k
 have ih0 := lodgerref09_Has.mono_l k
 unfold lodgerref09_Has.f
 repeat' first
   | (with_reducible exact ih0 _ _ _)
   | (with_reducible exact LeO.refl _)
   | (with_reducible exact LeO.none _)
   | (with_reducible refine LeO.ite ?_ ?_)
   | (with_reducible refine LeO.bind ?_ (fun _ => ?_))
   | exact ih0 _ _ _
   | exact LeO.none _
   | refine LeO.ite ?_ ?_
   | refine LeO.bind ?_ (fun _ => ?_)
set_option maxHeartbeats 8000000 in
set_option maxRecDepth 100000 in
theorem lodgerref09_Has.calls (k : Nat) (A0 : Option Addr) (c0 : Nat) (l0 : List Int) (a1 : Int) (r : Bool) (w : World) (hr0 : Kd.C (Kd.int .i64) w A0 l0.length l0) (hc0 : l0.length ≤ c0) (h : lodgerref09_Has.f k l0 a1 = some r) :
  Calls Try.prog 15 #[.slice A0 l0.length c0, .int .i64 a1] w fun e w' => e = .returned (.bool r) ∧ Drawn0 w w' := by
 have HR0 := Aside0.mk hr0
 have HC0 := Aside0.mk hc0
 clear hr0 hc0
 have H : (lodgerref09_Has.l0 k l0 a1 0) = some r := h
 clear h
 have H' := Aside0.mk H
 clear H
 go_enter Try.func15, Try.ntmps15
 go_wp2
 go_loopg [5] k (fun kq v5 w' => ∃ (x5_1 : Int), v5 = .int .i64 x5_1 ∧ Aside0 (lodgerref09_Has.l0 kq l0 a1 x5_1 = some r) ∧ Aside0 (kq ≤ k) ∧ Drawn0 w w')
 case atStart => exact ⟨(0), (by first | rfl | (simp; done) | (simp [*]; done)), H', ⟨Nat.le_refl _⟩, by repeat (first | exact Drawn0.refl _ | apply Drawn0.step)⟩
 case round =>
  clear H'
  try clear c1
  try clear p2
  obtain ⟨x5_1, rfl, HA, HK1, ⟨m1, rfl⟩⟩ := hrel
  cases gk with
  | zero => exact absurd HA.out (by simp [lodgerref09_Has.l0])
  | succ k1 =>
   have H := HA.out
   clear HA
   simp only [lodgerref09_Has.l0] at H
   by_cases c3 : x5_1 < (l0.length : Int)
   ·rw [if_pos c3] at H
    have c3b0 : decide (x5_1 < (l0.length : Int)) = true := decide_eq_true c3
    clear c3
    by_cases c4 : 0 ≤ x5_1
    ·rw [if_pos c4] at H
     have c4b0 : decide (0 ≤ x5_1) = true := decide_eq_true c4
     clear c4
     by_cases c5 : (rd l0 x5_1) = a1
     ·rw [if_pos c5] at H
      have c5b0 : ((rd l0 x5_1) == a1) = true := beq_iff_eq.mpr c5
      have c5b1 : ((rd l0 x5_1) != a1) = false := bne_eq_false_iff_eq.mpr c5
      clear c5
      obtain rfl := Option.some.inj H
      have p272 : 0 ≤ (x5_1 : Int) := of_decide_eq_true (by first | (with_reducible assumption) | assumption)
      have q272 : x5_1 < (l0.length : Int) := of_decide_eq_true (by first | (with_reducible assumption) | assumption)
      obtain ⟨ad272, e272, hx272_0⟩ := Kd.at_int HR0.out x5_1 p272 q272
      cases e272
      replace p272 := eq_true p272
      replace q272 := eq_true q272
      go_wp2
      go_ret
      exact ⟨by first | rfl | (simp; done) | (simp [*]; done), by repeat (first | exact Drawn0.refl _ | apply Drawn0.step)⟩
     ·rw [if_neg c5] at H
      have c5b0 : ((rd l0 x5_1) == a1) = false := beq_eq_false_iff_ne.mpr c5
      have c5b1 : ((rd l0 x5_1) != a1) = true := bne_iff_ne.mpr c5
      have H' := Aside0.mk H
      clear H
      have p272 : 0 ≤ (x5_1 : Int) := of_decide_eq_true (by first | (with_reducible assumption) | assumption)
      have q272 : x5_1 < (l0.length : Int) := of_decide_eq_true (by first | (with_reducible assumption) | assumption)
      obtain ⟨ad272, e272, hx272_0⟩ := Kd.at_int HR0.out x5_1 p272 q272
      cases e272
      replace p272 := eq_true p272
      replace q272 := eq_true q272
      go_wp2
      go_roundg k1
      case measure => have := HK1.out; omega
      case rel => exact ⟨(wrap64 (x5_1 + 1)), (by first | rfl | (simp; done) | (simp [*]; done)), H', ⟨by have := HK1.out; omega⟩, by repeat (first | exact Drawn0.refl _ | apply Drawn0.step)⟩
    ·rw [if_neg c4] at H
     exact absurd H (by simp)
   ·rw [if_neg c3] at H
    have c3b0 : decide (x5_1 < (l0.length : Int)) = false := decide_eq_false c3
    clear c3
    obtain rfl := Option.some.inj H
    go_wp2
    go_ret
    exact ⟨by first | rfl | (simp; done) | (simp [*]; done), by repeat (first | exact Drawn0.refl _ | apply Drawn0.step)⟩

end Go.Proofs.Ythfcgjmffjmplaa.PModelTells
