/- The walk of CellsOne, part of it: what the Go functions answer; no condition. -/
import Derived.Test.YtpkomlobikmkkaaQCellsOnex0
import Derived.Test.YtpkomlobikmkkaaQCellsOnex1
namespace Go.Proofs.Ytpkomlobikmkkaa.PCellsOne
open Go.RowKit Go.Proofs.YtpkomlobikmkkaaW.PrintWords Go.Proofs.YtpkomlobikmkkaaW.PrintLast Go.Proofs.YtpkomlobikmkkaaW.PrintMore
attribute [local go_sem] max2_int min2_int max_two min_two max_three min_three max_four min_four   -- for this text's walks alone
set_option linter.unusedVariables false
set_option linter.unusedSimpArgs false

/-! ### lodgerlaw02_CellsOne: function 5 -/
mutual
def lodgerlaw02_CellsOne.j0 : Nat → List Int → Int → Int → Int → Int → Bool → Option (Bool)
  | 0, _, _, _, _, _, _ => none
  | k + 1, x0, x1, x2, x3, x4, x32 => if x32 = true then ((lodgerlaw02_awake.f k).bind fun t143 => (some t143)) else (if (x0.length : Int) = 0 then (none) else ((cells_Store.f x0 (Int.tmod (wrap64 (x1)) (x0.length : Int)) x3).bind fun t144 => ((cells_Load.f t144 (Int.tmod (wrap64 (x1)) (x0.length : Int))).bind fun t147 => (if t147 = x3 then (if (Int.tmod (wrap64 (x1)) (x0.length : Int)) = (Int.tmod (wrap64 (x2)) (x0.length : Int)) then (lodgerlaw02_CellsOne.j1 k x0 x3 x4 (Int.tmod (wrap64 (x1)) (x0.length : Int)) t144 ((t144.length : Int) != (x0.length : Int))) else ((cells_Load.f t144 (Int.tmod (wrap64 (x2)) (x0.length : Int))).bind fun t148 => ((cells_Load.f x0 (Int.tmod (wrap64 (x2)) (x0.length : Int))).bind fun t149 => (if t148 = t149 then (lodgerlaw02_CellsOne.j1 k x0 x3 x4 (Int.tmod (wrap64 (x1)) (x0.length : Int)) t144 ((t144.length : Int) != (x0.length : Int))) else (lodgerlaw02_CellsOne.j1 k x0 x3 x4 (Int.tmod (wrap64 (x1)) (x0.length : Int)) t144 true))))) else (lodgerlaw02_CellsOne.j1 k x0 x3 x4 (Int.tmod (wrap64 (x1)) (x0.length : Int)) t144 true)))))
def lodgerlaw02_CellsOne.j1 : Nat → List Int → Int → Int → Int → List Int → Bool → Option (Bool)
  | 0, _, _, _, _, _, _ => none
  | k + 1, x0, x3, x4, x11, x13, x73 => if x73 = true then (some false) else ((cells_Load.f x0 x11).bind fun t150 => ((cells_Swap.f x0 x11 t150 x3).bind fun bt151 => ((cells_Swap.f bt151.1 x11 t150 x4).bind fun bt155 => (if bt151.2 = true then ((lodgerref02_Same.f k bt151.1 x13).bind fun t159 => (if t159 = true then (lodgerlaw02_CellsOne.j2 k x0 x3 x11 t150 bt151.1 bt155.1 bt155.2 (bt155.2 != (x3 == t150))) else (lodgerlaw02_CellsOne.j2 k x0 x3 x11 t150 bt151.1 bt155.1 bt155.2 true))) else (lodgerlaw02_CellsOne.j2 k x0 x3 x11 t150 bt151.1 bt155.1 bt155.2 true)))))
def lodgerlaw02_CellsOne.j2 : Nat → List Int → Int → Int → Int → List Int → List Int → Bool → Bool → Option (Bool)
  | 0, _, _, _, _, _, _, _, _ => none
  | k + 1, x0, x3, x11, x14, x15, x17, x18, x107 => if x107 = true then (some false) else ((cells_Swap.f x15 x11 x3 x14).bind fun bt160 => (if bt160.2 = true then ((lodgerref02_Same.f k bt160.1 x0).bind fun t164 => (if t164 = true then (if x18 = true then (some true) else ((lodgerref02_Same.f k x17 x15).bind fun t165 => (some t165))) else (some false))) else (some false)))
end
def lodgerlaw02_CellsOne.f (k : Nat) (l0 : List Int) (a1 : Int) (a2 : Int) (a3 : Int) (a4 : Int) : Option (Bool) := (lodgerlaw02_awake.f k).bind fun t142 => (if t142 = true then (if (l0.length : Int) > 2000 then (lodgerlaw02_CellsOne.j0 k l0 a1 a2 a3 a4 true) else (lodgerlaw02_CellsOne.j0 k l0 a1 a2 a3 a4 ((l0.length : Int) == 0))) else (lodgerlaw02_CellsOne.j0 k l0 a1 a2 a3 a4 true))
theorem lodgerlaw02_CellsOne.mono_l : ∀ k, (∀ y0 y1 y2 y3 y4 y5, LeO (lodgerlaw02_CellsOne.j0 k y0 y1 y2 y3 y4 y5) (lodgerlaw02_CellsOne.j0 (k + 1) y0 y1 y2 y3 y4 y5)) ∧ (∀ y0 y1 y2 y3 y4 y5, LeO (lodgerlaw02_CellsOne.j1 k y0 y1 y2 y3 y4 y5) (lodgerlaw02_CellsOne.j1 (k + 1) y0 y1 y2 y3 y4 y5)) ∧ (∀ y0 y1 y2 y3 y4 y5 y6 y7, LeO (lodgerlaw02_CellsOne.j2 k y0 y1 y2 y3 y4 y5 y6 y7) (lodgerlaw02_CellsOne.j2 (k + 1) y0 y1 y2 y3 y4 y5 y6 y7))
  | 0 => ⟨fun _ _ _ _ _ _ r h => by simp [lodgerlaw02_CellsOne.j0] at h, fun _ _ _ _ _ _ r h => by simp [lodgerlaw02_CellsOne.j1] at h, fun _ _ _ _ _ _ _ _ r h => by simp [lodgerlaw02_CellsOne.j2] at h⟩
  | k + 1 => by
    obtain ⟨ih0, ih1, ih2⟩ := lodgerlaw02_CellsOne.mono_l k
    refine ⟨?_, ?_, ?_⟩
    · intro y0 y1 y2 y3 y4 y5
      unfold lodgerlaw02_CellsOne.j0
      repeat' first
      | (with_reducible exact ih0 _ _ _ _ _ _)
      | (with_reducible exact ih1 _ _ _ _ _ _)
      | (with_reducible exact ih2 _ _ _ _ _ _ _ _)
      | (with_reducible exact lodgerlaw02_awake.mono _)
      | (with_reducible exact lodgerref02_Same.mono _ _ _)
      | (with_reducible exact LeO.refl _)
      | (with_reducible exact LeO.none _)
      | (with_reducible refine LeO.ite ?_ ?_)
      | (with_reducible refine LeO.bind ?_ (fun _ => ?_))
      | exact ih0 _ _ _ _ _ _
      | exact ih1 _ _ _ _ _ _
      | exact ih2 _ _ _ _ _ _ _ _
      | exact lodgerlaw02_awake.mono _
      | exact lodgerref02_Same.mono _ _ _
      | exact LeO.none _
      | refine LeO.ite ?_ ?_
      | refine LeO.bind ?_ (fun _ => ?_)
    · intro y0 y1 y2 y3 y4 y5
      unfold lodgerlaw02_CellsOne.j1
      repeat' first
      | (with_reducible exact ih0 _ _ _ _ _ _)
      | (with_reducible exact ih1 _ _ _ _ _ _)
      | (with_reducible exact ih2 _ _ _ _ _ _ _ _)
      | (with_reducible exact lodgerlaw02_awake.mono _)
      | (with_reducible exact lodgerref02_Same.mono _ _ _)
      | (with_reducible exact LeO.refl _)
      | (with_reducible exact LeO.none _)
      | (with_reducible refine LeO.ite ?_ ?_)
      | (with_reducible refine LeO.bind ?_ (fun _ => ?_))
      | exact ih0 _ _ _ _ _ _
      | exact ih1 _ _ _ _ _ _
      | exact ih2 _ _ _ _ _ _ _ _
      | exact lodgerlaw02_awake.mono _
      | exact lodgerref02_Same.mono _ _ _
      | exact LeO.none _
      | refine LeO.ite ?_ ?_
      | refine LeO.bind ?_ (fun _ => ?_)
    · intro y0 y1 y2 y3 y4 y5 y6 y7
      unfold lodgerlaw02_CellsOne.j2
      repeat' first
      | (with_reducible exact ih0 _ _ _ _ _ _)
      | (with_reducible exact ih1 _ _ _ _ _ _)
      | (with_reducible exact ih2 _ _ _ _ _ _ _ _)
      | (with_reducible exact lodgerlaw02_awake.mono _)
      | (with_reducible exact lodgerref02_Same.mono _ _ _)
      | (with_reducible exact LeO.refl _)
      | (with_reducible exact LeO.none _)
      | (with_reducible refine LeO.ite ?_ ?_)
      | (with_reducible refine LeO.bind ?_ (fun _ => ?_))
      | exact ih0 _ _ _ _ _ _
      | exact ih1 _ _ _ _ _ _
      | exact ih2 _ _ _ _ _ _ _ _
      | exact lodgerlaw02_awake.mono _
      | exact lodgerref02_Same.mono _ _ _
      | exact LeO.none _
      | refine LeO.ite ?_ ?_
      | refine LeO.bind ?_ (fun _ => ?_)
theorem lodgerlaw02_CellsOne.mono : ∀ a0 a1 a2 a3 a4 k, LeO (lodgerlaw02_CellsOne.f k a0 a1 a2 a3 a4) (lodgerlaw02_CellsOne.f (k + 1) a0 a1 a2 a3 a4) := by
  intro a0 a1 a2 a3 a4 k
  obtain ⟨ih0, ih1, ih2⟩ := lodgerlaw02_CellsOne.mono_l k
  unfold lodgerlaw02_CellsOne.f
  repeat' first
      | (with_reducible exact ih0 _ _ _ _ _ _)
      | (with_reducible exact ih1 _ _ _ _ _ _)
      | (with_reducible exact ih2 _ _ _ _ _ _ _ _)
      | (with_reducible exact lodgerlaw02_awake.mono _)
      | (with_reducible exact lodgerref02_Same.mono _ _ _)
      | (with_reducible exact LeO.refl _)
      | (with_reducible exact LeO.none _)
      | (with_reducible refine LeO.ite ?_ ?_)
      | (with_reducible refine LeO.bind ?_ (fun _ => ?_))
      | exact ih0 _ _ _ _ _ _
      | exact ih1 _ _ _ _ _ _
      | exact ih2 _ _ _ _ _ _ _ _
      | exact lodgerlaw02_awake.mono _
      | exact lodgerref02_Same.mono _ _ _
      | exact LeO.none _
      | refine LeO.ite ?_ ?_
      | refine LeO.bind ?_ (fun _ => ?_)
set_option maxHeartbeats 8000000 in
set_option maxRecDepth 100000 in
theorem lodgerlaw02_CellsOne.calls (k : Nat) (A0 : Option Addr) (c0 : Nat) (l0 : List Int) (a1 : Int) (a2 : Int) (a3 : Int) (a4 : Int) (r : Bool) (w : World) (hr0 : Kd.C (Kd.int .u64) w A0 l0.length l0) (hc0 : l0.length ≤ c0) (hr_ : r = true) (h : lodgerlaw02_CellsOne.f k l0 a1 a2 a3 a4 = some r) :
    Calls Try.prog 5 #[.slice A0 l0.length c0, .int .u16 a1, .int .u16 a2, .int .u64 a3, .int .u64 a4] w fun e w' => e = .returned (.bool r) ∧ Below w.heap.size w w' := by
  have HR0 := Aside0.mk hr0
  have HC0 := Aside0.mk hc0
  clear hr0 hc0
  have HB := Aside0.mk (Below.refl w.heap.size w)
  replace hr_ := Aside0.mk hr_
  have H : ((lodgerlaw02_awake.f k).bind fun t142 => (if t142 = true then (if (l0.length : Int) > 2000 then (lodgerlaw02_CellsOne.j0 k l0 a1 a2 a3 a4 true) else (lodgerlaw02_CellsOne.j0 k l0 a1 a2 a3 a4 ((l0.length : Int) == 0))) else (lodgerlaw02_CellsOne.j0 k l0 a1 a2 a3 a4 true))) = some r := h
  clear h
  have HC6 := Aside0.mk H
  clear H
  go_enter Try.func5, Try.ntmps5
  go_upto_region 1 with (fail)
  go_cut [32] (fun v32 wc => ∃ (kq : Nat) (x32_5 : Bool), v32 = .bool x32_5 ∧ Aside0 (lodgerlaw02_CellsOne.j0 kq l0 a1 a2 a3 a4 x32_5 = some r) ∧ Aside0 (kq ≤ k) ∧ Aside0 (Below w.heap.size w wc))
  case first =>
    have H := HC6.out
    clear HC6
    replace H := Option.bind_eq_some_iff.mp H
    obtain ⟨t142, A70, H⟩ := H
    replace H : (if t142 = true then (if (l0.length : Int) > 2000 then (lodgerlaw02_CellsOne.j0 k l0 a1 a2 a3 a4 true) else (lodgerlaw02_CellsOne.j0 k l0 a1 a2 a3 a4 ((l0.length : Int) == 0))) else (lodgerlaw02_CellsOne.j0 k l0 a1 a2 a3 a4 true)) = some r := H
    have A7 := Aside0.mk A70
    clear A70
    by_cases c8 : t142 = true
    · subst c8
      have H1 : (if (l0.length : Int) > 2000 then (lodgerlaw02_CellsOne.j0 k l0 a1 a2 a3 a4 true) else (lodgerlaw02_CellsOne.j0 k l0 a1 a2 a3 a4 ((l0.length : Int) == 0))) = some r := by rw [if_pos rfl] at H; exact H
      clear H
      have H := H1
      clear H1
      by_cases c9 : (l0.length : Int) > 2000
      · rw [if_pos c9] at H
        have c9b0 : decide (2000 < (l0.length : Int)) = true := decide_eq_true c9
        have c9b1 : decide (2000 < l0.length) = true := decide_eq_true (by omega)
        clear c9
        (first | rw [c9b0] | (simp only [i64_w, i32_w]; rw [c9b0]) | skip)
        have H' := Aside0.mk H
        clear H
        go_wp2_with (first | ((with_reducible refine gate_callee (f := 12) rfl ?_); refine goesL_ (some 21) rfl rfl Try.func12 (by kernel_rfl) rfl #[] rfl (by (try simp only [List.map_toArray, List.map_cons, List.map_nil]); first | done | rfl | (simp only [List.length_drop, List.length_take]; rfl)) ?_; (with_reducible refine (lodgerlaw02_awake.calls k  true _ A7.out).mono ?_); rintro e w10 ⟨rfl, hb⟩; refine ⟨_, rfl, ?_⟩; have n0_ := Aside0.mk (below_step (by repeat (first | (with_reducible first | exact HB.out | apply below_alloc | apply pw_below_drewN | apply below_drew1) | exact HB.out)) hb); clear HB; have HB := n0_; clear n0_; (try clear hb); (try clear hb2); (try clear hk); (try clear hi)))
        go_meet
        case rel => exact ⟨_, (true), (by first | rfl | (simp; done) | (simp [*]; done)), H', ⟨by first | omega | exact Nat.le_refl _⟩, ⟨by repeat (first | (with_reducible first | exact HB.out | apply below_alloc | apply pw_below_drewN | apply below_drew1) | exact HB.out)⟩⟩
      · rw [if_neg c9] at H
        have c9b0 : decide (2000 < (l0.length : Int)) = false := decide_eq_false c9
        have c9b1 : decide (2000 < l0.length) = false := decide_eq_false (by omega)
        clear c9
        (first | rw [c9b0] | (simp only [i64_w, i32_w]; rw [c9b0]) | skip)
        have H' := Aside0.mk H
        clear H
        go_wp2_with (first | ((with_reducible refine gate_callee (f := 12) rfl ?_); refine goesL_ (some 21) rfl rfl Try.func12 (by kernel_rfl) rfl #[] rfl (by (try simp only [List.map_toArray, List.map_cons, List.map_nil]); first | done | rfl | (simp only [List.length_drop, List.length_take]; rfl)) ?_; (with_reducible refine (lodgerlaw02_awake.calls k  true _ A7.out).mono ?_); rintro e w11 ⟨rfl, hb⟩; refine ⟨_, rfl, ?_⟩; have n0_ := Aside0.mk (below_step (by repeat (first | (with_reducible first | exact HB.out | apply below_alloc | apply pw_below_drewN | apply below_drew1) | exact HB.out)) hb); clear HB; have HB := n0_; clear n0_; (try clear hb); (try clear hb2); (try clear hk); (try clear hi)))
        go_meet
        case rel => exact ⟨_, (((l0.length : Int) == 0)), (by first | rfl | (simp; done) | (simp [*]; done)), H', ⟨by first | omega | exact Nat.le_refl _⟩, ⟨by repeat (first | (with_reducible first | exact HB.out | apply below_alloc | apply pw_below_drewN | apply below_drew1) | exact HB.out)⟩⟩
    · replace c8 := Bool.eq_false_iff.mpr c8
      subst c8
      have H1 : (lodgerlaw02_CellsOne.j0 k l0 a1 a2 a3 a4 true) = some r := by rw [if_neg (show ¬ (false = true) by decide)] at H; exact H
      clear H
      have H := H1
      clear H1
      have H' := Aside0.mk H
      clear H
      go_wp2_with (first | ((with_reducible refine gate_callee (f := 12) rfl ?_); refine goesL_ (some 21) rfl rfl Try.func12 (by kernel_rfl) rfl #[] rfl (by (try simp only [List.map_toArray, List.map_cons, List.map_nil]); first | done | rfl | (simp only [List.length_drop, List.length_take]; rfl)) ?_; (with_reducible refine (lodgerlaw02_awake.calls k  false _ A7.out).mono ?_); rintro e w12 ⟨rfl, hb⟩; refine ⟨_, rfl, ?_⟩; have n0_ := Aside0.mk (below_step (by repeat (first | (with_reducible first | exact HB.out | apply below_alloc | apply pw_below_drewN | apply below_drew1) | exact HB.out)) hb); clear HB; have HB := n0_; clear n0_; (try clear hb); (try clear hb2); (try clear hk); (try clear hi)))
      go_meet
      case rel => exact ⟨_, (true), (by first | rfl | (simp; done) | (simp [*]; done)), H', ⟨by first | omega | exact Nat.le_refl _⟩, ⟨by repeat (first | (with_reducible first | exact HB.out | apply below_alloc | apply pw_below_drewN | apply below_drew1) | exact HB.out)⟩⟩
  case rest =>
    clear HC6
    try clear c1
    try clear p2
    try clear c5
    try clear c8
    try clear c9
    try clear c9b0
    try clear c9b1
    try clear c12
    obtain ⟨kq, x32_5, rfl, HA, HJ5, HB⟩ := hcut
    cases kq with
    | zero => exact absurd HA.out (by simp [lodgerlaw02_CellsOne.j0])
    | succ kj5 =>
      have H := HA.out
      clear HA
      simp only [lodgerlaw02_CellsOne.j0] at H
      by_cases c13 : x32_5 = true
      · subst c13
        have H1 : ((lodgerlaw02_awake.f kj5).bind fun t143 => (some t143)) = some r := by rw [if_pos rfl] at H; exact H
        clear H
        have H := H1
        clear H1
        replace H := Option.bind_eq_some_iff.mp H
        obtain ⟨t143, A140, H⟩ := H
        replace H : (some t143) = some r := H
        have A14 := Aside0.mk A140
        clear A140
        first | (exfalso; rw [hr_.out] at H; exact absurd (Option.some.inj H) (by decide)) | (try clear hr_)
        all_goals
          obtain rfl := Option.some.inj H
          go_wp2_with (first | ((with_reducible refine gate_callee (f := 12) rfl ?_); refine goesL_ (some 33) rfl rfl Try.func12 (by kernel_rfl) rfl #[] rfl (by (try simp only [List.map_toArray, List.map_cons, List.map_nil]); first | done | rfl | (simp only [List.length_drop, List.length_take]; rfl)) ?_; (with_reducible refine (lodgerlaw02_awake.calls kj5  t143 _ A14.out).mono ?_); rintro e w15 ⟨rfl, hb⟩; refine ⟨_, rfl, ?_⟩; have n0_ := Aside0.mk (below_step (by repeat (first | (with_reducible first | exact HB.out | apply below_alloc | apply pw_below_drewN | apply below_drew1) | exact HB.out)) hb); clear HB; have HB := n0_; clear n0_; (try clear hb); (try clear hb2); (try clear hk); (try clear hi)))
          go_ret
          exact ⟨by first | rfl | (simp [errW_none, errW_some] <;> rfl) | (simp [*, errW_none, errW_some] <;> rfl), by repeat (first | (with_reducible first | exact HB.out | apply below_alloc | apply pw_below_drewN | apply below_drew1) | exact HB.out)⟩
      · replace c13 := Bool.eq_false_iff.mpr c13
        subst c13
        have H1 : (if (l0.length : Int) = 0 then (none) else ((cells_Store.f l0 (Int.tmod (wrap64 (a1)) (l0.length : Int)) a3).bind fun t144 => ((cells_Load.f t144 (Int.tmod (wrap64 (a1)) (l0.length : Int))).bind fun t147 => (if t147 = a3 then (if (Int.tmod (wrap64 (a1)) (l0.length : Int)) = (Int.tmod (wrap64 (a2)) (l0.length : Int)) then (lodgerlaw02_CellsOne.j1 kj5 l0 a3 a4 (Int.tmod (wrap64 (a1)) (l0.length : Int)) t144 ((t144.length : Int) != (l0.length : Int))) else ((cells_Load.f t144 (Int.tmod (wrap64 (a2)) (l0.length : Int))).bind fun t148 => ((cells_Load.f l0 (Int.tmod (wrap64 (a2)) (l0.length : Int))).bind fun t149 => (if t148 = t149 then (lodgerlaw02_CellsOne.j1 kj5 l0 a3 a4 (Int.tmod (wrap64 (a1)) (l0.length : Int)) t144 ((t144.length : Int) != (l0.length : Int))) else (lodgerlaw02_CellsOne.j1 kj5 l0 a3 a4 (Int.tmod (wrap64 (a1)) (l0.length : Int)) t144 true))))) else (lodgerlaw02_CellsOne.j1 kj5 l0 a3 a4 (Int.tmod (wrap64 (a1)) (l0.length : Int)) t144 true))))) = some r := by rw [if_neg (show ¬ (false = true) by decide)] at H; exact H
        clear H
        have H := H1
        clear H1
        by_cases c16 : (l0.length : Int) = 0
        · rw [if_pos c16] at H
          exact absurd H (by simp)
        · rw [if_neg c16] at H
          have c16b0 : ((l0.length : Int) == 0) = false := beq_eq_false_iff_ne.mpr c16
          have c16b1 : ((l0.length : Int) != 0) = true := bne_iff_ne.mpr c16
          have c16b2 : ¬ (l0 = []) := fun h_ => c16 (by rw [h_]; rfl)
          replace H := Option.bind_eq_some_iff.mp H
          obtain ⟨t144, A170, H⟩ := H
          replace H : ((cells_Load.f t144 (Int.tmod (wrap64 (a1)) (l0.length : Int))).bind fun t147 => (if t147 = a3 then (if (Int.tmod (wrap64 (a1)) (l0.length : Int)) = (Int.tmod (wrap64 (a2)) (l0.length : Int)) then (lodgerlaw02_CellsOne.j1 kj5 l0 a3 a4 (Int.tmod (wrap64 (a1)) (l0.length : Int)) t144 ((t144.length : Int) != (l0.length : Int))) else ((cells_Load.f t144 (Int.tmod (wrap64 (a2)) (l0.length : Int))).bind fun t148 => ((cells_Load.f l0 (Int.tmod (wrap64 (a2)) (l0.length : Int))).bind fun t149 => (if t148 = t149 then (lodgerlaw02_CellsOne.j1 kj5 l0 a3 a4 (Int.tmod (wrap64 (a1)) (l0.length : Int)) t144 ((t144.length : Int) != (l0.length : Int))) else (lodgerlaw02_CellsOne.j1 kj5 l0 a3 a4 (Int.tmod (wrap64 (a1)) (l0.length : Int)) t144 true))))) else (lodgerlaw02_CellsOne.j1 kj5 l0 a3 a4 (Int.tmod (wrap64 (a1)) (l0.length : Int)) t144 true))) = some r := H
          have A17 := Aside0.mk A170
          clear A170
          have HC18 := Aside0.mk H
          clear H
          go_upto_region 6 with (first | ((with_reducible refine gate_callee (f := 18) rfl ?_); refine goesL_ (some 47) rfl rfl Try.func18 (by kernel_rfl) rfl #[.slice A0 l0.length c0, .int .i64 (Int.tmod (wrap64 (a1)) (l0.length : Int)), .int .u64 a3] rfl (by (try simp only [List.map_toArray, List.map_cons, List.map_nil]); first | done | rfl | (simp only [List.length_drop, List.length_take]; rfl)) ?_; (with_reducible refine (cells_Store.calls (fun k_ => k_ < w.heap.size) _ _ l0 (Int.tmod (wrap64 (a1)) (l0.length : Int)) a3 t144 _ ?side1 A17.out).mono ?_); (case side1 => exact Kd.V_mk HC0.out (Kd.F_below (Kd.C_F (Kd.heap_int .u64) HR0.out) (by repeat (first | (with_reducible first | exact HB.out | apply below_alloc | apply pw_below_drewN | apply below_drew1) | exact HB.out)))); rintro e w19 ⟨v145, rfl, ho0, hb⟩; refine ⟨_, rfl, ?_⟩; have n0_ := Aside0.mk (Kd.V_lower (Kd.V_mono (ok' := fun k_ => True) ho0 (fun k_ hk_ => trivial)) (below_size (by repeat (first | (with_reducible first | exact HB.out | apply below_alloc | apply pw_below_drewN | apply below_drew1) | exact HB.out)))); have n1_ := Aside0.mk (below_step (by repeat (first | (with_reducible first | exact HB.out | apply below_alloc | apply pw_below_drewN | apply below_drew1) | exact HB.out)) hb); clear HB; have HO146 := n0_; have HB := n1_; clear n0_ n1_; (try clear hb); (try clear hb2); (try clear hk); (try clear hi); (try clear ho0)))
          (try simp only [Act.put, List.setIfInBounds_toArray, List.set_cons_zero, List.set_cons_succ])
          go_cut [73] (fun v73 wc => ∃ (kq : Nat) (x73_17 : Bool), v73 = .bool x73_17 ∧ Aside0 (lodgerlaw02_CellsOne.j1 kq l0 a3 a4 (Int.tmod (wrap64 (a1)) (l0.length : Int)) t144 x73_17 = some r) ∧ Aside0 (kq ≤ kj5) ∧ Aside0 (Kd.V (Kd.int .u64) 23 wc w.heap.size (fun _ => True) v145 t144) ∧ Aside0 (Below w.heap.size w wc))
          case first =>
            have H := HC18.out
            clear HC18
            replace H := Option.bind_eq_some_iff.mp H
            obtain ⟨t147, A200, H⟩ := H
            replace H : (if t147 = a3 then (if (Int.tmod (wrap64 (a1)) (l0.length : Int)) = (Int.tmod (wrap64 (a2)) (l0.length : Int)) then (lodgerlaw02_CellsOne.j1 kj5 l0 a3 a4 (Int.tmod (wrap64 (a1)) (l0.length : Int)) t144 ((t144.length : Int) != (l0.length : Int))) else ((cells_Load.f t144 (Int.tmod (wrap64 (a2)) (l0.length : Int))).bind fun t148 => ((cells_Load.f l0 (Int.tmod (wrap64 (a2)) (l0.length : Int))).bind fun t149 => (if t148 = t149 then (lodgerlaw02_CellsOne.j1 kj5 l0 a3 a4 (Int.tmod (wrap64 (a1)) (l0.length : Int)) t144 ((t144.length : Int) != (l0.length : Int))) else (lodgerlaw02_CellsOne.j1 kj5 l0 a3 a4 (Int.tmod (wrap64 (a1)) (l0.length : Int)) t144 true))))) else (lodgerlaw02_CellsOne.j1 kj5 l0 a3 a4 (Int.tmod (wrap64 (a1)) (l0.length : Int)) t144 true)) = some r := H
            have A20 := Aside0.mk A200
            clear A200
            by_cases c21 : t147 = a3
            · rw [if_pos c21] at H
              have c21b0 : (t147 == a3) = true := beq_iff_eq.mpr c21
              have c21b1 : (t147 != a3) = false := bne_eq_false_iff_eq.mpr c21
              clear c21
              (first | rw [c21b0] | (simp only [i64_w, i32_w]; rw [c21b0]) | skip)
              by_cases c22 : (Int.tmod (wrap64 (a1)) (l0.length : Int)) = (Int.tmod (wrap64 (a2)) (l0.length : Int))
              · rw [if_pos c22] at H
                have c22b0 : ((Int.tmod (wrap64 (a1)) (l0.length : Int)) == (Int.tmod (wrap64 (a2)) (l0.length : Int))) = true := beq_iff_eq.mpr c22
                have c22b1 : ((Int.tmod (wrap64 (a1)) (l0.length : Int)) != (Int.tmod (wrap64 (a2)) (l0.length : Int))) = false := bne_eq_false_iff_eq.mpr c22
                clear c22
                have H' := Aside0.mk H
                clear H
                obtain ⟨Ao23, co23, eo23⟩ := Kd.V_slice HO146.out
                subst eo23
                go_wp2_with (first | ((with_reducible refine gate_callee (f := 15) rfl ?_); refine goesL_ (some 50) rfl rfl Try.func15 (by kernel_rfl) rfl #[.slice Ao23 t144.length co23, .int .i64 (Int.tmod (wrap64 (a1)) (l0.length : Int))] rfl (by (try simp only [List.map_toArray, List.map_cons, List.map_nil]); first | done | rfl | (simp only [List.length_drop, List.length_take]; rfl)) ?_; (with_reducible refine (cells_Load.calls _ _ t144 (Int.tmod (wrap64 (a1)) (l0.length : Int)) t147 _ ?side1 ?side2 A20.out).mono ?_); (case side1 => repeat (first | exact (Kd.V_reads' HO146.out).2.2 | (with_reducible refine Kd.C_alloc ?_ _) | (with_reducible refine Kd.C_drewN ?_ _) | (with_reducible refine Kd.C_drew ?_))); (case side2 => exact (Kd.V_reads' HO146.out).2.1); rintro e w' ⟨rfl, ⟨nd, rfl⟩⟩; refine ⟨_, rfl, ?_⟩))
                go_meet
                case rel => exact ⟨_, (((t144.length : Int) != (l0.length : Int))), (by first | rfl | (simp; done) | (simp [*]; done)), H', ⟨by have := HJ5.out; first | omega | exact Nat.le_refl _⟩, ⟨by (with_reducible repeat (first | apply Kd.V_alloc | apply Kd.V_drewN | apply Kd.V_drew)); exact HO146.out⟩, ⟨by repeat (first | (with_reducible first | exact HB.out | apply below_alloc | apply pw_below_drewN | apply below_drew1) | exact HB.out)⟩⟩
              · rw [if_neg c22] at H
                have c22b0 : ((Int.tmod (wrap64 (a1)) (l0.length : Int)) == (Int.tmod (wrap64 (a2)) (l0.length : Int))) = false := beq_eq_false_iff_ne.mpr c22
                have c22b1 : ((Int.tmod (wrap64 (a1)) (l0.length : Int)) != (Int.tmod (wrap64 (a2)) (l0.length : Int))) = true := bne_iff_ne.mpr c22
                replace H := Option.bind_eq_some_iff.mp H
                obtain ⟨t148, A240, H⟩ := H
                replace H : ((cells_Load.f l0 (Int.tmod (wrap64 (a2)) (l0.length : Int))).bind fun t149 => (if t148 = t149 then (lodgerlaw02_CellsOne.j1 kj5 l0 a3 a4 (Int.tmod (wrap64 (a1)) (l0.length : Int)) t144 ((t144.length : Int) != (l0.length : Int))) else (lodgerlaw02_CellsOne.j1 kj5 l0 a3 a4 (Int.tmod (wrap64 (a1)) (l0.length : Int)) t144 true))) = some r := H
                have A24 := Aside0.mk A240
                clear A240
                replace H := Option.bind_eq_some_iff.mp H
                obtain ⟨t149, A250, H⟩ := H
                replace H : (if t148 = t149 then (lodgerlaw02_CellsOne.j1 kj5 l0 a3 a4 (Int.tmod (wrap64 (a1)) (l0.length : Int)) t144 ((t144.length : Int) != (l0.length : Int))) else (lodgerlaw02_CellsOne.j1 kj5 l0 a3 a4 (Int.tmod (wrap64 (a1)) (l0.length : Int)) t144 true)) = some r := H
                have A25 := Aside0.mk A250
                clear A250
                by_cases c26 : t148 = t149
                · rw [if_pos c26] at H
                  have c26b0 : (t148 == t149) = true := beq_iff_eq.mpr c26
                  have c26b1 : (t148 != t149) = false := bne_eq_false_iff_eq.mpr c26
                  clear c26
                  have H' := Aside0.mk H
                  clear H
                  obtain ⟨Ao27, co27, eo27⟩ := Kd.V_slice HO146.out
                  subst eo27
                  go_wp2_with (first | ((with_reducible refine gate_callee (f := 15) rfl ?_); refine goesL_ (some 50) rfl rfl Try.func15 (by kernel_rfl) rfl #[.slice Ao27 t144.length co27, .int .i64 (Int.tmod (wrap64 (a1)) (l0.length : Int))] rfl (by (try simp only [List.map_toArray, List.map_cons, List.map_nil]); first | done | rfl | (simp only [List.length_drop, List.length_take]; rfl)) ?_; (with_reducible refine (cells_Load.calls _ _ t144 (Int.tmod (wrap64 (a1)) (l0.length : Int)) t147 _ ?side1 ?side2 A20.out).mono ?_); (case side1 => repeat (first | exact (Kd.V_reads' HO146.out).2.2 | (with_reducible refine Kd.C_alloc ?_ _) | (with_reducible refine Kd.C_drewN ?_ _) | (with_reducible refine Kd.C_drew ?_))); (case side2 => exact (Kd.V_reads' HO146.out).2.1); rintro e w' ⟨rfl, ⟨nd, rfl⟩⟩; refine ⟨_, rfl, ?_⟩) | (go_at_call 15; (with_reducible refine (cells_Load.calls _ _ t144 (Int.tmod (wrap64 (a2)) (l0.length : Int)) t148 _ ?side1 ?side2 A24.out).mono ?_); (case side1 => repeat (first | exact (Kd.V_reads' HO146.out).2.2 | (with_reducible refine Kd.C_alloc ?_ _) | (with_reducible refine Kd.C_drewN ?_ _) | (with_reducible refine Kd.C_drew ?_))); (case side2 => exact (Kd.V_reads' HO146.out).2.1); rintro e w' ⟨rfl, ⟨nd, rfl⟩⟩) | (go_at_call 15; (with_reducible refine (cells_Load.calls _ _ l0 (Int.tmod (wrap64 (a2)) (l0.length : Int)) t149 _ ?side1 ?side2 A25.out).mono ?_); (case side1 => repeat (first | exact (Kd.C_below HR0.out (by repeat (first | (with_reducible first | exact HB.out | apply below_alloc | apply pw_below_drewN | apply below_drew1) | exact HB.out))) | (with_reducible refine Kd.C_alloc ?_ _) | (with_reducible refine Kd.C_drewN ?_ _) | (with_reducible refine Kd.C_drew ?_))); (case side2 => exact HC0.out); rintro e w' ⟨rfl, ⟨nd, rfl⟩⟩))
                  go_meet
                  case rel => exact ⟨_, (((t144.length : Int) != (l0.length : Int))), (by first | rfl | (simp; done) | (simp [*]; done)), H', ⟨by have := HJ5.out; first | omega | exact Nat.le_refl _⟩, ⟨by (with_reducible repeat (first | apply Kd.V_alloc | apply Kd.V_drewN | apply Kd.V_drew)); exact HO146.out⟩, ⟨by repeat (first | (with_reducible first | exact HB.out | apply below_alloc | apply pw_below_drewN | apply below_drew1) | exact HB.out)⟩⟩
                · rw [if_neg c26] at H
                  have c26b0 : (t148 == t149) = false := beq_eq_false_iff_ne.mpr c26
                  have c26b1 : (t148 != t149) = true := bne_iff_ne.mpr c26
                  have H' := Aside0.mk H
                  clear H
                  obtain ⟨Ao28, co28, eo28⟩ := Kd.V_slice HO146.out
                  subst eo28
                  go_wp2_with (first | ((with_reducible refine gate_callee (f := 15) rfl ?_); refine goesL_ (some 50) rfl rfl Try.func15 (by kernel_rfl) rfl #[.slice Ao28 t144.length co28, .int .i64 (Int.tmod (wrap64 (a1)) (l0.length : Int))] rfl (by (try simp only [List.map_toArray, List.map_cons, List.map_nil]); first | done | rfl | (simp only [List.length_drop, List.length_take]; rfl)) ?_; (with_reducible refine (cells_Load.calls _ _ t144 (Int.tmod (wrap64 (a1)) (l0.length : Int)) t147 _ ?side1 ?side2 A20.out).mono ?_); (case side1 => repeat (first | exact (Kd.V_reads' HO146.out).2.2 | (with_reducible refine Kd.C_alloc ?_ _) | (with_reducible refine Kd.C_drewN ?_ _) | (with_reducible refine Kd.C_drew ?_))); (case side2 => exact (Kd.V_reads' HO146.out).2.1); rintro e w' ⟨rfl, ⟨nd, rfl⟩⟩; refine ⟨_, rfl, ?_⟩) | (go_at_call 15; (with_reducible refine (cells_Load.calls _ _ t144 (Int.tmod (wrap64 (a2)) (l0.length : Int)) t148 _ ?side1 ?side2 A24.out).mono ?_); (case side1 => repeat (first | exact (Kd.V_reads' HO146.out).2.2 | (with_reducible refine Kd.C_alloc ?_ _) | (with_reducible refine Kd.C_drewN ?_ _) | (with_reducible refine Kd.C_drew ?_))); (case side2 => exact (Kd.V_reads' HO146.out).2.1); rintro e w' ⟨rfl, ⟨nd, rfl⟩⟩) | (go_at_call 15; (with_reducible refine (cells_Load.calls _ _ l0 (Int.tmod (wrap64 (a2)) (l0.length : Int)) t149 _ ?side1 ?side2 A25.out).mono ?_); (case side1 => repeat (first | exact (Kd.C_below HR0.out (by repeat (first | (with_reducible first | exact HB.out | apply below_alloc | apply pw_below_drewN | apply below_drew1) | exact HB.out))) | (with_reducible refine Kd.C_alloc ?_ _) | (with_reducible refine Kd.C_drewN ?_ _) | (with_reducible refine Kd.C_drew ?_))); (case side2 => exact HC0.out); rintro e w' ⟨rfl, ⟨nd, rfl⟩⟩))
                  go_meet
                  case rel => exact ⟨_, (true), (by first | rfl | (simp; done) | (simp [*]; done)), H', ⟨by have := HJ5.out; first | omega | exact Nat.le_refl _⟩, ⟨by (with_reducible repeat (first | apply Kd.V_alloc | apply Kd.V_drewN | apply Kd.V_drew)); exact HO146.out⟩, ⟨by repeat (first | (with_reducible first | exact HB.out | apply below_alloc | apply pw_below_drewN | apply below_drew1) | exact HB.out)⟩⟩
            · rw [if_neg c21] at H
              have c21b0 : (t147 == a3) = false := beq_eq_false_iff_ne.mpr c21
              have c21b1 : (t147 != a3) = true := bne_iff_ne.mpr c21
              (first | rw [c21b0] | (simp only [i64_w, i32_w]; rw [c21b0]) | skip)
              have H' := Aside0.mk H
              clear H
              obtain ⟨Ao29, co29, eo29⟩ := Kd.V_slice HO146.out
              subst eo29
              go_wp2_with (first | ((with_reducible refine gate_callee (f := 15) rfl ?_); refine goesL_ (some 50) rfl rfl Try.func15 (by kernel_rfl) rfl #[.slice Ao29 t144.length co29, .int .i64 (Int.tmod (wrap64 (a1)) (l0.length : Int))] rfl (by (try simp only [List.map_toArray, List.map_cons, List.map_nil]); first | done | rfl | (simp only [List.length_drop, List.length_take]; rfl)) ?_; (with_reducible refine (cells_Load.calls _ _ t144 (Int.tmod (wrap64 (a1)) (l0.length : Int)) t147 _ ?side1 ?side2 A20.out).mono ?_); (case side1 => repeat (first | exact (Kd.V_reads' HO146.out).2.2 | (with_reducible refine Kd.C_alloc ?_ _) | (with_reducible refine Kd.C_drewN ?_ _) | (with_reducible refine Kd.C_drew ?_))); (case side2 => exact (Kd.V_reads' HO146.out).2.1); rintro e w' ⟨rfl, ⟨nd, rfl⟩⟩; refine ⟨_, rfl, ?_⟩))
              go_meet
              case rel => exact ⟨_, (true), (by first | rfl | (simp; done) | (simp [*]; done)), H', ⟨by have := HJ5.out; first | omega | exact Nat.le_refl _⟩, ⟨by (with_reducible repeat (first | apply Kd.V_alloc | apply Kd.V_drewN | apply Kd.V_drew)); exact HO146.out⟩, ⟨by repeat (first | (with_reducible first | exact HB.out | apply below_alloc | apply pw_below_drewN | apply below_drew1) | exact HB.out)⟩⟩
          case rest =>
            clear HC18
            try clear c1
            try clear c2
            try clear p2
            try clear c5
            try clear p6
            try clear c8
            try clear c9
            try clear c9b0
            try clear c9b1
            try clear c12
            try clear c13
            try clear c15
            try clear c16
            try clear c16b0
            try clear c16b1
            try clear c16b2
            try clear c18
            try clear c21
            try clear c21b0
            try clear c21b1
            try clear c22
            try clear c22b0
            try clear c22b1
            try clear c26
            try clear c26b0
            try clear c26b1
            try clear p2
            obtain ⟨kq, x73_17, rfl, HA, HJ17, HO_13, HB⟩ := hcut
            cases kq with
            | zero => exact absurd HA.out (by simp [lodgerlaw02_CellsOne.j1])
            | succ kj17 =>
              have H := HA.out
              clear HA
              simp only [lodgerlaw02_CellsOne.j1] at H
              by_cases c30 : x73_17 = true
              · subst c30
                have H1 : (some false) = some r := by rw [if_pos rfl] at H; exact H
                rw [hr_.out] at H1
                exact absurd (Option.some.inj H1) (by decide)
              · replace c30 := Bool.eq_false_iff.mpr c30
                subst c30
                have H1 : ((cells_Load.f l0 (Int.tmod (wrap64 (a1)) (l0.length : Int))).bind fun t150 => ((cells_Swap.f l0 (Int.tmod (wrap64 (a1)) (l0.length : Int)) t150 a3).bind fun bt151 => ((cells_Swap.f bt151.1 (Int.tmod (wrap64 (a1)) (l0.length : Int)) t150 a4).bind fun bt155 => (if bt151.2 = true then ((lodgerref02_Same.f kj17 bt151.1 t144).bind fun t159 => (if t159 = true then (lodgerlaw02_CellsOne.j2 kj17 l0 a3 (Int.tmod (wrap64 (a1)) (l0.length : Int)) t150 bt151.1 bt155.1 bt155.2 (bt155.2 != (a3 == t150))) else (lodgerlaw02_CellsOne.j2 kj17 l0 a3 (Int.tmod (wrap64 (a1)) (l0.length : Int)) t150 bt151.1 bt155.1 bt155.2 true))) else (lodgerlaw02_CellsOne.j2 kj17 l0 a3 (Int.tmod (wrap64 (a1)) (l0.length : Int)) t150 bt151.1 bt155.1 bt155.2 true))))) = some r := by rw [if_neg (show ¬ (false = true) by decide)] at H; exact H
                clear H
                have H := H1
                clear H1
                replace H := Option.bind_eq_some_iff.mp H
                obtain ⟨t150, A310, H⟩ := H
                replace H : ((cells_Swap.f l0 (Int.tmod (wrap64 (a1)) (l0.length : Int)) t150 a3).bind fun bt151 => ((cells_Swap.f bt151.1 (Int.tmod (wrap64 (a1)) (l0.length : Int)) t150 a4).bind fun bt155 => (if bt151.2 = true then ((lodgerref02_Same.f kj17 bt151.1 t144).bind fun t159 => (if t159 = true then (lodgerlaw02_CellsOne.j2 kj17 l0 a3 (Int.tmod (wrap64 (a1)) (l0.length : Int)) t150 bt151.1 bt155.1 bt155.2 (bt155.2 != (a3 == t150))) else (lodgerlaw02_CellsOne.j2 kj17 l0 a3 (Int.tmod (wrap64 (a1)) (l0.length : Int)) t150 bt151.1 bt155.1 bt155.2 true))) else (lodgerlaw02_CellsOne.j2 kj17 l0 a3 (Int.tmod (wrap64 (a1)) (l0.length : Int)) t150 bt151.1 bt155.1 bt155.2 true)))) = some r := H
                have A31 := Aside0.mk A310
                clear A310
                replace H := Option.bind_eq_some_iff.mp H
                obtain ⟨⟨t151, t154⟩, A320, H⟩ := H
                replace H : ((cells_Swap.f t151 (Int.tmod (wrap64 (a1)) (l0.length : Int)) t150 a4).bind fun bt155 => (if t154 = true then ((lodgerref02_Same.f kj17 t151 t144).bind fun t159 => (if t159 = true then (lodgerlaw02_CellsOne.j2 kj17 l0 a3 (Int.tmod (wrap64 (a1)) (l0.length : Int)) t150 t151 bt155.1 bt155.2 (bt155.2 != (a3 == t150))) else (lodgerlaw02_CellsOne.j2 kj17 l0 a3 (Int.tmod (wrap64 (a1)) (l0.length : Int)) t150 t151 bt155.1 bt155.2 true))) else (lodgerlaw02_CellsOne.j2 kj17 l0 a3 (Int.tmod (wrap64 (a1)) (l0.length : Int)) t150 t151 bt155.1 bt155.2 true))) = some r := H
                have A32 := Aside0.mk A320
                clear A320
                replace H := Option.bind_eq_some_iff.mp H
                obtain ⟨⟨t155, t158⟩, A330, H⟩ := H
                replace H : (if t154 = true then ((lodgerref02_Same.f kj17 t151 t144).bind fun t159 => (if t159 = true then (lodgerlaw02_CellsOne.j2 kj17 l0 a3 (Int.tmod (wrap64 (a1)) (l0.length : Int)) t150 t151 t155 t158 (t158 != (a3 == t150))) else (lodgerlaw02_CellsOne.j2 kj17 l0 a3 (Int.tmod (wrap64 (a1)) (l0.length : Int)) t150 t151 t155 t158 true))) else (lodgerlaw02_CellsOne.j2 kj17 l0 a3 (Int.tmod (wrap64 (a1)) (l0.length : Int)) t150 t151 t155 t158 true)) = some r := H
                have A33 := Aside0.mk A330
                clear A330
                have HC34 := Aside0.mk H
                clear H
                go_upto_region 11 with (first | ((with_reducible refine gate_callee (f := 15) rfl ?_); refine goesL_ (some 76) rfl rfl Try.func15 (by kernel_rfl) rfl #[.slice A0 l0.length c0, .int .i64 (Int.tmod (wrap64 (a1)) (l0.length : Int))] rfl (by (try simp only [List.map_toArray, List.map_cons, List.map_nil]); first | done | rfl | (simp only [List.length_drop, List.length_take]; rfl)) ?_; (with_reducible refine (cells_Load.calls _ _ l0 (Int.tmod (wrap64 (a1)) (l0.length : Int)) t150 _ ?side1 ?side2 A31.out).mono ?_); (case side1 => repeat (first | exact (Kd.C_below HR0.out HB.out) | (with_reducible refine Kd.C_alloc ?_ _) | (with_reducible refine Kd.C_drewN ?_ _) | (with_reducible refine Kd.C_drew ?_))); (case side2 => exact HC0.out); rintro e w' ⟨rfl, ⟨nd, rfl⟩⟩; refine ⟨_, rfl, ?_⟩) | ((with_reducible refine gate_callee (f := 13) rfl ?_); refine goesL_ (some 82) rfl rfl Try.func13 (by kernel_rfl) rfl #[.slice A0 l0.length c0, .int .i64 (Int.tmod (wrap64 (a1)) (l0.length : Int)), .int .u64 t150, .int .u64 a3] rfl (by (try simp only [List.map_toArray, List.map_cons, List.map_nil]); first | done | rfl | (simp only [List.length_drop, List.length_take]; rfl)) ?_; (with_reducible refine (cells_Swap.calls (fun k_ => k_ < w.heap.size) _ _ l0 (Int.tmod (wrap64 (a1)) (l0.length : Int)) t150 a3 t151 t154 _ ?side1 A32.out).mono ?_); (case side1 => exact Kd.V_mk HC0.out (Kd.F_below (Kd.C_F (Kd.heap_int .u64) HR0.out) (by repeat (first | (with_reducible first | exact HB.out | apply below_alloc | apply pw_below_drewN | apply below_drew1) | exact HB.out)))); rintro e w35 ⟨v152, rfl, ho0, hb⟩; refine ⟨_, rfl, ?_⟩; have n0_ := Aside0.mk (Kd.V_below (by (with_reducible repeat (first | apply Kd.V_alloc | apply Kd.V_drewN | apply Kd.V_drew)); exact HO_13.out) hb); have n1_ := Aside0.mk (Kd.V_lower (Kd.V_mono (ok' := fun k_ => True) ho0 (fun k_ hk_ => trivial)) (below_size (by repeat (first | (with_reducible first | exact HB.out | apply below_alloc | apply pw_below_drewN | apply below_drew1) | exact HB.out)))); have n2_ := Aside0.mk (below_step (by repeat (first | (with_reducible first | exact HB.out | apply below_alloc | apply pw_below_drewN | apply below_drew1) | exact HB.out)) hb); clear HO_13; clear HB; have HO_13 := n0_; have HO153 := n1_; have HB := n2_; clear n0_ n1_ n2_; (try clear hb); (try clear hb2); (try clear hk); (try clear hi); (try clear ho0); obtain ⟨Ao36, co36, eo36⟩ := Kd.V_slice HO153.out; subst eo36) | ((with_reducible refine gate_callee (f := 13) rfl ?_); refine goesL_ (some 90) rfl rfl Try.func13 (by kernel_rfl) rfl #[.slice Ao36 t151.length co36, .int .i64 (Int.tmod (wrap64 (a1)) (l0.length : Int)), .int .u64 t150, .int .u64 a4] rfl (by (try simp only [List.map_toArray, List.map_cons, List.map_nil]); first | done | rfl | (simp only [List.length_drop, List.length_take]; rfl)) ?_; (with_reducible refine (cells_Swap.calls (fun k_ => True) _ _ t151 (Int.tmod (wrap64 (a1)) (l0.length : Int)) t150 a4 t155 t158 _ ?side1 A33.out).mono ?_); (case side1 => exact HO153.out); rintro e w37 ⟨v156, rfl, ho0, hb⟩; refine ⟨_, rfl, ?_⟩; have n0_ := Aside0.mk (Kd.V_below (by (with_reducible repeat (first | apply Kd.V_alloc | apply Kd.V_drewN | apply Kd.V_drew)); exact HO_13.out) hb); have n1_ := Aside0.mk (Kd.V_below (by (with_reducible repeat (first | apply Kd.V_alloc | apply Kd.V_drewN | apply Kd.V_drew)); exact HO153.out) hb); have n2_ := Aside0.mk (Kd.V_lower (Kd.V_mono (ok' := fun k_ => True) ho0 (fun k_ hk_ => trivial)) (below_size (by repeat (first | (with_reducible first | exact HB.out | apply below_alloc | apply pw_below_drewN | apply below_drew1) | exact HB.out)))); have n3_ := Aside0.mk (below_step (by repeat (first | (with_reducible first | exact HB.out | apply below_alloc | apply pw_below_drewN | apply below_drew1) | exact HB.out)) hb); clear HO_13; clear HO153; clear HB; have HO_13 := n0_; have HO153 := n1_; have HO157 := n2_; have HB := n3_; clear n0_ n1_ n2_ n3_; (try clear hb); (try clear hb2); (try clear hk); (try clear hi); (try clear ho0)))
                (try simp only [Act.put, List.setIfInBounds_toArray, List.set_cons_zero, List.set_cons_succ])
                go_cut [107] (fun v107 wc => ∃ (kq : Nat) (x107_33 : Bool), v107 = .bool x107_33 ∧ Aside0 (lodgerlaw02_CellsOne.j2 kq l0 a3 (Int.tmod (wrap64 (a1)) (l0.length : Int)) t150 t151 t155 t158 x107_33 = some r) ∧ Aside0 (kq ≤ kj17) ∧ Aside0 (Kd.V (Kd.int .u64) 23 wc w.heap.size (fun _ => True) (.slice Ao36 t151.length co36) t151) ∧ Aside0 (Kd.V (Kd.int .u64) 23 wc w.heap.size (fun _ => True) v156 t155) ∧ Aside0 (Below w.heap.size w wc))
                case first =>
                  have H := HC34.out
                  clear HC34
                  by_cases c38 : t154 = true
                  · subst c38
                    have H1 : ((lodgerref02_Same.f kj17 t151 t144).bind fun t159 => (if t159 = true then (lodgerlaw02_CellsOne.j2 kj17 l0 a3 (Int.tmod (wrap64 (a1)) (l0.length : Int)) t150 t151 t155 t158 (t158 != (a3 == t150))) else (lodgerlaw02_CellsOne.j2 kj17 l0 a3 (Int.tmod (wrap64 (a1)) (l0.length : Int)) t150 t151 t155 t158 true))) = some r := by rw [if_pos rfl] at H; exact H
                    clear H
                    have H := H1
                    clear H1
                    replace H := Option.bind_eq_some_iff.mp H
                    obtain ⟨t159, A390, H⟩ := H
                    replace H : (if t159 = true then (lodgerlaw02_CellsOne.j2 kj17 l0 a3 (Int.tmod (wrap64 (a1)) (l0.length : Int)) t150 t151 t155 t158 (t158 != (a3 == t150))) else (lodgerlaw02_CellsOne.j2 kj17 l0 a3 (Int.tmod (wrap64 (a1)) (l0.length : Int)) t150 t151 t155 t158 true)) = some r := H
                    have A39 := Aside0.mk A390
                    clear A390
                    by_cases c40 : t159 = true
                    · subst c40
                      have H1 : (lodgerlaw02_CellsOne.j2 kj17 l0 a3 (Int.tmod (wrap64 (a1)) (l0.length : Int)) t150 t151 t155 t158 (t158 != (a3 == t150))) = some r := by rw [if_pos rfl] at H; exact H
                      clear H
                      have H := H1
                      clear H1
                      have H' := Aside0.mk H
                      clear H
                      obtain ⟨Ao41, co41, eo41⟩ := Kd.V_slice HO_13.out
                      subst eo41
                      go_wp2_with (first | (go_at_call 17; (with_reducible refine (lodgerref02_Same.calls kj17 _ _ t151 _ _ t144 true _ ?side1 ?side2 ?side3 ?side4 A39.out).mono ?_); (case side1 => repeat (first | exact (Kd.V_reads' HO153.out).2.2 | (with_reducible refine Kd.C_alloc ?_ _) | (with_reducible refine Kd.C_drewN ?_ _) | (with_reducible refine Kd.C_drew ?_))); (case side2 => exact (Kd.V_reads' HO153.out).2.1); (case side3 => repeat (first | exact (Kd.V_reads' HO_13.out).2.2 | (with_reducible refine Kd.C_alloc ?_ _) | (with_reducible refine Kd.C_drewN ?_ _) | (with_reducible refine Kd.C_drew ?_))); (case side4 => exact (Kd.V_reads' HO_13.out).2.1); rintro e w' ⟨rfl, ⟨nd, rfl⟩⟩))
                      go_meet
                      case rel => exact ⟨_, ((t158 != (a3 == t150))), (by first | rfl | (simp; done) | (simp [*]; done)), H', ⟨by have := HJ5.out; have := HJ17.out; first | omega | exact Nat.le_refl _⟩, ⟨by (with_reducible repeat (first | apply Kd.V_alloc | apply Kd.V_drewN | apply Kd.V_drew)); exact HO153.out⟩, ⟨by (with_reducible repeat (first | apply Kd.V_alloc | apply Kd.V_drewN | apply Kd.V_drew)); exact HO157.out⟩, ⟨by repeat (first | (with_reducible first | exact HB.out | apply below_alloc | apply pw_below_drewN | apply below_drew1) | exact HB.out)⟩⟩
                    · replace c40 := Bool.eq_false_iff.mpr c40
                      subst c40
                      have H1 : (lodgerlaw02_CellsOne.j2 kj17 l0 a3 (Int.tmod (wrap64 (a1)) (l0.length : Int)) t150 t151 t155 t158 true) = some r := by rw [if_neg (show ¬ (false = true) by decide)] at H; exact H
                      clear H
                      have H := H1
                      clear H1
                      have H' := Aside0.mk H
                      clear H
                      obtain ⟨Ao42, co42, eo42⟩ := Kd.V_slice HO_13.out
                      subst eo42
                      go_wp2_with (first | (go_at_call 17; (with_reducible refine (lodgerref02_Same.calls kj17 _ _ t151 _ _ t144 false _ ?side1 ?side2 ?side3 ?side4 A39.out).mono ?_); (case side1 => repeat (first | exact (Kd.V_reads' HO153.out).2.2 | (with_reducible refine Kd.C_alloc ?_ _) | (with_reducible refine Kd.C_drewN ?_ _) | (with_reducible refine Kd.C_drew ?_))); (case side2 => exact (Kd.V_reads' HO153.out).2.1); (case side3 => repeat (first | exact (Kd.V_reads' HO_13.out).2.2 | (with_reducible refine Kd.C_alloc ?_ _) | (with_reducible refine Kd.C_drewN ?_ _) | (with_reducible refine Kd.C_drew ?_))); (case side4 => exact (Kd.V_reads' HO_13.out).2.1); rintro e w' ⟨rfl, ⟨nd, rfl⟩⟩))
                      go_meet
                      case rel => exact ⟨_, (true), (by first | rfl | (simp; done) | (simp [*]; done)), H', ⟨by have := HJ5.out; have := HJ17.out; first | omega | exact Nat.le_refl _⟩, ⟨by (with_reducible repeat (first | apply Kd.V_alloc | apply Kd.V_drewN | apply Kd.V_drew)); exact HO153.out⟩, ⟨by (with_reducible repeat (first | apply Kd.V_alloc | apply Kd.V_drewN | apply Kd.V_drew)); exact HO157.out⟩, ⟨by repeat (first | (with_reducible first | exact HB.out | apply below_alloc | apply pw_below_drewN | apply below_drew1) | exact HB.out)⟩⟩
                  · replace c38 := Bool.eq_false_iff.mpr c38
                    subst c38
                    have H1 : (lodgerlaw02_CellsOne.j2 kj17 l0 a3 (Int.tmod (wrap64 (a1)) (l0.length : Int)) t150 t151 t155 t158 true) = some r := by rw [if_neg (show ¬ (false = true) by decide)] at H; exact H
                    clear H
                    have H := H1
                    clear H1
                    have H' := Aside0.mk H
                    clear H
                    go_wp2
                    go_meet
                    case rel => exact ⟨_, (true), (by first | rfl | (simp; done) | (simp [*]; done)), H', ⟨by have := HJ5.out; have := HJ17.out; first | omega | exact Nat.le_refl _⟩, ⟨by (with_reducible repeat (first | apply Kd.V_alloc | apply Kd.V_drewN | apply Kd.V_drew)); exact HO153.out⟩, ⟨by (with_reducible repeat (first | apply Kd.V_alloc | apply Kd.V_drewN | apply Kd.V_drew)); exact HO157.out⟩, ⟨by repeat (first | (with_reducible first | exact HB.out | apply below_alloc | apply pw_below_drewN | apply below_drew1) | exact HB.out)⟩⟩
                case rest =>
                  clear HC34
                  try clear c1
                  try clear c2
                  try clear p2
                  try clear c3
                  try clear c4
                  try clear c5
                  try clear p6
                  try clear c8
                  try clear c9
                  try clear c9b0
                  try clear c9b1
                  try clear c12
                  try clear c13
                  try clear c15
                  try clear c16
                  try clear c16b0
                  try clear c16b1
                  try clear c16b2
                  try clear c18
                  try clear c21
                  try clear c21b0
                  try clear c21b1
                  try clear c22
                  try clear c22b0
                  try clear c22b1
                  try clear c26
                  try clear c26b0
                  try clear c26b1
                  try clear c30
                  try clear c38
                  try clear c40
                  try clear p2
                  try clear p6
                  obtain ⟨kq, x107_33, rfl, HA, HJ33, HO_15, HO_17, HB⟩ := hcut
                  cases kq with
                  | zero => exact absurd HA.out (by simp [lodgerlaw02_CellsOne.j2])
                  | succ kj33 =>
                    have H := HA.out
                    clear HA
                    simp only [lodgerlaw02_CellsOne.j2] at H
                    by_cases c43 : x107_33 = true
                    · subst c43
                      have H1 : (some false) = some r := by rw [if_pos rfl] at H; exact H
                      rw [hr_.out] at H1
                      exact absurd (Option.some.inj H1) (by decide)
                    · replace c43 := Bool.eq_false_iff.mpr c43
                      subst c43
                      have H1 : ((cells_Swap.f t151 (Int.tmod (wrap64 (a1)) (l0.length : Int)) a3 t150).bind fun bt160 => (if bt160.2 = true then ((lodgerref02_Same.f kj33 bt160.1 l0).bind fun t164 => (if t164 = true then (if t158 = true then (some true) else ((lodgerref02_Same.f kj33 t155 t151).bind fun t165 => (some t165))) else (some false))) else (some false))) = some r := by rw [if_neg (show ¬ (false = true) by decide)] at H; exact H
                      clear H
                      have H := H1
                      clear H1
                      replace H := Option.bind_eq_some_iff.mp H
                      obtain ⟨⟨t160, t163⟩, A440, H⟩ := H
                      replace H : (if t163 = true then ((lodgerref02_Same.f kj33 t160 l0).bind fun t164 => (if t164 = true then (if t158 = true then (some true) else ((lodgerref02_Same.f kj33 t155 t151).bind fun t165 => (some t165))) else (some false))) else (some false)) = some r := H
                      have A44 := Aside0.mk A440
                      clear A440
                      by_cases c45 : t163 = true
                      · subst c45
                        have H1 : ((lodgerref02_Same.f kj33 t160 l0).bind fun t164 => (if t164 = true then (if t158 = true then (some true) else ((lodgerref02_Same.f kj33 t155 t151).bind fun t165 => (some t165))) else (some false))) = some r := by rw [if_pos rfl] at H; exact H
                        clear H
                        have H := H1
                        clear H1
                        replace H := Option.bind_eq_some_iff.mp H
                        obtain ⟨t164, A460, H⟩ := H
                        replace H : (if t164 = true then (if t158 = true then (some true) else ((lodgerref02_Same.f kj33 t155 t151).bind fun t165 => (some t165))) else (some false)) = some r := H
                        have A46 := Aside0.mk A460
                        clear A460
                        by_cases c47 : t164 = true
                        · subst c47
                          have H1 : (if t158 = true then (some true) else ((lodgerref02_Same.f kj33 t155 t151).bind fun t165 => (some t165))) = some r := by rw [if_pos rfl] at H; exact H
                          clear H
                          have H := H1
                          clear H1
                          by_cases c48 : t158 = true
                          · subst c48
                            have H1 : (some true) = some r := by rw [if_pos rfl] at H; exact H
                            clear H
                            have H := H1
                            clear H1
                            first | (exfalso; rw [hr_.out] at H; exact absurd (Option.some.inj H) (by decide)) | (try clear hr_)
                            all_goals
                              obtain rfl := Option.some.inj H
                              go_wp2_with (first | ((with_reducible refine gate_callee (f := 13) rfl ?_); refine goesL_ (some 113) rfl rfl Try.func13 (by kernel_rfl) rfl #[.slice Ao36 t151.length co36, .int .i64 (Int.tmod (wrap64 (a1)) (l0.length : Int)), .int .u64 a3, .int .u64 t150] rfl (by (try simp only [List.map_toArray, List.map_cons, List.map_nil]); first | done | rfl | (simp only [List.length_drop, List.length_take]; rfl)) ?_; (with_reducible refine (cells_Swap.calls (fun k_ => True) _ _ t151 (Int.tmod (wrap64 (a1)) (l0.length : Int)) a3 t150 t160 true _ ?side1 A44.out).mono ?_); (case side1 => exact HO_15.out); rintro e w49 ⟨v161, rfl, ho0, hb⟩; refine ⟨_, rfl, ?_⟩; have n0_ := Aside0.mk (Kd.V_below (by (with_reducible repeat (first | apply Kd.V_alloc | apply Kd.V_drewN | apply Kd.V_drew)); exact HO_15.out) hb); have n1_ := Aside0.mk (Kd.V_below (by (with_reducible repeat (first | apply Kd.V_alloc | apply Kd.V_drewN | apply Kd.V_drew)); exact HO_17.out) hb); have n2_ := Aside0.mk (Kd.V_lower (Kd.V_mono (ok' := fun k_ => True) ho0 (fun k_ hk_ => trivial)) (below_size (by repeat (first | (with_reducible first | exact HB.out | apply below_alloc | apply pw_below_drewN | apply below_drew1) | exact HB.out)))); have n3_ := Aside0.mk (below_step (by repeat (first | (with_reducible first | exact HB.out | apply below_alloc | apply pw_below_drewN | apply below_drew1) | exact HB.out)) hb); clear HO_15; clear HO_17; clear HB; have HO_15 := n0_; have HO_17 := n1_; have HO162 := n2_; have HB := n3_; clear n0_ n1_ n2_ n3_; (try clear hb); (try clear hb2); (try clear hk); (try clear hi); (try clear ho0); obtain ⟨Ao50, co50, eo50⟩ := Kd.V_slice HO162.out; subst eo50) | (go_at_call 17; (with_reducible refine (lodgerref02_Same.calls kj33 _ _ t160 _ _ l0 true _ ?side1 ?side2 ?side3 ?side4 A46.out).mono ?_); (case side1 => repeat (first | exact (Kd.V_reads' HO162.out).2.2 | (with_reducible refine Kd.C_alloc ?_ _) | (with_reducible refine Kd.C_drewN ?_ _) | (with_reducible refine Kd.C_drew ?_))); (case side2 => exact (Kd.V_reads' HO162.out).2.1); (case side3 => repeat (first | exact (Kd.C_below HR0.out HB.out) | (with_reducible refine Kd.C_alloc ?_ _) | (with_reducible refine Kd.C_drewN ?_ _) | (with_reducible refine Kd.C_drew ?_))); (case side4 => exact HC0.out); rintro e w' ⟨rfl, ⟨nd, rfl⟩⟩))
                              go_ret
                              exact ⟨by first | rfl | (simp [errW_none, errW_some] <;> rfl) | (simp [*, errW_none, errW_some] <;> rfl), by repeat (first | (with_reducible first | exact HB.out | apply below_alloc | apply pw_below_drewN | apply below_drew1) | exact HB.out)⟩
                          · replace c48 := Bool.eq_false_iff.mpr c48
                            subst c48
                            have H1 : ((lodgerref02_Same.f kj33 t155 t151).bind fun t165 => (some t165)) = some r := by rw [if_neg (show ¬ (false = true) by decide)] at H; exact H
                            clear H
                            have H := H1
                            clear H1
                            replace H := Option.bind_eq_some_iff.mp H
                            obtain ⟨t165, A510, H⟩ := H
                            replace H : (some t165) = some r := H
                            have A51 := Aside0.mk A510
                            clear A510
                            first | (exfalso; rw [hr_.out] at H; exact absurd (Option.some.inj H) (by decide)) | (try clear hr_)
                            all_goals
                              obtain rfl := Option.some.inj H
                              go_wp2_with (first | ((with_reducible refine gate_callee (f := 13) rfl ?_); refine goesL_ (some 113) rfl rfl Try.func13 (by kernel_rfl) rfl #[.slice Ao36 t151.length co36, .int .i64 (Int.tmod (wrap64 (a1)) (l0.length : Int)), .int .u64 a3, .int .u64 t150] rfl (by (try simp only [List.map_toArray, List.map_cons, List.map_nil]); first | done | rfl | (simp only [List.length_drop, List.length_take]; rfl)) ?_; (with_reducible refine (cells_Swap.calls (fun k_ => True) _ _ t151 (Int.tmod (wrap64 (a1)) (l0.length : Int)) a3 t150 t160 true _ ?side1 A44.out).mono ?_); (case side1 => exact HO_15.out); rintro e w52 ⟨v161, rfl, ho0, hb⟩; refine ⟨_, rfl, ?_⟩; have n0_ := Aside0.mk (Kd.V_below (by (with_reducible repeat (first | apply Kd.V_alloc | apply Kd.V_drewN | apply Kd.V_drew)); exact HO_15.out) hb); have n1_ := Aside0.mk (Kd.V_below (by (with_reducible repeat (first | apply Kd.V_alloc | apply Kd.V_drewN | apply Kd.V_drew)); exact HO_17.out) hb); have n2_ := Aside0.mk (Kd.V_lower (Kd.V_mono (ok' := fun k_ => True) ho0 (fun k_ hk_ => trivial)) (below_size (by repeat (first | (with_reducible first | exact HB.out | apply below_alloc | apply pw_below_drewN | apply below_drew1) | exact HB.out)))); have n3_ := Aside0.mk (below_step (by repeat (first | (with_reducible first | exact HB.out | apply below_alloc | apply pw_below_drewN | apply below_drew1) | exact HB.out)) hb); clear HO_15; clear HO_17; clear HB; have HO_15 := n0_; have HO_17 := n1_; have HO162 := n2_; have HB := n3_; clear n0_ n1_ n2_ n3_; (try clear hb); (try clear hb2); (try clear hk); (try clear hi); (try clear ho0); obtain ⟨Ao53, co53, eo53⟩ := Kd.V_slice HO162.out; subst eo53) | (go_at_call 17; (with_reducible refine (lodgerref02_Same.calls kj33 _ _ t160 _ _ l0 true _ ?side1 ?side2 ?side3 ?side4 A46.out).mono ?_); (case side1 => repeat (first | exact (Kd.V_reads' HO162.out).2.2 | (with_reducible refine Kd.C_alloc ?_ _) | (with_reducible refine Kd.C_drewN ?_ _) | (with_reducible refine Kd.C_drew ?_))); (case side2 => exact (Kd.V_reads' HO162.out).2.1); (case side3 => repeat (first | exact (Kd.C_below HR0.out HB.out) | (with_reducible refine Kd.C_alloc ?_ _) | (with_reducible refine Kd.C_drewN ?_ _) | (with_reducible refine Kd.C_drew ?_))); (case side4 => exact HC0.out); rintro e w' ⟨rfl, ⟨nd, rfl⟩⟩; obtain ⟨Ao54, co54, eo54⟩ := Kd.V_slice HO_17.out; subst eo54) | (go_at_call 17; (with_reducible refine (lodgerref02_Same.calls kj33 _ _ t155 _ _ t151 t165 _ ?side1 ?side2 ?side3 ?side4 A51.out).mono ?_); (case side1 => repeat (first | exact (Kd.V_reads' HO_17.out).2.2 | (with_reducible refine Kd.C_alloc ?_ _) | (with_reducible refine Kd.C_drewN ?_ _) | (with_reducible refine Kd.C_drew ?_))); (case side2 => exact (Kd.V_reads' HO_17.out).2.1); (case side3 => repeat (first | exact (Kd.V_reads' HO_15.out).2.2 | (with_reducible refine Kd.C_alloc ?_ _) | (with_reducible refine Kd.C_drewN ?_ _) | (with_reducible refine Kd.C_drew ?_))); (case side4 => exact (Kd.V_reads' HO_15.out).2.1); rintro e w' ⟨rfl, ⟨nd, rfl⟩⟩))
                              go_ret
                              exact ⟨by first | rfl | (simp [errW_none, errW_some] <;> rfl) | (simp [*, errW_none, errW_some] <;> rfl), by repeat (first | (with_reducible first | exact HB.out | apply below_alloc | apply pw_below_drewN | apply below_drew1) | exact HB.out)⟩
                        · replace c47 := Bool.eq_false_iff.mpr c47
                          subst c47
                          have H1 : (some false) = some r := by rw [if_neg (show ¬ (false = true) by decide)] at H; exact H
                          rw [hr_.out] at H1
                          exact absurd (Option.some.inj H1) (by decide)
                      · replace c45 := Bool.eq_false_iff.mpr c45
                        subst c45
                        have H1 : (some false) = some r := by rw [if_neg (show ¬ (false = true) by decide)] at H; exact H
                        rw [hr_.out] at H1
                        exact absurd (Option.some.inj H1) (by decide)

/-- THE ONE PURE STATEMENT of lodgerlaw02_CellsOne: yours. -/
def lodgerlaw02_CellsOne.Pure : Prop := ∀ (l0 : List Int) (a1 : Int) (a2 : Int) (a3 : Int) (a4 : Int), l0.length ≤ maxLen → l0.length * 8 ≤ 140737488351232 → (∀ x ∈ l0, (Lit.int .u64 x).wf = true) → (Lit.int .u16 a1).wf = true → (Lit.int .u16 a2).wf = true → (Lit.int .u64 a3).wf = true → (Lit.int .u64 a4).wf = true → ∃ k, lodgerlaw02_CellsOne.f k l0 a1 a2 a3 a4 = some true
theorem lodgerlaw02_CellsOne.walk (P : lodgerlaw02_CellsOne.Pure) (a0 : Option Addr) (len0 cap0 : Nat) (z0 : List Int) (a1 : Int) (a2 : Int) (a3 : Int) (a4 : Int) (w : World) (w0 : (a0 = none ∧ len0 = 0 ∧ cap0 = 0 ∧ z0 = []) ∨ ∃ x, a0 = some x ∧ len0 ≤ cap0 ∧ cap0 ≤ maxLen ∧ z0.length = cap0 ∧ (∀ i, i < z0.length → w.cell? (x.add i) = some (.int .u64 (z0.getD i 0))) ∧ ∀ n ∈ z0, (Lit.int .u64 n).wf = true) (y0 : len0 * 8 ≤ 140737488351232) (w1 : (Lit.int .u16 a1).wf = true) (w2 : (Lit.int .u16 a2).wf = true) (w3 : (Lit.int .u64 a3).wf = true) (w4 : (Lit.int .u64 a4).wf = true) :
    Calls Try.prog 5 #[.slice a0 len0 cap0, .int .u16 a1, .int .u16 a2, .int .u64 a3, .int .u64 a4] w fun e w' => e = .returned (.bool true) ∧ Below w.heap.size w w' := by
  obtain ⟨l0, rfl, hr0, hm0, hw0, hc0⟩ := ReadsInt.ofRowC w0
  obtain ⟨k, h⟩ := P l0 a1 a2 a3 a4 hm0 y0 hw0 w1 w2 w3 w4
  refine (lodgerlaw02_CellsOne.calls k _ _ l0 a1 a2 a3 a4 true w (Kd.C_of_reads (d := (0 : Int)) (h1 := fun _ => rfl) hr0) hc0 rfl h).mono ?_
  rintro e w' ⟨rfl, hd⟩
  exact ⟨rfl, hd⟩

end Go.Proofs.Ytpkomlobikmkkaa.PCellsOne
