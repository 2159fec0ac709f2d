/- The walk of CellsApart, part of it: what the Go functions answer; no condition. -/
import Derived.Test.YtpkomlobikmkkaaQCellsApartx0
import Derived.Test.YtpkomlobikmkkaaQCellsApartx1
namespace Go.Proofs.Ytpkomlobikmkkaa.PCellsApart
open Go.RowKit Go.Proofs.YtpkomlobikmkkaaW.PrintWords Go.Proofs.YtpkomlobikmkkaaW.PrintLast Go.Proofs.YtpkomlobikmkkaaW.PrintMore
attribute [local go_sem] max2_int min2_int max_two min_two max_three min_three max_four min_four   -- for this text's walks alone
set_option linter.unusedVariables false
set_option linter.unusedSimpArgs false

/-! ### lodgerlaw02_CellsApart: function 8 -/
mutual
def lodgerlaw02_CellsApart.j0 : Nat → List Int → Int → Int → Int → Int → Bool → Option (Bool)
  | 0, _, _, _, _, _, _ => none
  | k + 1, x0, x1, x2, x3, x4, x30 => if x30 = true then ((lodgerlaw02_awake.f k).bind fun t143 => (some t143)) else (if (x0.length : Int) = 0 then (none) else ((cells_Add.f x0 (Int.tmod (wrap64 (x1)) (x0.length : Int)) x3).bind fun t144 => ((cells_Store.f t144 (Int.tmod (wrap64 (x2)) (x0.length : Int)) x4).bind fun t147 => ((cells_Store.f x0 (Int.tmod (wrap64 (x2)) (x0.length : Int)) x4).bind fun t150 => ((cells_Add.f t150 (Int.tmod (wrap64 (x1)) (x0.length : Int)) x3).bind fun t153 => (if (Int.tmod (wrap64 (x1)) (x0.length : Int)) = (Int.tmod (wrap64 (x2)) (x0.length : Int)) then ((cells_Load.f t147 (Int.tmod (wrap64 (x2)) (x0.length : Int))).bind fun t156 => (if t156 = x4 then ((cells_Load.f t153 (Int.tmod (wrap64 (x2)) (x0.length : Int))).bind fun t157 => (lodgerlaw02_CellsApart.j1 k x0 x3 (Int.tmod (wrap64 (x2)) (x0.length : Int)) (t157 != (IntKind.u64.wrap (x4 + x3))))) else (lodgerlaw02_CellsApart.j1 k x0 x3 (Int.tmod (wrap64 (x2)) (x0.length : Int)) true))) else ((lodgerref02_Same.f k t147 t153).bind fun t158 => (if t158 = true then (lodgerlaw02_CellsApart.j1 k x0 x3 (Int.tmod (wrap64 (x2)) (x0.length : Int)) false) else (lodgerlaw02_CellsApart.j1 k x0 x3 (Int.tmod (wrap64 (x2)) (x0.length : Int)) true)))))))))
def lodgerlaw02_CellsApart.j1 : Nat → List Int → Int → Int → Bool → Option (Bool)
  | 0, _, _, _, _ => none
  | k + 1, x0, x3, x12, x85 => if x85 = true then (some false) else ((cells_Swap.f x0 (x0.length : Int) 0 x3).bind fun bt159 => ((cells_Swap.f x0 (wrap64 ((-1) - x12)) 0 x3).bind fun bt163 => (if bt159.2 = true then (some false) else (if bt163.2 = true then (some false) else ((lodgerref02_Same.f k bt159.1 x0).bind fun t167 => (if t167 = true then ((lodgerref02_Same.f k bt163.1 x0).bind fun t168 => (if t168 = true then ((cells_Add.f x0 (wrap64 ((x0.length : Int) + x12)) x3).bind fun t169 => ((lodgerref02_Same.f k t169 x0).bind fun t172 => (if t172 = true then ((cells_Load.f x0 (x0.length : Int)).bind fun t173 => (if t173 = 0 then ((cells_Load.f x0 (-1)).bind fun t174 => (some (t174 == 0))) else (some false))) else (some false)))) else (some false))) else (some false)))))))
end
def lodgerlaw02_CellsApart.f (k : Nat) (l0 : List Int) (a1 : Int) (a2 : Int) (a3 : Int) (a4 : Int) : Option (Bool) := (lodgerlaw02_awake.f k).bind fun t142 => (if t142 = true then (if (l0.length : Int) > 1000 then (lodgerlaw02_CellsApart.j0 k l0 a1 a2 a3 a4 true) else (lodgerlaw02_CellsApart.j0 k l0 a1 a2 a3 a4 ((l0.length : Int) == 0))) else (lodgerlaw02_CellsApart.j0 k l0 a1 a2 a3 a4 true))
theorem lodgerlaw02_CellsApart.mono_l : ∀ k, (∀ y0 y1 y2 y3 y4 y5, LeO (lodgerlaw02_CellsApart.j0 k y0 y1 y2 y3 y4 y5) (lodgerlaw02_CellsApart.j0 (k + 1) y0 y1 y2 y3 y4 y5)) ∧ (∀ y0 y1 y2 y3, LeO (lodgerlaw02_CellsApart.j1 k y0 y1 y2 y3) (lodgerlaw02_CellsApart.j1 (k + 1) y0 y1 y2 y3))
  | 0 => ⟨fun _ _ _ _ _ _ r h => by simp [lodgerlaw02_CellsApart.j0] at h, fun _ _ _ _ r h => by simp [lodgerlaw02_CellsApart.j1] at h⟩
  | k + 1 => by
    obtain ⟨ih0, ih1⟩ := lodgerlaw02_CellsApart.mono_l k
    refine ⟨?_, ?_⟩
    · intro y0 y1 y2 y3 y4 y5
      unfold lodgerlaw02_CellsApart.j0
      repeat' first
      | (with_reducible exact ih0 _ _ _ _ _ _)
      | (with_reducible exact ih1 _ _ _ _)
      | (with_reducible exact lodgerlaw02_awake.mono _)
      | (with_reducible exact lodgerref02_Same.mono _ _ _)
      | (with_reducible exact LeO.refl _)
      | (with_reducible exact LeO.none _)
      | (with_reducible refine LeO.ite ?_ ?_)
      | (with_reducible refine LeO.bind ?_ (fun _ => ?_))
      | exact ih0 _ _ _ _ _ _
      | exact ih1 _ _ _ _
      | exact lodgerlaw02_awake.mono _
      | exact lodgerref02_Same.mono _ _ _
      | exact LeO.none _
      | refine LeO.ite ?_ ?_
      | refine LeO.bind ?_ (fun _ => ?_)
    · intro y0 y1 y2 y3
      unfold lodgerlaw02_CellsApart.j1
      repeat' first
      | (with_reducible exact ih0 _ _ _ _ _ _)
      | (with_reducible exact ih1 _ _ _ _)
      | (with_reducible exact lodgerlaw02_awake.mono _)
      | (with_reducible exact lodgerref02_Same.mono _ _ _)
      | (with_reducible exact LeO.refl _)
      | (with_reducible exact LeO.none _)
      | (with_reducible refine LeO.ite ?_ ?_)
      | (with_reducible refine LeO.bind ?_ (fun _ => ?_))
      | exact ih0 _ _ _ _ _ _
      | exact ih1 _ _ _ _
      | exact lodgerlaw02_awake.mono _
      | exact lodgerref02_Same.mono _ _ _
      | exact LeO.none _
      | refine LeO.ite ?_ ?_
      | refine LeO.bind ?_ (fun _ => ?_)
theorem lodgerlaw02_CellsApart.mono : ∀ a0 a1 a2 a3 a4 k, LeO (lodgerlaw02_CellsApart.f k a0 a1 a2 a3 a4) (lodgerlaw02_CellsApart.f (k + 1) a0 a1 a2 a3 a4) := by
  intro a0 a1 a2 a3 a4 k
  obtain ⟨ih0, ih1⟩ := lodgerlaw02_CellsApart.mono_l k
  unfold lodgerlaw02_CellsApart.f
  repeat' first
      | (with_reducible exact ih0 _ _ _ _ _ _)
      | (with_reducible exact ih1 _ _ _ _)
      | (with_reducible exact lodgerlaw02_awake.mono _)
      | (with_reducible exact lodgerref02_Same.mono _ _ _)
      | (with_reducible exact LeO.refl _)
      | (with_reducible exact LeO.none _)
      | (with_reducible refine LeO.ite ?_ ?_)
      | (with_reducible refine LeO.bind ?_ (fun _ => ?_))
      | exact ih0 _ _ _ _ _ _
      | exact ih1 _ _ _ _
      | exact lodgerlaw02_awake.mono _
      | exact lodgerref02_Same.mono _ _ _
      | exact LeO.none _
      | refine LeO.ite ?_ ?_
      | refine LeO.bind ?_ (fun _ => ?_)
set_option maxHeartbeats 8000000 in
set_option maxRecDepth 100000 in
theorem lodgerlaw02_CellsApart.calls (k : Nat) (A0 : Option Addr) (c0 : Nat) (l0 : List Int) (a1 : Int) (a2 : Int) (a3 : Int) (a4 : Int) (r : Bool) (w : World) (hr0 : Kd.C (Kd.int .u64) w A0 l0.length l0) (hc0 : l0.length ≤ c0) (hr_ : r = true) (h : lodgerlaw02_CellsApart.f k l0 a1 a2 a3 a4 = some r) :
    Calls Try.prog 8 #[.slice A0 l0.length c0, .int .u16 a1, .int .u16 a2, .int .u64 a3, .int .u64 a4] w fun e w' => e = .returned (.bool r) ∧ Below w.heap.size w w' := by
  have HR0 := Aside0.mk hr0
  have HC0 := Aside0.mk hc0
  clear hr0 hc0
  have HB := Aside0.mk (Below.refl w.heap.size w)
  replace hr_ := Aside0.mk hr_
  have H : ((lodgerlaw02_awake.f k).bind fun t142 => (if t142 = true then (if (l0.length : Int) > 1000 then (lodgerlaw02_CellsApart.j0 k l0 a1 a2 a3 a4 true) else (lodgerlaw02_CellsApart.j0 k l0 a1 a2 a3 a4 ((l0.length : Int) == 0))) else (lodgerlaw02_CellsApart.j0 k l0 a1 a2 a3 a4 true))) = some r := h
  clear h
  have HC6 := Aside0.mk H
  clear H
  go_enter Try.func8, Try.ntmps8
  go_upto_region 1 with (fail)
  go_cut [30] (fun v30 wc => ∃ (kq : Nat) (x30_5 : Bool), v30 = .bool x30_5 ∧ Aside0 (lodgerlaw02_CellsApart.j0 kq l0 a1 a2 a3 a4 x30_5 = some r) ∧ Aside0 (kq ≤ k) ∧ Aside0 (Below w.heap.size w wc))
  case first =>
    have H := HC6.out
    clear HC6
    replace H := Option.bind_eq_some_iff.mp H
    obtain ⟨t142, A70, H⟩ := H
    replace H : (if t142 = true then (if (l0.length : Int) > 1000 then (lodgerlaw02_CellsApart.j0 k l0 a1 a2 a3 a4 true) else (lodgerlaw02_CellsApart.j0 k l0 a1 a2 a3 a4 ((l0.length : Int) == 0))) else (lodgerlaw02_CellsApart.j0 k l0 a1 a2 a3 a4 true)) = some r := H
    have A7 := Aside0.mk A70
    clear A70
    by_cases c8 : t142 = true
    · subst c8
      have H1 : (if (l0.length : Int) > 1000 then (lodgerlaw02_CellsApart.j0 k l0 a1 a2 a3 a4 true) else (lodgerlaw02_CellsApart.j0 k l0 a1 a2 a3 a4 ((l0.length : Int) == 0))) = some r := by rw [if_pos rfl] at H; exact H
      clear H
      have H := H1
      clear H1
      by_cases c9 : (l0.length : Int) > 1000
      · rw [if_pos c9] at H
        have c9b0 : decide (1000 < (l0.length : Int)) = true := decide_eq_true c9
        have c9b1 : decide (1000 < l0.length) = true := decide_eq_true (by omega)
        clear c9
        (first | rw [c9b0] | (simp only [i64_w, i32_w]; rw [c9b0]) | skip)
        have H' := Aside0.mk H
        clear H
        go_wp2_with (first | ((with_reducible refine gate_callee (f := 12) rfl ?_); refine goesL_ (some 19) rfl rfl Try.func12 (by kernel_rfl) rfl #[] rfl (by (try simp only [List.map_toArray, List.map_cons, List.map_nil]); first | done | rfl | (simp only [List.length_drop, List.length_take]; rfl)) ?_; (with_reducible refine (lodgerlaw02_awake.calls k  true _ A7.out).mono ?_); rintro e w10 ⟨rfl, hb⟩; refine ⟨_, rfl, ?_⟩; have n0_ := Aside0.mk (below_step (by repeat (first | (with_reducible first | exact HB.out | apply below_alloc | apply pw_below_drewN | apply below_drew1) | exact HB.out)) hb); clear HB; have HB := n0_; clear n0_; (try clear hb); (try clear hb2); (try clear hk); (try clear hi)))
        go_meet
        case rel => exact ⟨_, (true), (by first | rfl | (simp; done) | (simp [*]; done)), H', ⟨by first | omega | exact Nat.le_refl _⟩, ⟨by repeat (first | (with_reducible first | exact HB.out | apply below_alloc | apply pw_below_drewN | apply below_drew1) | exact HB.out)⟩⟩
      · rw [if_neg c9] at H
        have c9b0 : decide (1000 < (l0.length : Int)) = false := decide_eq_false c9
        have c9b1 : decide (1000 < l0.length) = false := decide_eq_false (by omega)
        clear c9
        (first | rw [c9b0] | (simp only [i64_w, i32_w]; rw [c9b0]) | skip)
        have H' := Aside0.mk H
        clear H
        go_wp2_with (first | ((with_reducible refine gate_callee (f := 12) rfl ?_); refine goesL_ (some 19) rfl rfl Try.func12 (by kernel_rfl) rfl #[] rfl (by (try simp only [List.map_toArray, List.map_cons, List.map_nil]); first | done | rfl | (simp only [List.length_drop, List.length_take]; rfl)) ?_; (with_reducible refine (lodgerlaw02_awake.calls k  true _ A7.out).mono ?_); rintro e w11 ⟨rfl, hb⟩; refine ⟨_, rfl, ?_⟩; have n0_ := Aside0.mk (below_step (by repeat (first | (with_reducible first | exact HB.out | apply below_alloc | apply pw_below_drewN | apply below_drew1) | exact HB.out)) hb); clear HB; have HB := n0_; clear n0_; (try clear hb); (try clear hb2); (try clear hk); (try clear hi)))
        go_meet
        case rel => exact ⟨_, (((l0.length : Int) == 0)), (by first | rfl | (simp; done) | (simp [*]; done)), H', ⟨by first | omega | exact Nat.le_refl _⟩, ⟨by repeat (first | (with_reducible first | exact HB.out | apply below_alloc | apply pw_below_drewN | apply below_drew1) | exact HB.out)⟩⟩
    · replace c8 := Bool.eq_false_iff.mpr c8
      subst c8
      have H1 : (lodgerlaw02_CellsApart.j0 k l0 a1 a2 a3 a4 true) = some r := by rw [if_neg (show ¬ (false = true) by decide)] at H; exact H
      clear H
      have H := H1
      clear H1
      have H' := Aside0.mk H
      clear H
      go_wp2_with (first | ((with_reducible refine gate_callee (f := 12) rfl ?_); refine goesL_ (some 19) rfl rfl Try.func12 (by kernel_rfl) rfl #[] rfl (by (try simp only [List.map_toArray, List.map_cons, List.map_nil]); first | done | rfl | (simp only [List.length_drop, List.length_take]; rfl)) ?_; (with_reducible refine (lodgerlaw02_awake.calls k  false _ A7.out).mono ?_); rintro e w12 ⟨rfl, hb⟩; refine ⟨_, rfl, ?_⟩; have n0_ := Aside0.mk (below_step (by repeat (first | (with_reducible first | exact HB.out | apply below_alloc | apply pw_below_drewN | apply below_drew1) | exact HB.out)) hb); clear HB; have HB := n0_; clear n0_; (try clear hb); (try clear hb2); (try clear hk); (try clear hi)))
      go_meet
      case rel => exact ⟨_, (true), (by first | rfl | (simp; done) | (simp [*]; done)), H', ⟨by first | omega | exact Nat.le_refl _⟩, ⟨by repeat (first | (with_reducible first | exact HB.out | apply below_alloc | apply pw_below_drewN | apply below_drew1) | exact HB.out)⟩⟩
  case rest =>
    clear HC6
    try clear c1
    try clear p2
    try clear c8
    try clear c9
    try clear c9b0
    try clear c9b1
    try clear c12
    obtain ⟨kq, x30_5, rfl, HA, HJ5, HB⟩ := hcut
    cases kq with
    | zero => exact absurd HA.out (by simp [lodgerlaw02_CellsApart.j0])
    | succ kj5 =>
      have H := HA.out
      clear HA
      simp only [lodgerlaw02_CellsApart.j0] at H
      by_cases c13 : x30_5 = true
      · subst c13
        have H1 : ((lodgerlaw02_awake.f kj5).bind fun t143 => (some t143)) = some r := by rw [if_pos rfl] at H; exact H
        clear H
        have H := H1
        clear H1
        replace H := Option.bind_eq_some_iff.mp H
        obtain ⟨t143, A140, H⟩ := H
        replace H : (some t143) = some r := H
        have A14 := Aside0.mk A140
        clear A140
        first | (exfalso; rw [hr_.out] at H; exact absurd (Option.some.inj H) (by decide)) | (try clear hr_)
        all_goals
          obtain rfl := Option.some.inj H
          go_wp2_with (first | ((with_reducible refine gate_callee (f := 12) rfl ?_); refine goesL_ (some 31) rfl rfl Try.func12 (by kernel_rfl) rfl #[] rfl (by (try simp only [List.map_toArray, List.map_cons, List.map_nil]); first | done | rfl | (simp only [List.length_drop, List.length_take]; rfl)) ?_; (with_reducible refine (lodgerlaw02_awake.calls kj5  t143 _ A14.out).mono ?_); rintro e w15 ⟨rfl, hb⟩; refine ⟨_, rfl, ?_⟩; have n0_ := Aside0.mk (below_step (by repeat (first | (with_reducible first | exact HB.out | apply below_alloc | apply pw_below_drewN | apply below_drew1) | exact HB.out)) hb); clear HB; have HB := n0_; clear n0_; (try clear hb); (try clear hb2); (try clear hk); (try clear hi)))
          go_ret
          exact ⟨by first | rfl | (simp [errW_none, errW_some] <;> rfl) | (simp [*, errW_none, errW_some] <;> rfl), by repeat (first | (with_reducible first | exact HB.out | apply below_alloc | apply pw_below_drewN | apply below_drew1) | exact HB.out)⟩
      · replace c13 := Bool.eq_false_iff.mpr c13
        subst c13
        have H1 : (if (l0.length : Int) = 0 then (none) else ((cells_Add.f l0 (Int.tmod (wrap64 (a1)) (l0.length : Int)) a3).bind fun t144 => ((cells_Store.f t144 (Int.tmod (wrap64 (a2)) (l0.length : Int)) a4).bind fun t147 => ((cells_Store.f l0 (Int.tmod (wrap64 (a2)) (l0.length : Int)) a4).bind fun t150 => ((cells_Add.f t150 (Int.tmod (wrap64 (a1)) (l0.length : Int)) a3).bind fun t153 => (if (Int.tmod (wrap64 (a1)) (l0.length : Int)) = (Int.tmod (wrap64 (a2)) (l0.length : Int)) then ((cells_Load.f t147 (Int.tmod (wrap64 (a2)) (l0.length : Int))).bind fun t156 => (if t156 = a4 then ((cells_Load.f t153 (Int.tmod (wrap64 (a2)) (l0.length : Int))).bind fun t157 => (lodgerlaw02_CellsApart.j1 kj5 l0 a3 (Int.tmod (wrap64 (a2)) (l0.length : Int)) (t157 != (IntKind.u64.wrap (a4 + a3))))) else (lodgerlaw02_CellsApart.j1 kj5 l0 a3 (Int.tmod (wrap64 (a2)) (l0.length : Int)) true))) else ((lodgerref02_Same.f kj5 t147 t153).bind fun t158 => (if t158 = true then (lodgerlaw02_CellsApart.j1 kj5 l0 a3 (Int.tmod (wrap64 (a2)) (l0.length : Int)) false) else (lodgerlaw02_CellsApart.j1 kj5 l0 a3 (Int.tmod (wrap64 (a2)) (l0.length : Int)) true))))))))) = some r := by rw [if_neg (show ¬ (false = true) by decide)] at H; exact H
        clear H
        have H := H1
        clear H1
        by_cases c16 : (l0.length : Int) = 0
        · rw [if_pos c16] at H
          exact absurd H (by simp)
        · rw [if_neg c16] at H
          have c16b0 : ((l0.length : Int) == 0) = false := beq_eq_false_iff_ne.mpr c16
          have c16b1 : ((l0.length : Int) != 0) = true := bne_iff_ne.mpr c16
          have c16b2 : ¬ (l0 = []) := fun h_ => c16 (by rw [h_]; rfl)
          replace H := Option.bind_eq_some_iff.mp H
          obtain ⟨t144, A170, H⟩ := H
          replace H : ((cells_Store.f t144 (Int.tmod (wrap64 (a2)) (l0.length : Int)) a4).bind fun t147 => ((cells_Store.f l0 (Int.tmod (wrap64 (a2)) (l0.length : Int)) a4).bind fun t150 => ((cells_Add.f t150 (Int.tmod (wrap64 (a1)) (l0.length : Int)) a3).bind fun t153 => (if (Int.tmod (wrap64 (a1)) (l0.length : Int)) = (Int.tmod (wrap64 (a2)) (l0.length : Int)) then ((cells_Load.f t147 (Int.tmod (wrap64 (a2)) (l0.length : Int))).bind fun t156 => (if t156 = a4 then ((cells_Load.f t153 (Int.tmod (wrap64 (a2)) (l0.length : Int))).bind fun t157 => (lodgerlaw02_CellsApart.j1 kj5 l0 a3 (Int.tmod (wrap64 (a2)) (l0.length : Int)) (t157 != (IntKind.u64.wrap (a4 + a3))))) else (lodgerlaw02_CellsApart.j1 kj5 l0 a3 (Int.tmod (wrap64 (a2)) (l0.length : Int)) true))) else ((lodgerref02_Same.f kj5 t147 t153).bind fun t158 => (if t158 = true then (lodgerlaw02_CellsApart.j1 kj5 l0 a3 (Int.tmod (wrap64 (a2)) (l0.length : Int)) false) else (lodgerlaw02_CellsApart.j1 kj5 l0 a3 (Int.tmod (wrap64 (a2)) (l0.length : Int)) true))))))) = some r := H
          have A17 := Aside0.mk A170
          clear A170
          replace H := Option.bind_eq_some_iff.mp H
          obtain ⟨t147, A180, H⟩ := H
          replace H : ((cells_Store.f l0 (Int.tmod (wrap64 (a2)) (l0.length : Int)) a4).bind fun t150 => ((cells_Add.f t150 (Int.tmod (wrap64 (a1)) (l0.length : Int)) a3).bind fun t153 => (if (Int.tmod (wrap64 (a1)) (l0.length : Int)) = (Int.tmod (wrap64 (a2)) (l0.length : Int)) then ((cells_Load.f t147 (Int.tmod (wrap64 (a2)) (l0.length : Int))).bind fun t156 => (if t156 = a4 then ((cells_Load.f t153 (Int.tmod (wrap64 (a2)) (l0.length : Int))).bind fun t157 => (lodgerlaw02_CellsApart.j1 kj5 l0 a3 (Int.tmod (wrap64 (a2)) (l0.length : Int)) (t157 != (IntKind.u64.wrap (a4 + a3))))) else (lodgerlaw02_CellsApart.j1 kj5 l0 a3 (Int.tmod (wrap64 (a2)) (l0.length : Int)) true))) else ((lodgerref02_Same.f kj5 t147 t153).bind fun t158 => (if t158 = true then (lodgerlaw02_CellsApart.j1 kj5 l0 a3 (Int.tmod (wrap64 (a2)) (l0.length : Int)) false) else (lodgerlaw02_CellsApart.j1 kj5 l0 a3 (Int.tmod (wrap64 (a2)) (l0.length : Int)) true)))))) = some r := H
          have A18 := Aside0.mk A180
          clear A180
          replace H := Option.bind_eq_some_iff.mp H
          obtain ⟨t150, A190, H⟩ := H
          replace H : ((cells_Add.f t150 (Int.tmod (wrap64 (a1)) (l0.length : Int)) a3).bind fun t153 => (if (Int.tmod (wrap64 (a1)) (l0.length : Int)) = (Int.tmod (wrap64 (a2)) (l0.length : Int)) then ((cells_Load.f t147 (Int.tmod (wrap64 (a2)) (l0.length : Int))).bind fun t156 => (if t156 = a4 then ((cells_Load.f t153 (Int.tmod (wrap64 (a2)) (l0.length : Int))).bind fun t157 => (lodgerlaw02_CellsApart.j1 kj5 l0 a3 (Int.tmod (wrap64 (a2)) (l0.length : Int)) (t157 != (IntKind.u64.wrap (a4 + a3))))) else (lodgerlaw02_CellsApart.j1 kj5 l0 a3 (Int.tmod (wrap64 (a2)) (l0.length : Int)) true))) else ((lodgerref02_Same.f kj5 t147 t153).bind fun t158 => (if t158 = true then (lodgerlaw02_CellsApart.j1 kj5 l0 a3 (Int.tmod (wrap64 (a2)) (l0.length : Int)) false) else (lodgerlaw02_CellsApart.j1 kj5 l0 a3 (Int.tmod (wrap64 (a2)) (l0.length : Int)) true))))) = some r := H
          have A19 := Aside0.mk A190
          clear A190
          replace H := Option.bind_eq_some_iff.mp H
          obtain ⟨t153, A200, H⟩ := H
          replace H : (if (Int.tmod (wrap64 (a1)) (l0.length : Int)) = (Int.tmod (wrap64 (a2)) (l0.length : Int)) then ((cells_Load.f t147 (Int.tmod (wrap64 (a2)) (l0.length : Int))).bind fun t156 => (if t156 = a4 then ((cells_Load.f t153 (Int.tmod (wrap64 (a2)) (l0.length : Int))).bind fun t157 => (lodgerlaw02_CellsApart.j1 kj5 l0 a3 (Int.tmod (wrap64 (a2)) (l0.length : Int)) (t157 != (IntKind.u64.wrap (a4 + a3))))) else (lodgerlaw02_CellsApart.j1 kj5 l0 a3 (Int.tmod (wrap64 (a2)) (l0.length : Int)) true))) else ((lodgerref02_Same.f kj5 t147 t153).bind fun t158 => (if t158 = true then (lodgerlaw02_CellsApart.j1 kj5 l0 a3 (Int.tmod (wrap64 (a2)) (l0.length : Int)) false) else (lodgerlaw02_CellsApart.j1 kj5 l0 a3 (Int.tmod (wrap64 (a2)) (l0.length : Int)) true)))) = some r := H
          have A20 := Aside0.mk A200
          clear A200
          have HC21 := Aside0.mk H
          clear H
          go_upto_region 7 with (first | ((with_reducible refine gate_callee (f := 20) rfl ?_); refine goesL_ (some 45) rfl rfl Try.func20 (by kernel_rfl) rfl #[.slice A0 l0.length c0, .int .i64 (Int.tmod (wrap64 (a1)) (l0.length : Int)), .int .u64 a3] rfl (by (try simp only [List.map_toArray, List.map_cons, List.map_nil]); first | done | rfl | (simp only [List.length_drop, List.length_take]; rfl)) ?_; (with_reducible refine (cells_Add.calls (fun k_ => k_ < w.heap.size) _ _ l0 (Int.tmod (wrap64 (a1)) (l0.length : Int)) a3 t144 _ ?side1 A17.out).mono ?_); (case side1 => exact Kd.V_mk HC0.out (Kd.F_below (Kd.C_F (Kd.heap_int .u64) HR0.out) (by repeat (first | (with_reducible first | exact HB.out | apply below_alloc | apply pw_below_drewN | apply below_drew1) | exact HB.out)))); rintro e w22 ⟨v145, rfl, ho0, hb⟩; refine ⟨_, rfl, ?_⟩; have n0_ := Aside0.mk (Kd.V_lower (Kd.V_mono (ok' := fun k_ => True) ho0 (fun k_ hk_ => trivial)) (below_size (by repeat (first | (with_reducible first | exact HB.out | apply below_alloc | apply pw_below_drewN | apply below_drew1) | exact HB.out)))); have n1_ := Aside0.mk (below_step (by repeat (first | (with_reducible first | exact HB.out | apply below_alloc | apply pw_below_drewN | apply below_drew1) | exact HB.out)) hb); clear HB; have HO146 := n0_; have HB := n1_; clear n0_ n1_; (try clear hb); (try clear hb2); (try clear hk); (try clear hi); (try clear ho0); obtain ⟨Ao23, co23, eo23⟩ := Kd.V_slice HO146.out; subst eo23) | ((with_reducible refine gate_callee (f := 18) rfl ?_); refine goesL_ (some 48) rfl rfl Try.func18 (by kernel_rfl) rfl #[.slice Ao23 t144.length co23, .int .i64 (Int.tmod (wrap64 (a2)) (l0.length : Int)), .int .u64 a4] rfl (by (try simp only [List.map_toArray, List.map_cons, List.map_nil]); first | done | rfl | (simp only [List.length_drop, List.length_take]; rfl)) ?_; (with_reducible refine (cells_Store.calls (fun k_ => True) _ _ t144 (Int.tmod (wrap64 (a2)) (l0.length : Int)) a4 t147 _ ?side1 A18.out).mono ?_); (case side1 => exact HO146.out); rintro e w24 ⟨v148, rfl, ho0, hb⟩; refine ⟨_, rfl, ?_⟩; have n0_ := Aside0.mk (Kd.V_below (by (with_reducible repeat (first | apply Kd.V_alloc | apply Kd.V_drewN | apply Kd.V_drew)); exact HO146.out) hb); have n1_ := Aside0.mk (Kd.V_lower (Kd.V_mono (ok' := fun k_ => True) ho0 (fun k_ hk_ => trivial)) (below_size (by repeat (first | (with_reducible first | exact HB.out | apply below_alloc | apply pw_below_drewN | apply below_drew1) | exact HB.out)))); have n2_ := Aside0.mk (below_step (by repeat (first | (with_reducible first | exact HB.out | apply below_alloc | apply pw_below_drewN | apply below_drew1) | exact HB.out)) hb); clear HO146; clear HB; have HO146 := n0_; have HO149 := n1_; have HB := n2_; clear n0_ n1_ n2_; (try clear hb); (try clear hb2); (try clear hk); (try clear hi); (try clear ho0)) | ((with_reducible refine gate_callee (f := 18) rfl ?_); refine goesL_ (some 52) rfl rfl Try.func18 (by kernel_rfl) rfl #[.slice A0 l0.length c0, .int .i64 (Int.tmod (wrap64 (a2)) (l0.length : Int)), .int .u64 a4] rfl (by (try simp only [List.map_toArray, List.map_cons, List.map_nil]); first | done | rfl | (simp only [List.length_drop, List.length_take]; rfl)) ?_; (with_reducible refine (cells_Store.calls (fun k_ => k_ < w.heap.size) _ _ l0 (Int.tmod (wrap64 (a2)) (l0.length : Int)) a4 t150 _ ?side1 A19.out).mono ?_); (case side1 => exact Kd.V_mk HC0.out (Kd.F_below (Kd.C_F (Kd.heap_int .u64) HR0.out) (by repeat (first | (with_reducible first | exact HB.out | apply below_alloc | apply pw_below_drewN | apply below_drew1) | exact HB.out)))); rintro e w25 ⟨v151, rfl, ho0, hb⟩; refine ⟨_, rfl, ?_⟩; have n0_ := Aside0.mk (Kd.V_below (by (with_reducible repeat (first | apply Kd.V_alloc | apply Kd.V_drewN | apply Kd.V_drew)); exact HO146.out) hb); have n1_ := Aside0.mk (Kd.V_below (by (with_reducible repeat (first | apply Kd.V_alloc | apply Kd.V_drewN | apply Kd.V_drew)); exact HO149.out) hb); have n2_ := Aside0.mk (Kd.V_lower (Kd.V_mono (ok' := fun k_ => True) ho0 (fun k_ hk_ => trivial)) (below_size (by repeat (first | (with_reducible first | exact HB.out | apply below_alloc | apply pw_below_drewN | apply below_drew1) | exact HB.out)))); have n3_ := Aside0.mk (below_step (by repeat (first | (with_reducible first | exact HB.out | apply below_alloc | apply pw_below_drewN | apply below_drew1) | exact HB.out)) hb); clear HO146; clear HO149; clear HB; have HO146 := n0_; have HO149 := n1_; have HO152 := n2_; have HB := n3_; clear n0_ n1_ n2_ n3_; (try clear hb); (try clear hb2); (try clear hk); (try clear hi); (try clear ho0); obtain ⟨Ao26, co26, eo26⟩ := Kd.V_slice HO152.out; subst eo26) | ((with_reducible refine gate_callee (f := 20) rfl ?_); refine goesL_ (some 55) rfl rfl Try.func20 (by kernel_rfl) rfl #[.slice Ao26 t150.length co26, .int .i64 (Int.tmod (wrap64 (a1)) (l0.length : Int)), .int .u64 a3] rfl (by (try simp only [List.map_toArray, List.map_cons, List.map_nil]); first | done | rfl | (simp only [List.length_drop, List.length_take]; rfl)) ?_; (with_reducible refine (cells_Add.calls (fun k_ => True) _ _ t150 (Int.tmod (wrap64 (a1)) (l0.length : Int)) a3 t153 _ ?side1 A20.out).mono ?_); (case side1 => exact HO152.out); rintro e w27 ⟨v154, rfl, ho0, hb⟩; refine ⟨_, rfl, ?_⟩; have n0_ := Aside0.mk (Kd.V_below (by (with_reducible repeat (first | apply Kd.V_alloc | apply Kd.V_drewN | apply Kd.V_drew)); exact HO146.out) hb); have n1_ := Aside0.mk (Kd.V_below (by (with_reducible repeat (first | apply Kd.V_alloc | apply Kd.V_drewN | apply Kd.V_drew)); exact HO149.out) hb); have n2_ := Aside0.mk (Kd.V_below (by (with_reducible repeat (first | apply Kd.V_alloc | apply Kd.V_drewN | apply Kd.V_drew)); exact HO152.out) hb); have n3_ := Aside0.mk (Kd.V_lower (Kd.V_mono (ok' := fun k_ => True) ho0 (fun k_ hk_ => trivial)) (below_size (by repeat (first | (with_reducible first | exact HB.out | apply below_alloc | apply pw_below_drewN | apply below_drew1) | exact HB.out)))); have n4_ := Aside0.mk (below_step (by repeat (first | (with_reducible first | exact HB.out | apply below_alloc | apply pw_below_drewN | apply below_drew1) | exact HB.out)) hb); clear HO146; clear HO149; clear HO152; clear HB; have HO146 := n0_; have HO149 := n1_; have HO152 := n2_; have HO155 := n3_; have HB := n4_; clear n0_ n1_ n2_ n3_ n4_; (try clear hb); (try clear hb2); (try clear hk); (try clear hi); (try clear ho0)))
          (try simp only [Act.put, List.setIfInBounds_toArray, List.set_cons_zero, List.set_cons_succ])
          go_cut [85] (fun v85 wc => ∃ (kq : Nat) (x85_20 : Bool), v85 = .bool x85_20 ∧ Aside0 (lodgerlaw02_CellsApart.j1 kq l0 a3 (Int.tmod (wrap64 (a2)) (l0.length : Int)) x85_20 = some r) ∧ Aside0 (kq ≤ kj5) ∧ Aside0 (Below w.heap.size w wc))
          case first =>
            have H := HC21.out
            clear HC21
            by_cases c28 : (Int.tmod (wrap64 (a1)) (l0.length : Int)) = (Int.tmod (wrap64 (a2)) (l0.length : Int))
            · rw [if_pos c28] at H
              have c28b0 : ((Int.tmod (wrap64 (a1)) (l0.length : Int)) == (Int.tmod (wrap64 (a2)) (l0.length : Int))) = true := beq_iff_eq.mpr c28
              have c28b1 : ((Int.tmod (wrap64 (a1)) (l0.length : Int)) != (Int.tmod (wrap64 (a2)) (l0.length : Int))) = false := bne_eq_false_iff_eq.mpr c28
              clear c28
              (first | rw [c28b0] | (simp only [i64_w, i32_w]; rw [c28b0]) | skip)
              replace H := Option.bind_eq_some_iff.mp H
              obtain ⟨t156, A290, H⟩ := H
              replace H : (if t156 = a4 then ((cells_Load.f t153 (Int.tmod (wrap64 (a2)) (l0.length : Int))).bind fun t157 => (lodgerlaw02_CellsApart.j1 kj5 l0 a3 (Int.tmod (wrap64 (a2)) (l0.length : Int)) (t157 != (IntKind.u64.wrap (a4 + a3))))) else (lodgerlaw02_CellsApart.j1 kj5 l0 a3 (Int.tmod (wrap64 (a2)) (l0.length : Int)) true)) = some r := H
              have A29 := Aside0.mk A290
              clear A290
              by_cases c30 : t156 = a4
              · rw [if_pos c30] at H
                have c30b0 : (t156 == a4) = true := beq_iff_eq.mpr c30
                have c30b1 : (t156 != a4) = false := bne_eq_false_iff_eq.mpr c30
                clear c30
                replace H := Option.bind_eq_some_iff.mp H
                obtain ⟨t157, A310, H⟩ := H
                replace H : (lodgerlaw02_CellsApart.j1 kj5 l0 a3 (Int.tmod (wrap64 (a2)) (l0.length : Int)) (t157 != (IntKind.u64.wrap (a4 + a3)))) = some r := H
                have A31 := Aside0.mk A310
                clear A310
                have H' := Aside0.mk H
                clear H
                obtain ⟨Ao32, co32, eo32⟩ := Kd.V_slice HO149.out
                subst eo32
                go_wp2_with (first | (go_at_call 15; (with_reducible refine (cells_Load.calls _ _ t147 (Int.tmod (wrap64 (a2)) (l0.length : Int)) t156 _ ?side1 ?side2 A29.out).mono ?_); (case side1 => repeat (first | exact (Kd.V_reads' HO149.out).2.2 | (with_reducible refine Kd.C_alloc ?_ _) | (with_reducible refine Kd.C_drewN ?_ _) | (with_reducible refine Kd.C_drew ?_))); (case side2 => exact (Kd.V_reads' HO149.out).2.1); rintro e w' ⟨rfl, ⟨nd, rfl⟩⟩; obtain ⟨Ao33, co33, eo33⟩ := Kd.V_slice HO155.out; subst eo33) | (go_at_call 15; (with_reducible refine (cells_Load.calls _ _ t153 (Int.tmod (wrap64 (a2)) (l0.length : Int)) t157 _ ?side1 ?side2 A31.out).mono ?_); (case side1 => repeat (first | exact (Kd.V_reads' HO155.out).2.2 | (with_reducible refine Kd.C_alloc ?_ _) | (with_reducible refine Kd.C_drewN ?_ _) | (with_reducible refine Kd.C_drew ?_))); (case side2 => exact (Kd.V_reads' HO155.out).2.1); rintro e w' ⟨rfl, ⟨nd, rfl⟩⟩))
                go_meet
                case rel => exact ⟨_, ((t157 != (IntKind.u64.wrap (a4 + a3)))), (by first | rfl | (simp; done) | (simp [*]; done)), H', ⟨by have := HJ5.out; first | omega | exact Nat.le_refl _⟩, ⟨by repeat (first | (with_reducible first | exact HB.out | apply below_alloc | apply pw_below_drewN | apply below_drew1) | exact HB.out)⟩⟩
              · rw [if_neg c30] at H
                have c30b0 : (t156 == a4) = false := beq_eq_false_iff_ne.mpr c30
                have c30b1 : (t156 != a4) = true := bne_iff_ne.mpr c30
                have H' := Aside0.mk H
                clear H
                obtain ⟨Ao34, co34, eo34⟩ := Kd.V_slice HO149.out
                subst eo34
                go_wp2_with (first | (go_at_call 15; (with_reducible refine (cells_Load.calls _ _ t147 (Int.tmod (wrap64 (a2)) (l0.length : Int)) t156 _ ?side1 ?side2 A29.out).mono ?_); (case side1 => repeat (first | exact (Kd.V_reads' HO149.out).2.2 | (with_reducible refine Kd.C_alloc ?_ _) | (with_reducible refine Kd.C_drewN ?_ _) | (with_reducible refine Kd.C_drew ?_))); (case side2 => exact (Kd.V_reads' HO149.out).2.1); rintro e w' ⟨rfl, ⟨nd, rfl⟩⟩))
                go_meet
                case rel => exact ⟨_, (true), (by first | rfl | (simp; done) | (simp [*]; done)), H', ⟨by have := HJ5.out; first | omega | exact Nat.le_refl _⟩, ⟨by repeat (first | (with_reducible first | exact HB.out | apply below_alloc | apply pw_below_drewN | apply below_drew1) | exact HB.out)⟩⟩
            · rw [if_neg c28] at H
              have c28b0 : ((Int.tmod (wrap64 (a1)) (l0.length : Int)) == (Int.tmod (wrap64 (a2)) (l0.length : Int))) = false := beq_eq_false_iff_ne.mpr c28
              have c28b1 : ((Int.tmod (wrap64 (a1)) (l0.length : Int)) != (Int.tmod (wrap64 (a2)) (l0.length : Int))) = true := bne_iff_ne.mpr c28
              (first | rw [c28b0] | (simp only [i64_w, i32_w]; rw [c28b0]) | skip)
              replace H := Option.bind_eq_some_iff.mp H
              obtain ⟨t158, A350, H⟩ := H
              replace H : (if t158 = true then (lodgerlaw02_CellsApart.j1 kj5 l0 a3 (Int.tmod (wrap64 (a2)) (l0.length : Int)) false) else (lodgerlaw02_CellsApart.j1 kj5 l0 a3 (Int.tmod (wrap64 (a2)) (l0.length : Int)) true)) = some r := H
              have A35 := Aside0.mk A350
              clear A350
              by_cases c36 : t158 = true
              · subst c36
                have H1 : (lodgerlaw02_CellsApart.j1 kj5 l0 a3 (Int.tmod (wrap64 (a2)) (l0.length : Int)) false) = some r := by rw [if_pos rfl] at H; exact H
                clear H
                have H := H1
                clear H1
                have H' := Aside0.mk H
                clear H
                obtain ⟨Ao37, co37, eo37⟩ := Kd.V_slice HO149.out
                subst eo37
                obtain ⟨Ao38, co38, eo38⟩ := Kd.V_slice HO155.out
                subst eo38
                go_wp2_with (first | (go_at_call 17; (with_reducible refine (lodgerref02_Same.calls kj5 _ _ t147 _ _ t153 true _ ?side1 ?side2 ?side3 ?side4 A35.out).mono ?_); (case side1 => repeat (first | exact (Kd.V_reads' HO149.out).2.2 | (with_reducible refine Kd.C_alloc ?_ _) | (with_reducible refine Kd.C_drewN ?_ _) | (with_reducible refine Kd.C_drew ?_))); (case side2 => exact (Kd.V_reads' HO149.out).2.1); (case side3 => repeat (first | exact (Kd.V_reads' HO155.out).2.2 | (with_reducible refine Kd.C_alloc ?_ _) | (with_reducible refine Kd.C_drewN ?_ _) | (with_reducible refine Kd.C_drew ?_))); (case side4 => exact (Kd.V_reads' HO155.out).2.1); rintro e w' ⟨rfl, ⟨nd, rfl⟩⟩))
                go_meet
                case rel => exact ⟨_, (false), (by first | rfl | (simp; done) | (simp [*]; done)), H', ⟨by have := HJ5.out; first | omega | exact Nat.le_refl _⟩, ⟨by repeat (first | (with_reducible first | exact HB.out | apply below_alloc | apply pw_below_drewN | apply below_drew1) | exact HB.out)⟩⟩
              · replace c36 := Bool.eq_false_iff.mpr c36
                subst c36
                have H1 : (lodgerlaw02_CellsApart.j1 kj5 l0 a3 (Int.tmod (wrap64 (a2)) (l0.length : Int)) true) = some r := by rw [if_neg (show ¬ (false = true) by decide)] at H; exact H
                clear H
                have H := H1
                clear H1
                have H' := Aside0.mk H
                clear H
                obtain ⟨Ao39, co39, eo39⟩ := Kd.V_slice HO149.out
                subst eo39
                obtain ⟨Ao40, co40, eo40⟩ := Kd.V_slice HO155.out
                subst eo40
                go_wp2_with (first | (go_at_call 17; (with_reducible refine (lodgerref02_Same.calls kj5 _ _ t147 _ _ t153 false _ ?side1 ?side2 ?side3 ?side4 A35.out).mono ?_); (case side1 => repeat (first | exact (Kd.V_reads' HO149.out).2.2 | (with_reducible refine Kd.C_alloc ?_ _) | (with_reducible refine Kd.C_drewN ?_ _) | (with_reducible refine Kd.C_drew ?_))); (case side2 => exact (Kd.V_reads' HO149.out).2.1); (case side3 => repeat (first | exact (Kd.V_reads' HO155.out).2.2 | (with_reducible refine Kd.C_alloc ?_ _) | (with_reducible refine Kd.C_drewN ?_ _) | (with_reducible refine Kd.C_drew ?_))); (case side4 => exact (Kd.V_reads' HO155.out).2.1); rintro e w' ⟨rfl, ⟨nd, rfl⟩⟩))
                go_meet
                case rel => exact ⟨_, (true), (by first | rfl | (simp; done) | (simp [*]; done)), H', ⟨by have := HJ5.out; first | omega | exact Nat.le_refl _⟩, ⟨by repeat (first | (with_reducible first | exact HB.out | apply below_alloc | apply pw_below_drewN | apply below_drew1) | exact HB.out)⟩⟩
          case rest =>
            clear HC21
            try clear c1
            try clear c2
            try clear p2
            try clear c3
            try clear p6
            try clear c8
            try clear c9
            try clear c9b0
            try clear c9b1
            try clear c12
            try clear c13
            try clear c16
            try clear c16b0
            try clear c16b1
            try clear c16b2
            try clear c18
            try clear c20
            try clear c28
            try clear c28b0
            try clear c28b1
            try clear c30
            try clear c30b0
            try clear c30b1
            try clear c36
            try clear p2
            obtain ⟨kq, x85_20, rfl, HA, HJ20, HB⟩ := hcut
            cases kq with
            | zero => exact absurd HA.out (by simp [lodgerlaw02_CellsApart.j1])
            | succ kj20 =>
              have H := HA.out
              clear HA
              simp only [lodgerlaw02_CellsApart.j1] at H
              by_cases c41 : x85_20 = true
              · subst c41
                have H1 : (some false) = some r := by rw [if_pos rfl] at H; exact H
                rw [hr_.out] at H1
                exact absurd (Option.some.inj H1) (by decide)
              · replace c41 := Bool.eq_false_iff.mpr c41
                subst c41
                have H1 : ((cells_Swap.f l0 (l0.length : Int) 0 a3).bind fun bt159 => ((cells_Swap.f l0 (wrap64 ((-1) - (Int.tmod (wrap64 (a2)) (l0.length : Int)))) 0 a3).bind fun bt163 => (if bt159.2 = true then (some false) else (if bt163.2 = true then (some false) else ((lodgerref02_Same.f kj20 bt159.1 l0).bind fun t167 => (if t167 = true then ((lodgerref02_Same.f kj20 bt163.1 l0).bind fun t168 => (if t168 = true then ((cells_Add.f l0 (wrap64 ((l0.length : Int) + (Int.tmod (wrap64 (a2)) (l0.length : Int)))) a3).bind fun t169 => ((lodgerref02_Same.f kj20 t169 l0).bind fun t172 => (if t172 = true then ((cells_Load.f l0 (l0.length : Int)).bind fun t173 => (if t173 = 0 then ((cells_Load.f l0 (-1)).bind fun t174 => (some (t174 == 0))) else (some false))) else (some false)))) else (some false))) else (some false))))))) = some r := by rw [if_neg (show ¬ (false = true) by decide)] at H; exact H
                clear H
                have H := H1
                clear H1
                replace H := Option.bind_eq_some_iff.mp H
                obtain ⟨⟨t159, t162⟩, A420, H⟩ := H
                replace H : ((cells_Swap.f l0 (wrap64 ((-1) - (Int.tmod (wrap64 (a2)) (l0.length : Int)))) 0 a3).bind fun bt163 => (if t162 = true then (some false) else (if bt163.2 = true then (some false) else ((lodgerref02_Same.f kj20 t159 l0).bind fun t167 => (if t167 = true then ((lodgerref02_Same.f kj20 bt163.1 l0).bind fun t168 => (if t168 = true then ((cells_Add.f l0 (wrap64 ((l0.length : Int) + (Int.tmod (wrap64 (a2)) (l0.length : Int)))) a3).bind fun t169 => ((lodgerref02_Same.f kj20 t169 l0).bind fun t172 => (if t172 = true then ((cells_Load.f l0 (l0.length : Int)).bind fun t173 => (if t173 = 0 then ((cells_Load.f l0 (-1)).bind fun t174 => (some (t174 == 0))) else (some false))) else (some false)))) else (some false))) else (some false)))))) = some r := H
                have A42 := Aside0.mk A420
                clear A420
                replace H := Option.bind_eq_some_iff.mp H
                obtain ⟨⟨t163, t166⟩, A430, H⟩ := H
                replace H : (if t162 = true then (some false) else (if t166 = true then (some false) else ((lodgerref02_Same.f kj20 t159 l0).bind fun t167 => (if t167 = true then ((lodgerref02_Same.f kj20 t163 l0).bind fun t168 => (if t168 = true then ((cells_Add.f l0 (wrap64 ((l0.length : Int) + (Int.tmod (wrap64 (a2)) (l0.length : Int)))) a3).bind fun t169 => ((lodgerref02_Same.f kj20 t169 l0).bind fun t172 => (if t172 = true then ((cells_Load.f l0 (l0.length : Int)).bind fun t173 => (if t173 = 0 then ((cells_Load.f l0 (-1)).bind fun t174 => (some (t174 == 0))) else (some false))) else (some false)))) else (some false))) else (some false))))) = some r := H
                have A43 := Aside0.mk A430
                clear A430
                by_cases c44 : t162 = true
                · subst c44
                  have H1 : (some false) = some r := by rw [if_pos rfl] at H; exact H
                  rw [hr_.out] at H1
                  exact absurd (Option.some.inj H1) (by decide)
                · replace c44 := Bool.eq_false_iff.mpr c44
                  subst c44
                  have H1 : (if t166 = true then (some false) else ((lodgerref02_Same.f kj20 t159 l0).bind fun t167 => (if t167 = true then ((lodgerref02_Same.f kj20 t163 l0).bind fun t168 => (if t168 = true then ((cells_Add.f l0 (wrap64 ((l0.length : Int) + (Int.tmod (wrap64 (a2)) (l0.length : Int)))) a3).bind fun t169 => ((lodgerref02_Same.f kj20 t169 l0).bind fun t172 => (if t172 = true then ((cells_Load.f l0 (l0.length : Int)).bind fun t173 => (if t173 = 0 then ((cells_Load.f l0 (-1)).bind fun t174 => (some (t174 == 0))) else (some false))) else (some false)))) else (some false))) else (some false)))) = some r := by rw [if_neg (show ¬ (false = true) by decide)] at H; exact H
                  clear H
                  have H := H1
                  clear H1
                  by_cases c47 : t166 = true
                  · subst c47
                    have H1 : (some false) = some r := by rw [if_pos rfl] at H; exact H
                    rw [hr_.out] at H1
                    exact absurd (Option.some.inj H1) (by decide)
                  · replace c47 := Bool.eq_false_iff.mpr c47
                    subst c47
                    have H1 : ((lodgerref02_Same.f kj20 t159 l0).bind fun t167 => (if t167 = true then ((lodgerref02_Same.f kj20 t163 l0).bind fun t168 => (if t168 = true then ((cells_Add.f l0 (wrap64 ((l0.length : Int) + (Int.tmod (wrap64 (a2)) (l0.length : Int)))) a3).bind fun t169 => ((lodgerref02_Same.f kj20 t169 l0).bind fun t172 => (if t172 = true then ((cells_Load.f l0 (l0.length : Int)).bind fun t173 => (if t173 = 0 then ((cells_Load.f l0 (-1)).bind fun t174 => (some (t174 == 0))) else (some false))) else (some false)))) else (some false))) else (some false))) = some r := by rw [if_neg (show ¬ (false = true) by decide)] at H; exact H
                    clear H
                    have H := H1
                    clear H1
                    replace H := Option.bind_eq_some_iff.mp H
                    obtain ⟨t167, A500, H⟩ := H
                    replace H : (if t167 = true then ((lodgerref02_Same.f kj20 t163 l0).bind fun t168 => (if t168 = true then ((cells_Add.f l0 (wrap64 ((l0.length : Int) + (Int.tmod (wrap64 (a2)) (l0.length : Int)))) a3).bind fun t169 => ((lodgerref02_Same.f kj20 t169 l0).bind fun t172 => (if t172 = true then ((cells_Load.f l0 (l0.length : Int)).bind fun t173 => (if t173 = 0 then ((cells_Load.f l0 (-1)).bind fun t174 => (some (t174 == 0))) else (some false))) else (some false)))) else (some false))) else (some false)) = some r := H
                    have A50 := Aside0.mk A500
                    clear A500
                    by_cases c51 : t167 = true
                    · subst c51
                      have H1 : ((lodgerref02_Same.f kj20 t163 l0).bind fun t168 => (if t168 = true then ((cells_Add.f l0 (wrap64 ((l0.length : Int) + (Int.tmod (wrap64 (a2)) (l0.length : Int)))) a3).bind fun t169 => ((lodgerref02_Same.f kj20 t169 l0).bind fun t172 => (if t172 = true then ((cells_Load.f l0 (l0.length : Int)).bind fun t173 => (if t173 = 0 then ((cells_Load.f l0 (-1)).bind fun t174 => (some (t174 == 0))) else (some false))) else (some false)))) else (some false))) = some r := by rw [if_pos rfl] at H; exact H
                      clear H
                      have H := H1
                      clear H1
                      replace H := Option.bind_eq_some_iff.mp H
                      obtain ⟨t168, A520, H⟩ := H
                      replace H : (if t168 = true then ((cells_Add.f l0 (wrap64 ((l0.length : Int) + (Int.tmod (wrap64 (a2)) (l0.length : Int)))) a3).bind fun t169 => ((lodgerref02_Same.f kj20 t169 l0).bind fun t172 => (if t172 = true then ((cells_Load.f l0 (l0.length : Int)).bind fun t173 => (if t173 = 0 then ((cells_Load.f l0 (-1)).bind fun t174 => (some (t174 == 0))) else (some false))) else (some false)))) else (some false)) = some r := H
                      have A52 := Aside0.mk A520
                      clear A520
                      by_cases c53 : t168 = true
                      · subst c53
                        have H1 : ((cells_Add.f l0 (wrap64 ((l0.length : Int) + (Int.tmod (wrap64 (a2)) (l0.length : Int)))) a3).bind fun t169 => ((lodgerref02_Same.f kj20 t169 l0).bind fun t172 => (if t172 = true then ((cells_Load.f l0 (l0.length : Int)).bind fun t173 => (if t173 = 0 then ((cells_Load.f l0 (-1)).bind fun t174 => (some (t174 == 0))) else (some false))) else (some false)))) = some r := by rw [if_pos rfl] at H; exact H
                        clear H
                        have H := H1
                        clear H1
                        replace H := Option.bind_eq_some_iff.mp H
                        obtain ⟨t169, A540, H⟩ := H
                        replace H : ((lodgerref02_Same.f kj20 t169 l0).bind fun t172 => (if t172 = true then ((cells_Load.f l0 (l0.length : Int)).bind fun t173 => (if t173 = 0 then ((cells_Load.f l0 (-1)).bind fun t174 => (some (t174 == 0))) else (some false))) else (some false))) = some r := H
                        have A54 := Aside0.mk A540
                        clear A540
                        replace H := Option.bind_eq_some_iff.mp H
                        obtain ⟨t172, A550, H⟩ := H
                        replace H : (if t172 = true then ((cells_Load.f l0 (l0.length : Int)).bind fun t173 => (if t173 = 0 then ((cells_Load.f l0 (-1)).bind fun t174 => (some (t174 == 0))) else (some false))) else (some false)) = some r := H
                        have A55 := Aside0.mk A550
                        clear A550
                        by_cases c56 : t172 = true
                        · subst c56
                          have H1 : ((cells_Load.f l0 (l0.length : Int)).bind fun t173 => (if t173 = 0 then ((cells_Load.f l0 (-1)).bind fun t174 => (some (t174 == 0))) else (some false))) = some r := by rw [if_pos rfl] at H; exact H
                          clear H
                          have H := H1
                          clear H1
                          replace H := Option.bind_eq_some_iff.mp H
                          obtain ⟨t173, A570, H⟩ := H
                          replace H : (if t173 = 0 then ((cells_Load.f l0 (-1)).bind fun t174 => (some (t174 == 0))) else (some false)) = some r := H
                          have A57 := Aside0.mk A570
                          clear A570
                          by_cases c58 : t173 = 0
                          · rw [if_pos c58] at H
                            have c58b0 : (t173 == 0) = true := beq_iff_eq.mpr c58
                            have c58b1 : (t173 != 0) = false := bne_eq_false_iff_eq.mpr c58
                            clear c58
                            replace H := Option.bind_eq_some_iff.mp H
                            obtain ⟨t174, A590, H⟩ := H
                            replace H : (some (t174 == 0)) = some r := H
                            have A59 := Aside0.mk A590
                            clear A590
                            first | (exfalso; rw [hr_.out] at H; exact absurd (Option.some.inj H) (by decide)) | (try clear hr_)
                            all_goals
                              obtain rfl := Option.some.inj H
                              go_wp2_with (first | ((with_reducible refine gate_callee (f := 13) rfl ?_); refine goesL_ (some 91) rfl rfl Try.func13 (by kernel_rfl) rfl #[.slice A0 l0.length c0, .int .i64 (l0.length : Int), .int .u64 0, .int .u64 a3] rfl (by (try simp only [List.map_toArray, List.map_cons, List.map_nil]); first | done | rfl | (simp only [List.length_drop, List.length_take]; rfl)) ?_; (with_reducible refine (cells_Swap.calls (fun k_ => k_ < w.heap.size) _ _ l0 (l0.length : Int) 0 a3 t159 false _ ?side1 A42.out).mono ?_); (case side1 => exact Kd.V_mk HC0.out (Kd.F_below (Kd.C_F (Kd.heap_int .u64) HR0.out) (by repeat (first | (with_reducible first | exact HB.out | apply below_alloc | apply pw_below_drewN | apply below_drew1) | exact HB.out)))); rintro e w60 ⟨v160, rfl, ho0, hb⟩; refine ⟨_, rfl, ?_⟩; have n0_ := Aside0.mk (Kd.V_lower (Kd.V_mono (ok' := fun k_ => True) ho0 (fun k_ hk_ => trivial)) (below_size (by repeat (first | (with_reducible first | exact HB.out | apply below_alloc | apply pw_below_drewN | apply below_drew1) | exact HB.out)))); have n1_ := Aside0.mk (below_step (by repeat (first | (with_reducible first | exact HB.out | apply below_alloc | apply pw_below_drewN | apply below_drew1) | exact HB.out)) hb); clear HB; have HO161 := n0_; have HB := n1_; clear n0_ n1_; (try clear hb); (try clear hb2); (try clear hk); (try clear hi); (try clear ho0)) | ((with_reducible refine gate_callee (f := 13) rfl ?_); refine goesL_ (some 99) rfl rfl Try.func13 (by kernel_rfl) rfl #[.slice A0 l0.length c0, .int .i64 (wrap64 ((-1) - (Int.tmod (wrap64 (a2)) (l0.length : Int)))), .int .u64 0, .int .u64 a3] rfl (by (try simp only [List.map_toArray, List.map_cons, List.map_nil]); first | done | rfl | (simp only [List.length_drop, List.length_take]; rfl)) ?_; (with_reducible refine (cells_Swap.calls (fun k_ => k_ < w.heap.size) _ _ l0 (wrap64 ((-1) - (Int.tmod (wrap64 (a2)) (l0.length : Int)))) 0 a3 t163 false _ ?side1 A43.out).mono ?_); (case side1 => exact Kd.V_mk HC0.out (Kd.F_below (Kd.C_F (Kd.heap_int .u64) HR0.out) (by repeat (first | (with_reducible first | exact HB.out | apply below_alloc | apply pw_below_drewN | apply below_drew1) | exact HB.out)))); rintro e w61 ⟨v164, rfl, ho0, hb⟩; refine ⟨_, rfl, ?_⟩; have n0_ := Aside0.mk (Kd.V_below (by (with_reducible repeat (first | apply Kd.V_alloc | apply Kd.V_drewN | apply Kd.V_drew)); exact HO161.out) hb); have n1_ := Aside0.mk (Kd.V_lower (Kd.V_mono (ok' := fun k_ => True) ho0 (fun k_ hk_ => trivial)) (below_size (by repeat (first | (with_reducible first | exact HB.out | apply below_alloc | apply pw_below_drewN | apply below_drew1) | exact HB.out)))); have n2_ := Aside0.mk (below_step (by repeat (first | (with_reducible first | exact HB.out | apply below_alloc | apply pw_below_drewN | apply below_drew1) | exact HB.out)) hb); clear HO161; clear HB; have HO161 := n0_; have HO165 := n1_; have HB := n2_; clear n0_ n1_ n2_; (try clear hb); (try clear hb2); (try clear hk); (try clear hi); (try clear ho0); obtain ⟨Ao62, co62, eo62⟩ := Kd.V_slice HO161.out; subst eo62) | (go_at_call 17; (with_reducible refine (lodgerref02_Same.calls kj20 _ _ t159 _ _ l0 true _ ?side1 ?side2 ?side3 ?side4 A50.out).mono ?_); (case side1 => repeat (first | exact (Kd.V_reads' HO161.out).2.2 | (with_reducible refine Kd.C_alloc ?_ _) | (with_reducible refine Kd.C_drewN ?_ _) | (with_reducible refine Kd.C_drew ?_))); (case side2 => exact (Kd.V_reads' HO161.out).2.1); (case side3 => repeat (first | exact (Kd.C_below HR0.out HB.out) | (with_reducible refine Kd.C_alloc ?_ _) | (with_reducible refine Kd.C_drewN ?_ _) | (with_reducible refine Kd.C_drew ?_))); (case side4 => exact HC0.out); rintro e w' ⟨rfl, ⟨nd, rfl⟩⟩; obtain ⟨Ao63, co63, eo63⟩ := Kd.V_slice HO165.out; subst eo63) | (go_at_call 17; (with_reducible refine (lodgerref02_Same.calls kj20 _ _ t163 _ _ l0 true _ ?side1 ?side2 ?side3 ?side4 A52.out).mono ?_); (case side1 => repeat (first | exact (Kd.V_reads' HO165.out).2.2 | (with_reducible refine Kd.C_alloc ?_ _) | (with_reducible refine Kd.C_drewN ?_ _) | (with_reducible refine Kd.C_drew ?_))); (case side2 => exact (Kd.V_reads' HO165.out).2.1); (case side3 => repeat (first | exact (Kd.C_below HR0.out (by repeat (first | (with_reducible first | exact HB.out | apply below_alloc | apply pw_below_drewN | apply below_drew1) | exact HB.out))) | (with_reducible refine Kd.C_alloc ?_ _) | (with_reducible refine Kd.C_drewN ?_ _) | (with_reducible refine Kd.C_drew ?_))); (case side4 => exact HC0.out); rintro e w' ⟨rfl, ⟨nd, rfl⟩⟩) | (go_at_call 20; (with_reducible refine (cells_Add.calls (fun k_ => k_ < w.heap.size) _ _ l0 (wrap64 ((l0.length : Int) + (Int.tmod (wrap64 (a2)) (l0.length : Int)))) a3 t169 _ ?side1 A54.out).mono ?_); (case side1 => exact Kd.V_mk HC0.out (Kd.F_below (Kd.C_F (Kd.heap_int .u64) HR0.out) (by repeat (first | (with_reducible first | exact HB.out | apply below_alloc | apply pw_below_drewN | apply below_drew1) | exact HB.out)))); rintro e w64 ⟨v170, rfl, ho0, hb⟩; have n0_ := Aside0.mk (Kd.V_below (by (with_reducible repeat (first | apply Kd.V_alloc | apply Kd.V_drewN | apply Kd.V_drew)); exact HO161.out) hb); have n1_ := Aside0.mk (Kd.V_below (by (with_reducible repeat (first | apply Kd.V_alloc | apply Kd.V_drewN | apply Kd.V_drew)); exact HO165.out) hb); have n2_ := Aside0.mk (Kd.V_lower (Kd.V_mono (ok' := fun k_ => True) ho0 (fun k_ hk_ => trivial)) (below_size (by repeat (first | (with_reducible first | exact HB.out | apply below_alloc | apply pw_below_drewN | apply below_drew1) | exact HB.out)))); have n3_ := Aside0.mk (below_step (by repeat (first | (with_reducible first | exact HB.out | apply below_alloc | apply pw_below_drewN | apply below_drew1) | exact HB.out)) hb); clear HO161; clear HO165; clear HB; have HO161 := n0_; have HO165 := n1_; have HO171 := n2_; have HB := n3_; clear n0_ n1_ n2_ n3_; (try clear hb); (try clear hb2); (try clear hk); (try clear hi); (try clear ho0); obtain ⟨Ao65, co65, eo65⟩ := Kd.V_slice HO171.out; subst eo65) | (go_at_call 17; (with_reducible refine (lodgerref02_Same.calls kj20 _ _ t169 _ _ l0 true _ ?side1 ?side2 ?side3 ?side4 A55.out).mono ?_); (case side1 => repeat (first | exact (Kd.V_reads' HO171.out).2.2 | (with_reducible refine Kd.C_alloc ?_ _) | (with_reducible refine Kd.C_drewN ?_ _) | (with_reducible refine Kd.C_drew ?_))); (case side2 => exact (Kd.V_reads' HO171.out).2.1); (case side3 => repeat (first | exact (Kd.C_below HR0.out HB.out) | (with_reducible refine Kd.C_alloc ?_ _) | (with_reducible refine Kd.C_drewN ?_ _) | (with_reducible refine Kd.C_drew ?_))); (case side4 => exact HC0.out); rintro e w' ⟨rfl, ⟨nd, rfl⟩⟩) | (go_at_call 15; (with_reducible refine (cells_Load.calls _ _ l0 (l0.length : Int) t173 _ ?side1 ?side2 A57.out).mono ?_); (case side1 => repeat (first | exact (Kd.C_below HR0.out (by repeat (first | (with_reducible first | exact HB.out | apply below_alloc | apply pw_below_drewN | apply below_drew1) | exact HB.out))) | (with_reducible refine Kd.C_alloc ?_ _) | (with_reducible refine Kd.C_drewN ?_ _) | (with_reducible refine Kd.C_drew ?_))); (case side2 => exact HC0.out); rintro e w' ⟨rfl, ⟨nd, rfl⟩⟩) | (go_at_call 15; (with_reducible refine (cells_Load.calls _ _ l0 (-1) t174 _ ?side1 ?side2 A59.out).mono ?_); (case side1 => repeat (first | exact (Kd.C_below HR0.out (by repeat (first | (with_reducible first | exact HB.out | apply below_alloc | apply pw_below_drewN | apply below_drew1) | exact HB.out))) | (with_reducible refine Kd.C_alloc ?_ _) | (with_reducible refine Kd.C_drewN ?_ _) | (with_reducible refine Kd.C_drew ?_))); (case side2 => exact HC0.out); rintro e w' ⟨rfl, ⟨nd, rfl⟩⟩))
                              go_ret
                              exact ⟨by first | rfl | (simp [errW_none, errW_some] <;> rfl) | (simp [*, errW_none, errW_some] <;> rfl), by repeat (first | (with_reducible first | exact HB.out | apply below_alloc | apply pw_below_drewN | apply below_drew1) | exact HB.out)⟩
                          · rw [if_neg c58] at H
                            rw [hr_.out] at H
                            exact absurd (Option.some.inj H) (by decide)
                        · replace c56 := Bool.eq_false_iff.mpr c56
                          subst c56
                          have H1 : (some false) = some r := by rw [if_neg (show ¬ (false = true) by decide)] at H; exact H
                          rw [hr_.out] at H1
                          exact absurd (Option.some.inj H1) (by decide)
                      · replace c53 := Bool.eq_false_iff.mpr c53
                        subst c53
                        have H1 : (some false) = some r := by rw [if_neg (show ¬ (false = true) by decide)] at H; exact H
                        rw [hr_.out] at H1
                        exact absurd (Option.some.inj H1) (by decide)
                    · replace c51 := Bool.eq_false_iff.mpr c51
                      subst c51
                      have H1 : (some false) = some r := by rw [if_neg (show ¬ (false = true) by decide)] at H; exact H
                      rw [hr_.out] at H1
                      exact absurd (Option.some.inj H1) (by decide)

/-- THE ONE PURE STATEMENT of lodgerlaw02_CellsApart: yours. -/
def lodgerlaw02_CellsApart.Pure : Prop := ∀ (l0 : List Int) (a1 : Int) (a2 : Int) (a3 : Int) (a4 : Int), l0.length ≤ maxLen → l0.length * 8 ≤ 140737488351232 → (∀ x ∈ l0, (Lit.int .u64 x).wf = true) → (Lit.int .u16 a1).wf = true → (Lit.int .u16 a2).wf = true → (Lit.int .u64 a3).wf = true → (Lit.int .u64 a4).wf = true → ∃ k, lodgerlaw02_CellsApart.f k l0 a1 a2 a3 a4 = some true
theorem lodgerlaw02_CellsApart.walk (P : lodgerlaw02_CellsApart.Pure) (a0 : Option Addr) (len0 cap0 : Nat) (z0 : List Int) (a1 : Int) (a2 : Int) (a3 : Int) (a4 : Int) (w : World) (w0 : (a0 = none ∧ len0 = 0 ∧ cap0 = 0 ∧ z0 = []) ∨ ∃ x, a0 = some x ∧ len0 ≤ cap0 ∧ cap0 ≤ maxLen ∧ z0.length = cap0 ∧ (∀ i, i < z0.length → w.cell? (x.add i) = some (.int .u64 (z0.getD i 0))) ∧ ∀ n ∈ z0, (Lit.int .u64 n).wf = true) (y0 : len0 * 8 ≤ 140737488351232) (w1 : (Lit.int .u16 a1).wf = true) (w2 : (Lit.int .u16 a2).wf = true) (w3 : (Lit.int .u64 a3).wf = true) (w4 : (Lit.int .u64 a4).wf = true) :
    Calls Try.prog 8 #[.slice a0 len0 cap0, .int .u16 a1, .int .u16 a2, .int .u64 a3, .int .u64 a4] w fun e w' => e = .returned (.bool true) ∧ Below w.heap.size w w' := by
  obtain ⟨l0, rfl, hr0, hm0, hw0, hc0⟩ := ReadsInt.ofRowC w0
  obtain ⟨k, h⟩ := P l0 a1 a2 a3 a4 hm0 y0 hw0 w1 w2 w3 w4
  refine (lodgerlaw02_CellsApart.calls k _ _ l0 a1 a2 a3 a4 true w (Kd.C_of_reads (d := (0 : Int)) (h1 := fun _ => rfl) hr0) hc0 rfl h).mono ?_
  rintro e w' ⟨rfl, hd⟩
  exact ⟨rfl, hd⟩

end Go.Proofs.Ytpkomlobikmkkaa.PCellsApart
