/- The walk of CellsKeep, part of it: what the Go functions answer; no condition. -/
import Derived.Test.YtmchledhamhlgaaQCellsKeepx0
import Derived.Test.YtmchledhamhlgaaQCellsKeepx1
import Derived.Test.YtmchledhamhlgaaQCellsKeepx2
namespace Go.Proofs.Ytmchledhamhlgaa.PCellsKeep
open Go.RowKit Go.Proofs.YtmchledhamhlgaaW.PrintWords Go.Proofs.YtmchledhamhlgaaW.PrintLast Go.Proofs.YtmchledhamhlgaaW.PrintMore
attribute [local go_sem] max2_int min2_int max_two min_two max_three min_three max_four min_four   -- for this text's walks alone
set_option linter.unusedVariables false
set_option linter.unusedSimpArgs false

/-! ### lodgerlaw02_CellsKeep: function 3 -/
mutual
def lodgerlaw02_CellsKeep.j0 : Nat → List Int → Int → Int → Bool → Option (Bool)
 | 0, _, _, _, _ => none
 | k + 1, x0, x1, x2, x16 => if x16 = true then ((lodgerlaw02_awake.f k).bind fun t144 => (some t144)) else ((some (([] : List Int) : List Int)).bind fun y145 => (if y145.length + x0.length < 17592186044416 then ((some (y145 ++ x0 : List Int)).bind fun y148 => (if y148.length < 17592186044416 then ((some (y148 ++ [77] : List Int)).bind fun y151 => (if 0 ≤ (x0.length : Int) then (if (x0.length : Int) ≤ (y151.length : Int) then ((cells_Store.f (y151.take ((x0.length : Int) : Int).toNat) x1 x2).bind fun t158 => ((cells_Add.f (y151.take ((x0.length : Int) : Int).toNat) x1 x2).bind fun t165 => ((lodgerref02_Load.f k x0 x1).bind fun t172 => ((cells_Swap.f (y151.take ((x0.length : Int) : Int).toNat) x1 t172 x2).bind fun bt173 => ((cells_New.f 3).bind fun t177 => ((cells_New.f 3).bind fun t180 => (if (t177.length : Int) = 3 then (lodgerlaw02_CellsKeep.j1 k x0 y151 t177 t180 ((t180.length : Int) == 3)) else (lodgerlaw02_CellsKeep.j1 k x0 y151 t177 t180 false)))))))) else (none)) else (none))) else (none))) else (none)))
def lodgerlaw02_CellsKeep.j1 : Nat → List Int → List Int → List Int → List Int → Bool → Option (Bool)
 | 0, _, _, _, _, _ => none
 | k + 1, x0, x7, x8, x9, x56 => if x56 = true then (if 0 < (x8.length : Int) then (if 0 < (x9.length : Int) then (if (rd x9 0) = 0 then (if 0 ≤ (x0.length : Int) then (if (x0.length : Int) ≤ (x7.length : Int) then ((lodgerref02_Same.f k (x7.take ((x0.length : Int) : Int).toNat) x0).bind fun t189 => (if t189 = true then (if (x0.length : Int) < (x7.length : Int) then (some ((rd x7 (x0.length : Int)) == 77)) else (none)) else (some false))) else (none)) else (none)) else (some false)) else (none)) else (none)) else (if 0 ≤ (x0.length : Int) then (if (x0.length : Int) ≤ (x7.length : Int) then ((lodgerref02_Same.f k (x7.take ((x0.length : Int) : Int).toNat) x0).bind fun t195 => (if t195 = true then (if (x0.length : Int) < (x7.length : Int) then (some ((rd x7 (x0.length : Int)) == 77)) else (none)) else (some false))) else (none)) else (none))
end
def lodgerlaw02_CellsKeep.f (k : Nat) (l0 : List Int) (a1 : Int) (a2 : Int) : Option (Bool) := (lodgerlaw02_awake.f k).bind fun t143 => (if t143 = true then (lodgerlaw02_CellsKeep.j0 k l0 a1 a2 (decide ((l0.length : Int) > 2000))) else (lodgerlaw02_CellsKeep.j0 k l0 a1 a2 true))
theorem lodgerlaw02_CellsKeep.mono_l : ∀ k, (∀ y0 y1 y2 y3, LeO (lodgerlaw02_CellsKeep.j0 k y0 y1 y2 y3) (lodgerlaw02_CellsKeep.j0 (k + 1) y0 y1 y2 y3)) ∧ (∀ y0 y1 y2 y3 y4, LeO (lodgerlaw02_CellsKeep.j1 k y0 y1 y2 y3 y4) (lodgerlaw02_CellsKeep.j1 (k + 1) y0 y1 y2 y3 y4))
 | 0 => ⟨fun _ _ _ _ r h => by simp [lodgerlaw02_CellsKeep.j0] at h, fun _ _ _ _ _ r h => by simp [lodgerlaw02_CellsKeep.j1] at h⟩
 | k + 1 => by
  obtain ⟨ih0, ih1⟩ := lodgerlaw02_CellsKeep.mono_l k
  refine ⟨?_, ?_⟩
  ·intro y0 y1 y2 y3
   unfold lodgerlaw02_CellsKeep.j0
   repeat' first
   | (with_reducible exact ih0 _ _ _ _)
   | (with_reducible exact ih1 _ _ _ _ _)
   | (with_reducible exact lodgerlaw02_awake.mono _)
   | (with_reducible exact lodgerref02_Load.mono _ _ _)
   | (with_reducible exact lodgerref02_Same.mono _ _ _)
   | (with_reducible exact LeO.refl _)
   | (with_reducible exact LeO.none _)
   | (with_reducible refine LeO.ite ?_ ?_)
   | (with_reducible refine LeO.bind ?_ (fun _ => ?_))
   | exact ih0 _ _ _ _
   | exact ih1 _ _ _ _ _
   | exact lodgerlaw02_awake.mono _
   | exact lodgerref02_Load.mono _ _ _
   | exact lodgerref02_Same.mono _ _ _
   | exact LeO.none _
   | refine LeO.ite ?_ ?_
   | refine LeO.bind ?_ (fun _ => ?_)
  ·intro y0 y1 y2 y3 y4
   unfold lodgerlaw02_CellsKeep.j1
   repeat' first
   | (with_reducible exact ih0 _ _ _ _)
   | (with_reducible exact ih1 _ _ _ _ _)
   | (with_reducible exact lodgerlaw02_awake.mono _)
   | (with_reducible exact lodgerref02_Load.mono _ _ _)
   | (with_reducible exact lodgerref02_Same.mono _ _ _)
   | (with_reducible exact LeO.refl _)
   | (with_reducible exact LeO.none _)
   | (with_reducible refine LeO.ite ?_ ?_)
   | (with_reducible refine LeO.bind ?_ (fun _ => ?_))
   | exact ih0 _ _ _ _
   | exact ih1 _ _ _ _ _
   | exact lodgerlaw02_awake.mono _
   | exact lodgerref02_Load.mono _ _ _
   | exact lodgerref02_Same.mono _ _ _
   | exact LeO.none _
   | refine LeO.ite ?_ ?_
   | refine LeO.bind ?_ (fun _ => ?_)
theorem lodgerlaw02_CellsKeep.mono : ∀ a0 a1 a2 k, LeO (lodgerlaw02_CellsKeep.f k a0 a1 a2) (lodgerlaw02_CellsKeep.f (k + 1) a0 a1 a2) := by
 intro a0 a1 a2 k
 obtain ⟨ih0, ih1⟩ := lodgerlaw02_CellsKeep.mono_l k
 unfold lodgerlaw02_CellsKeep.f
 repeat' first
   | (with_reducible exact ih0 _ _ _ _)
   | (with_reducible exact ih1 _ _ _ _ _)
   | (with_reducible exact lodgerlaw02_awake.mono _)
   | (with_reducible exact lodgerref02_Load.mono _ _ _)
   | (with_reducible exact lodgerref02_Same.mono _ _ _)
   | (with_reducible exact LeO.refl _)
   | (with_reducible exact LeO.none _)
   | (with_reducible refine LeO.ite ?_ ?_)
   | (with_reducible refine LeO.bind ?_ (fun _ => ?_))
   | exact ih0 _ _ _ _
   | exact ih1 _ _ _ _ _
   | exact lodgerlaw02_awake.mono _
   | exact lodgerref02_Load.mono _ _ _
   | exact lodgerref02_Same.mono _ _ _
   | exact LeO.none _
   | refine LeO.ite ?_ ?_
   | refine LeO.bind ?_ (fun _ => ?_)
def lodgerlaw02_CellsKeep.T6 : Bool × List (List Nat × List Nat) := (true, [([], []), ([], []), ([1], [1]), ([0, 2], [0, 2]), ([], []), ([], []), ([], []), ([5, 6], [5, 6]), ([], []), ([3, 4, 7, 8, 7], [3, 4, 7, 8])])
def lodgerlaw02_CellsKeep.B6 : List Nat := [0, 0, 2, 7, 0, 0, 0, 96, 0, 511]
theorem lodgerlaw02_CellsKeep.tab6 : rtab .any (opsOf Try.f3 6) = lodgerlaw02_CellsKeep.T6 := by kernel_rfl
theorem lodgerlaw02_CellsKeep.bits6 : waitsOk lodgerlaw02_CellsKeep.T6.2 lodgerlaw02_CellsKeep.B6 = true := by kernel_rfl
set_option maxHeartbeats 8000000 in
set_option maxRecDepth 100000 in
theorem lodgerlaw02_CellsKeep.calls (k : Nat) (A0 : Option Addr) (c0 : Nat) (l0 : List Int) (a1 : Int) (a2 : Int) (r : Bool) (w : World) (hr0 : Kd.C (Kd.int .u64) w A0 l0.length l0) (hc0 : l0.length ≤ c0) (hr_ : r = true) (h : lodgerlaw02_CellsKeep.f k l0 a1 a2 = some r) :
  Calls Try.prog 3 #[.slice A0 l0.length c0, .int .i64 a1, .int .u64 a2] w fun e w' => e = .returned (.bool r) ∧ Below w.heap.size w w' := by
 have HR0 := Aside0.mk hr0
 have HC0 := Aside0.mk hc0
 clear hr0 hc0
 have HB := Aside0.mk (Below.refl w.heap.size w)
 replace hr_ := Aside0.mk hr_
 have H : ((lodgerlaw02_awake.f k).bind fun t143 => (if t143 = true then (lodgerlaw02_CellsKeep.j0 k l0 a1 a2 (decide ((l0.length : Int) > 2000))) else (lodgerlaw02_CellsKeep.j0 k l0 a1 a2 true))) = some r := h
 clear h
 have HC4 := Aside0.mk H
 clear H
 go_enter Try.func3, Try.ntmps3
 go_upto_region 1 with (fail)
 go_cut [16] (fun v16 wc => ∃ (kq : Nat) (x16_3 : Bool), v16 = .bool x16_3 ∧ Aside0 (lodgerlaw02_CellsKeep.j0 kq l0 a1 a2 x16_3 = some r) ∧ Aside0 (kq ≤ k) ∧ Aside0 (Below w.heap.size w wc))
 case first =>
  have H := HC4.out
  clear HC4
  replace H := Option.bind_eq_some_iff.mp H
  obtain ⟨t143, A50, H⟩ := H
  replace H : (if t143 = true then (lodgerlaw02_CellsKeep.j0 k l0 a1 a2 (decide ((l0.length : Int) > 2000))) else (lodgerlaw02_CellsKeep.j0 k l0 a1 a2 true)) = some r := H
  have A5 := Aside0.mk A50
  clear A50
  by_cases c6 : t143 = true
  ·subst c6
   have H1 : (lodgerlaw02_CellsKeep.j0 k l0 a1 a2 (decide ((l0.length : Int) > 2000))) = some r := by rw [if_pos rfl] at H; exact H
   clear H
   have H := H1
   clear H1
   have H' := Aside0.mk H
   clear H
   go_wp2_with (first | ((with_reducible refine gate_callee (f := 5) rfl ?_); refine goesL_ (some 10) rfl rfl Try.func5 (by kernel_rfl) rfl #[] rfl (by (try simp only [List.map_toArray, List.map_cons, List.map_nil]); first | done | rfl | (simp only [List.length_drop, List.length_take]; rfl)) ?_; (with_reducible refine (lodgerlaw02_awake.calls k  true _ A5.out).mono ?_); rintro e w7 ⟨rfl, hb⟩; refine ⟨_, rfl, ?_⟩; have n0_ := Aside0.mk (below_step (by repeat (first | (with_reducible first | exact HB.out | apply below_alloc | apply pw_below_drewN | apply below_drew1) | exact HB.out)) hb); clear HB; have HB := n0_; clear n0_; (try clear hb); (try clear hb2); (try clear hk); (try clear hi)))
   go_meet
   case rel => exact ⟨_, (decide ((l0.length : Int) > 2000)), (by first | rfl | (simp; done) | (simp [*]; done)), H', ⟨by first | omega | exact Nat.le_refl _⟩, ⟨by repeat (first | (with_reducible first | exact HB.out | apply below_alloc | apply pw_below_drewN | apply below_drew1) | exact HB.out)⟩⟩
  ·replace c6 := Bool.eq_false_iff.mpr c6
   subst c6
   have H1 : (lodgerlaw02_CellsKeep.j0 k l0 a1 a2 true) = some r := by rw [if_neg (show ¬ (false = true) by decide)] at H; exact H
   clear H
   have H := H1
   clear H1
   have H' := Aside0.mk H
   clear H
   go_wp2_with (first | ((with_reducible refine gate_callee (f := 5) rfl ?_); refine goesL_ (some 10) rfl rfl Try.func5 (by kernel_rfl) rfl #[] rfl (by (try simp only [List.map_toArray, List.map_cons, List.map_nil]); first | done | rfl | (simp only [List.length_drop, List.length_take]; rfl)) ?_; (with_reducible refine (lodgerlaw02_awake.calls k  false _ A5.out).mono ?_); rintro e w8 ⟨rfl, hb⟩; refine ⟨_, rfl, ?_⟩; have n0_ := Aside0.mk (below_step (by repeat (first | (with_reducible first | exact HB.out | apply below_alloc | apply pw_below_drewN | apply below_drew1) | exact HB.out)) hb); clear HB; have HB := n0_; clear n0_; (try clear hb); (try clear hb2); (try clear hk); (try clear hi)))
   go_meet
   case rel => exact ⟨_, (true), (by first | rfl | (simp; done) | (simp [*]; done)), H', ⟨by first | omega | exact Nat.le_refl _⟩, ⟨by repeat (first | (with_reducible first | exact HB.out | apply below_alloc | apply pw_below_drewN | apply below_drew1) | exact HB.out)⟩⟩
 case rest =>
  clear HC4
  try clear p2
  try clear c3
  try clear c5
  try clear c6
  obtain ⟨kq, x16_3, rfl, HA, HJ3, HB⟩ := hcut
  cases kq with
  | zero => exact absurd HA.out (by simp [lodgerlaw02_CellsKeep.j0])
  | succ kj3 =>
   have H := HA.out
   clear HA
   simp only [lodgerlaw02_CellsKeep.j0] at H
   by_cases c9 : x16_3 = true
   ·subst c9
    have H1 : ((lodgerlaw02_awake.f kj3).bind fun t144 => (some t144)) = some r := by rw [if_pos rfl] at H; exact H
    clear H
    have H := H1
    clear H1
    replace H := Option.bind_eq_some_iff.mp H
    obtain ⟨t144, A100, H⟩ := H
    replace H : (some t144) = some r := H
    have A10 := Aside0.mk A100
    clear A100
    first | (exfalso; rw [hr_.out] at H; exact absurd (Option.some.inj H) (by decide)) | (try clear hr_)
    all_goals
     obtain rfl := Option.some.inj H
     go_wp2_with (first | ((with_reducible refine gate_callee (f := 5) rfl ?_); refine goesL_ (some 17) rfl rfl Try.func5 (by kernel_rfl) rfl #[] rfl (by (try simp only [List.map_toArray, List.map_cons, List.map_nil]); first | done | rfl | (simp only [List.length_drop, List.length_take]; rfl)) ?_; (with_reducible refine (lodgerlaw02_awake.calls kj3  t144 _ A10.out).mono ?_); rintro e w11 ⟨rfl, hb⟩; refine ⟨_, rfl, ?_⟩; have n0_ := Aside0.mk (below_step (by repeat (first | (with_reducible first | exact HB.out | apply below_alloc | apply pw_below_drewN | apply below_drew1) | exact HB.out)) hb); clear HB; have HB := n0_; clear n0_; (try clear hb); (try clear hb2); (try clear hk); (try clear hi)))
     go_ret
     exact ⟨by first | rfl | (simp [errW_none, errW_some] <;> rfl) | (simp [*, errW_none, errW_some] <;> rfl), by repeat (first | (with_reducible first | exact HB.out | apply below_alloc | apply pw_below_drewN | apply below_drew1) | exact HB.out)⟩
   ·replace c9 := Bool.eq_false_iff.mpr c9
    subst c9
    have H1 : ((some (([] : List Int) : List Int)).bind fun y145 => (if y145.length + l0.length < 17592186044416 then ((some (y145 ++ l0 : List Int)).bind fun y148 => (if y148.length < 17592186044416 then ((some (y148 ++ [77] : List Int)).bind fun y151 => (if 0 ≤ (l0.length : Int) then (if (l0.length : Int) ≤ (y151.length : Int) then ((cells_Store.f (y151.take ((l0.length : Int) : Int).toNat) a1 a2).bind fun t158 => ((cells_Add.f (y151.take ((l0.length : Int) : Int).toNat) a1 a2).bind fun t165 => ((lodgerref02_Load.f kj3 l0 a1).bind fun t172 => ((cells_Swap.f (y151.take ((l0.length : Int) : Int).toNat) a1 t172 a2).bind fun bt173 => ((cells_New.f 3).bind fun t177 => ((cells_New.f 3).bind fun t180 => (if (t177.length : Int) = 3 then (lodgerlaw02_CellsKeep.j1 kj3 l0 y151 t177 t180 ((t180.length : Int) == 3)) else (lodgerlaw02_CellsKeep.j1 kj3 l0 y151 t177 t180 false)))))))) else (none)) else (none))) else (none))) else (none))) = some r := by rw [if_neg (show ¬ (false = true) by decide)] at H; exact H
    clear H
    have H := H1
    clear H1
    obtain ⟨y145, hy145⟩ : ∃ y_ : List Int, y_ = (([] : List Int)) := ⟨_, rfl⟩
    replace H : (if y145.length + l0.length < 17592186044416 then ((some (y145 ++ l0 : List Int)).bind fun y148 => (if y148.length < 17592186044416 then ((some (y148 ++ [77] : List Int)).bind fun y151 => (if 0 ≤ (l0.length : Int) then (if (l0.length : Int) ≤ (y151.length : Int) then ((cells_Store.f (y151.take ((l0.length : Int) : Int).toNat) a1 a2).bind fun t158 => ((cells_Add.f (y151.take ((l0.length : Int) : Int).toNat) a1 a2).bind fun t165 => ((lodgerref02_Load.f kj3 l0 a1).bind fun t172 => ((cells_Swap.f (y151.take ((l0.length : Int) : Int).toNat) a1 t172 a2).bind fun bt173 => ((cells_New.f 3).bind fun t177 => ((cells_New.f 3).bind fun t180 => (if (t177.length : Int) = 3 then (lodgerlaw02_CellsKeep.j1 kj3 l0 y151 t177 t180 ((t180.length : Int) == 3)) else (lodgerlaw02_CellsKeep.j1 kj3 l0 y151 t177 t180 false)))))))) else (none)) else (none))) else (none))) else (none)) = some r := by first | (rw [hy145]; with_reducible exact H) | (have H2_ := (Option.bind_some _ _).symm.trans H; rw [hy145]; with_reducible exact H2_) | (have H2_ := (Option.bind_some _ _).symm.trans H; with_reducible exact H2_) | with_reducible exact H | (rw [hy145]; exact H) | exact H
    have Ny145 := Aside0.mk hy145
    clear hy145
    by_cases c12 : y145.length + l0.length < 17592186044416
    ·rw [if_pos c12] at H
     have LMc12 := Aside0.mk c12
     clear c12
     obtain ⟨y148, hy148⟩ : ∃ y_ : List Int, y_ = (y145 ++ l0) := ⟨_, rfl⟩
     replace H : (if y148.length < 17592186044416 then ((some (y148 ++ [77] : List Int)).bind fun y151 => (if 0 ≤ (l0.length : Int) then (if (l0.length : Int) ≤ (y151.length : Int) then ((cells_Store.f (y151.take ((l0.length : Int) : Int).toNat) a1 a2).bind fun t158 => ((cells_Add.f (y151.take ((l0.length : Int) : Int).toNat) a1 a2).bind fun t165 => ((lodgerref02_Load.f kj3 l0 a1).bind fun t172 => ((cells_Swap.f (y151.take ((l0.length : Int) : Int).toNat) a1 t172 a2).bind fun bt173 => ((cells_New.f 3).bind fun t177 => ((cells_New.f 3).bind fun t180 => (if (t177.length : Int) = 3 then (lodgerlaw02_CellsKeep.j1 kj3 l0 y151 t177 t180 ((t180.length : Int) == 3)) else (lodgerlaw02_CellsKeep.j1 kj3 l0 y151 t177 t180 false)))))))) else (none)) else (none))) else (none)) = some r := by first | (rw [hy148]; with_reducible exact H) | (have H2_ := (Option.bind_some _ _).symm.trans H; rw [hy148]; with_reducible exact H2_) | (have H2_ := (Option.bind_some _ _).symm.trans H; with_reducible exact H2_) | with_reducible exact H | (rw [hy148]; exact H) | exact H
     have Ny148 := Aside0.mk hy148
     clear hy148
     by_cases c13 : y148.length < 17592186044416
     ·rw [if_pos c13] at H
      have LMc13 := Aside0.mk c13
      clear c13
      obtain ⟨y151, hy151⟩ : ∃ y_ : List Int, y_ = (y148 ++ [77]) := ⟨_, rfl⟩
      replace H : (if 0 ≤ (l0.length : Int) then (if (l0.length : Int) ≤ (y151.length : Int) then ((cells_Store.f (y151.take ((l0.length : Int) : Int).toNat) a1 a2).bind fun t158 => ((cells_Add.f (y151.take ((l0.length : Int) : Int).toNat) a1 a2).bind fun t165 => ((lodgerref02_Load.f kj3 l0 a1).bind fun t172 => ((cells_Swap.f (y151.take ((l0.length : Int) : Int).toNat) a1 t172 a2).bind fun bt173 => ((cells_New.f 3).bind fun t177 => ((cells_New.f 3).bind fun t180 => (if (t177.length : Int) = 3 then (lodgerlaw02_CellsKeep.j1 kj3 l0 y151 t177 t180 ((t180.length : Int) == 3)) else (lodgerlaw02_CellsKeep.j1 kj3 l0 y151 t177 t180 false)))))))) else (none)) else (none)) = some r := by first | (rw [hy151]; with_reducible exact H) | (have H2_ := (Option.bind_some _ _).symm.trans H; rw [hy151]; with_reducible exact H2_) | (have H2_ := (Option.bind_some _ _).symm.trans H; with_reducible exact H2_) | with_reducible exact H | (rw [hy151]; exact H) | exact H
      have Ny151 := Aside0.mk hy151
      clear hy151
      by_cases c14 : 0 ≤ (l0.length : Int)
      ·rw [if_pos c14] at H
       have c14b0 := eq_true c14
       have c14b1 : decide (0 ≤ (l0.length : Int)) = true := decide_eq_true c14
       clear c14
       by_cases c15 : (l0.length : Int) ≤ (y151.length : Int)
       ·rw [if_pos c15] at H
        have c15b0 := eq_true c15
        have c15b1 : decide ((l0.length : Int) ≤ (y151.length : Int)) = true := decide_eq_true c15
        clear c15
        obtain ⟨y154, hy154⟩ : ∃ y_ : List Int, y_ = (y151.take ((l0.length : Int) : Int).toNat) := ⟨_, rfl⟩
        replace H : ((cells_Store.f y154 a1 a2).bind fun t158 => ((cells_Add.f (y151.take ((l0.length : Int) : Int).toNat) a1 a2).bind fun t165 => ((lodgerref02_Load.f kj3 l0 a1).bind fun t172 => ((cells_Swap.f (y151.take ((l0.length : Int) : Int).toNat) a1 t172 a2).bind fun bt173 => ((cells_New.f 3).bind fun t177 => ((cells_New.f 3).bind fun t180 => (if (t177.length : Int) = 3 then (lodgerlaw02_CellsKeep.j1 kj3 l0 y151 t177 t180 ((t180.length : Int) == 3)) else (lodgerlaw02_CellsKeep.j1 kj3 l0 y151 t177 t180 false)))))))) = some r := by first | (rw [hy154]; with_reducible exact H) | (have H2_ := (Option.bind_some _ _).symm.trans H; rw [hy154]; with_reducible exact H2_) | (have H2_ := (Option.bind_some _ _).symm.trans H; with_reducible exact H2_) | with_reducible exact H | (rw [hy154]; exact H) | exact H
        have Ny154 := Aside0.mk hy154
        clear hy154
        replace H := Option.bind_eq_some_iff.mp H
        obtain ⟨t158, A160, H⟩ := H
        replace H : ((cells_Add.f (y151.take ((l0.length : Int) : Int).toNat) a1 a2).bind fun t165 => ((lodgerref02_Load.f kj3 l0 a1).bind fun t172 => ((cells_Swap.f (y151.take ((l0.length : Int) : Int).toNat) a1 t172 a2).bind fun bt173 => ((cells_New.f 3).bind fun t177 => ((cells_New.f 3).bind fun t180 => (if (t177.length : Int) = 3 then (lodgerlaw02_CellsKeep.j1 kj3 l0 y151 t177 t180 ((t180.length : Int) == 3)) else (lodgerlaw02_CellsKeep.j1 kj3 l0 y151 t177 t180 false))))))) = some r := H
        have A16 := Aside0.mk A160
        clear A160
        have c17b0 := eq_true (od_ : 0 ≤ (l0.length : Int))
        have c18b0 := eq_true (od_ : (l0.length : Int) ≤ (y151.length : Int))
        obtain ⟨y161, hy161⟩ : ∃ y_ : List Int, y_ = (y151.take ((l0.length : Int) : Int).toNat) := ⟨_, rfl⟩
        replace H : ((cells_Add.f y161 a1 a2).bind fun t165 => ((lodgerref02_Load.f kj3 l0 a1).bind fun t172 => ((cells_Swap.f (y151.take ((l0.length : Int) : Int).toNat) a1 t172 a2).bind fun bt173 => ((cells_New.f 3).bind fun t177 => ((cells_New.f 3).bind fun t180 => (if (t177.length : Int) = 3 then (lodgerlaw02_CellsKeep.j1 kj3 l0 y151 t177 t180 ((t180.length : Int) == 3)) else (lodgerlaw02_CellsKeep.j1 kj3 l0 y151 t177 t180 false))))))) = some r := by first | (rw [hy161]; with_reducible exact H) | (have H2_ := (Option.bind_some _ _).symm.trans H; rw [hy161]; with_reducible exact H2_) | (have H2_ := (Option.bind_some _ _).symm.trans H; with_reducible exact H2_) | with_reducible exact H | (rw [hy161]; exact H) | exact H
        have Ny161 := Aside0.mk hy161
        clear hy161
        replace H := Option.bind_eq_some_iff.mp H
        obtain ⟨t165, A190, H⟩ := H
        replace H : ((lodgerref02_Load.f kj3 l0 a1).bind fun t172 => ((cells_Swap.f (y151.take ((l0.length : Int) : Int).toNat) a1 t172 a2).bind fun bt173 => ((cells_New.f 3).bind fun t177 => ((cells_New.f 3).bind fun t180 => (if (t177.length : Int) = 3 then (lodgerlaw02_CellsKeep.j1 kj3 l0 y151 t177 t180 ((t180.length : Int) == 3)) else (lodgerlaw02_CellsKeep.j1 kj3 l0 y151 t177 t180 false)))))) = some r := H
        have A19 := Aside0.mk A190
        clear A190
        have c20b0 := eq_true (od_ : 0 ≤ (l0.length : Int))
        have c21b0 := eq_true (od_ : (l0.length : Int) ≤ (y151.length : Int))
        obtain ⟨y168, hy168⟩ : ∃ y_ : List Int, y_ = (y151.take ((l0.length : Int) : Int).toNat) := ⟨_, rfl⟩
        replace H : ((lodgerref02_Load.f kj3 l0 a1).bind fun t172 => ((cells_Swap.f y168 a1 t172 a2).bind fun bt173 => ((cells_New.f 3).bind fun t177 => ((cells_New.f 3).bind fun t180 => (if (t177.length : Int) = 3 then (lodgerlaw02_CellsKeep.j1 kj3 l0 y151 t177 t180 ((t180.length : Int) == 3)) else (lodgerlaw02_CellsKeep.j1 kj3 l0 y151 t177 t180 false)))))) = some r := by first | (rw [hy168]; with_reducible exact H) | (have H2_ := (Option.bind_some _ _).symm.trans H; rw [hy168]; with_reducible exact H2_) | (have H2_ := (Option.bind_some _ _).symm.trans H; with_reducible exact H2_) | with_reducible exact H | (rw [hy168]; exact H) | exact H
        have Ny168 := Aside0.mk hy168
        clear hy168
        replace H := Option.bind_eq_some_iff.mp H
        obtain ⟨t172, A220, H⟩ := H
        replace H : ((cells_Swap.f y168 a1 t172 a2).bind fun bt173 => ((cells_New.f 3).bind fun t177 => ((cells_New.f 3).bind fun t180 => (if (t177.length : Int) = 3 then (lodgerlaw02_CellsKeep.j1 kj3 l0 y151 t177 t180 ((t180.length : Int) == 3)) else (lodgerlaw02_CellsKeep.j1 kj3 l0 y151 t177 t180 false))))) = some r := H
        have A22 := Aside0.mk A220
        clear A220
        replace H := Option.bind_eq_some_iff.mp H
        obtain ⟨⟨t173, t176⟩, A230, H⟩ := H
        replace H : ((cells_New.f 3).bind fun t177 => ((cells_New.f 3).bind fun t180 => (if (t177.length : Int) = 3 then (lodgerlaw02_CellsKeep.j1 kj3 l0 y151 t177 t180 ((t180.length : Int) == 3)) else (lodgerlaw02_CellsKeep.j1 kj3 l0 y151 t177 t180 false)))) = some r := H
        have A23 := Aside0.mk A230
        clear A230
        replace H := Option.bind_eq_some_iff.mp H
        obtain ⟨t177, A240, H⟩ := H
        replace H : ((cells_New.f 3).bind fun t180 => (if (t177.length : Int) = 3 then (lodgerlaw02_CellsKeep.j1 kj3 l0 y151 t177 t180 ((t180.length : Int) == 3)) else (lodgerlaw02_CellsKeep.j1 kj3 l0 y151 t177 t180 false))) = some r := H
        have A24 := Aside0.mk A240
        clear A240
        replace H := Option.bind_eq_some_iff.mp H
        obtain ⟨t180, A250, H⟩ := H
        replace H : (if (t177.length : Int) = 3 then (lodgerlaw02_CellsKeep.j1 kj3 l0 y151 t177 t180 ((t180.length : Int) == 3)) else (lodgerlaw02_CellsKeep.j1 kj3 l0 y151 t177 t180 false)) = some r := H
        have A25 := Aside0.mk A250
        clear A250
        have E_ := A24.out.symm.trans A25.out
        replace E_ := Option.some.inj E_
        subst E_
        have HC26 := Aside0.mk H
        clear H
        try go_wp2_with (first | ((with_reducible refine gate_dst (N := 18) rfl ?_); (try (refine gate_guard (by rfl) ?_; dsimp only)); refine Kd.R_lit (Kd.int .u64) _ 23 ?hg (N := 18) ?hd (xs := ([] : List Int)) (inner := []) (ok := fun _ => True) (okp := fun _ => True) ?hr ?hp (fun _ hk => hk) trivial (Below.refl _ _) (Nat.le_refl _) (by simp) ?_; (case hd => rfl); (case hg => rfl); (case hr => first | (go_simp; done) | (go_simp; rfl)); (case hp => exact (Reps.none _ _)); intro v146 w27 ho28 hb hg_ hnew_; clear hg_ hnew_; (first | rw [← Ny145.out] at ho28 | (simp only [Int.reduceToNat] at ho28; rw [← Ny145.out] at ho28)); have n0_ := Aside0.mk (Kd.R_lower ho28 (below_size (by repeat (first | (with_reducible first | exact HB.out | apply below_alloc | apply pw_below_drewN | apply below_drew1) | exact HB.out)))); have n1_ := Aside0.mk (below_step (by repeat (first | (with_reducible first | exact HB.out | apply below_alloc | apply pw_below_drewN | apply below_drew1) | exact HB.out)) hb); clear HB; have HO147 := n0_; have HB := n1_; clear n0_ n1_; clear hb ho28) | ((with_reducible refine gate_builtin (b := .append) (xs := #[.tmp 18, .tmp 19]) rfl ?_); (try (refine gate_guard (by rfl) ?_; dsimp only)); at_builtin; refine Kd.R_append_rows (Kd.int .u64) (w0 := w) w.heap.size rfl (.tmp 18) (.tmp 19) 22 23 (.int .u64 0) 8 rfl Try.underlying22 info23 rfl (by decide) (by omega) v146 y145 l0 _ _ _ (fun _ => True) (fun _ => False) rfl rfl ?aO ?aR (fun _ _ h => h) (fun _ h => h.elim) ?aF ?aB ?aS ?aL ?_; (case aR => repeat (first | exact (Kd.C_below HR0.out HB.out) | (with_reducible refine Kd.C_alloc ?_ _) | (with_reducible refine Kd.C_drewN ?_ _) | (with_reducible refine Kd.C_drew ?_))); (case aB => exact (by repeat (first | (with_reducible first | exact HB.out | apply below_alloc | apply pw_below_drewN | apply below_drew1) | exact HB.out))); (case aF => exact (fun _ _ => trivial)); (case aO => exact (by (with_reducible repeat (first | apply Kd.R_alloc | apply Kd.R_drewN | apply Kd.R_drew)); exact HO147.out)); (case aS => exact (below_size (by repeat (first | (with_reducible first | exact HB.out | apply below_alloc | apply pw_below_drewN | apply below_drew1) | exact HB.out)))); (case aL => have := LMc12.out; omega); intro v149 w29 ho hb hg hat; rw [← Ny148.out] at ho; have n0_ := Aside0.mk (hb); have n1_ := Aside0.mk (ho); clear HB; clear HO147; have HB := n0_; have HO150 := n1_; clear n0_ n1_; clear ho hb hg hat) | ((with_reducible refine gate_builtin (b := .append) (xs := #[.tmp 20, .tmp 21]) rfl ?_); (try (refine gate_guard (by rfl) ?_; dsimp only)); at_builtin; refine Kd.R_append (Kd.int .u64) (w0 := w) w.heap.size rfl (.tmp 20) (.tmp 21) 22 23 (.int .u64 0) 8 rfl Try.underlying22 info23 rfl (by decide) (by omega) v149 y148 77 [.int .u64 77] (fun _ => True) (fun _ => False) rfl rfl ?aP (fun _ hk => hk.elim) ?aF ?aO ?aB ?aS ?aL ?_; (case aP => exact rfl); (case aB => exact (by repeat (first | (with_reducible first | exact HB.out | apply below_alloc | apply pw_below_drewN | apply below_drew1) | exact HB.out))); (case aF => exact (fun _ _ => trivial)); (case aO => exact (by (with_reducible repeat (first | apply Kd.R_alloc | apply Kd.R_drewN | apply Kd.R_drew)); exact HO150.out)); (case aS => exact (below_size (by repeat (first | (with_reducible first | exact HB.out | apply below_alloc | apply pw_below_drewN | apply below_drew1) | exact HB.out)))); (case aL => have := LMc13.out; omega); intro v152 w30 ho hb hg hat; rw [← Ny151.out] at ho; have n0_ := Aside0.mk (hb); have n1_ := Aside0.mk (ho); clear HB; clear HO150; have HB := n0_; have HO153 := n1_; clear n0_ n1_; clear ho hb hg hat; obtain ⟨Ao32, co32, eo32⟩ := Kd.R_slice HO153.out; subst eo32; have q31 : ((l0.length : Int) : Int) ≤ ((y151.length : Int) : Int) := od_; obtain ⟨i031, hi031, _, hsz31, _⟩ := info_parts info23; have hroom31 : y151.length ≤ co32 := (Kd.R_reads' HO153.out).2.1; have hC31 : Kd.C (Kd.int .u64) _ Ao32 y151.length y151 := (Kd.R_reads' HO153.out).2.2; have hcut31 := cut_to (P := Try.prog) 22 23 .i64 Try.underlying22 hi031 Ao32 y151.length co32 (l0.length : Int) od_ q31 hroom31; have hr31 := Kd.C_take (m := ((l0.length : Int) : Int).toNat) hC31 (by omega); have hy31 : y154.length = ((l0.length : Int) : Int).toNat := (by rw [Ny154.out, List.length_take]; omega); rw [← Ny154.out] at hr31; rw [← hy31] at hcut31; have HR157 := Aside0.mk hr31; have HC157 := Aside0.mk (show y154.length ≤ co32 from by omega); clear hr31 hC31 hroom31 hi031 hsz31; have KY31 := Aside0.mk hy31; clear hy31; have KL31 := Aside0.mk (show ((l0.length : Int) : Int).toNat ≤ y151.length from by omega); replace q31 := eq_true q31) | ((with_reducible refine gate_callee (f := 6) rfl ?_); refine goesL_ (some 29) rfl rfl Try.func6 (by kernel_rfl) rfl #[.slice Ao32 y154.length co32, .int .i64 a1, .int .u64 a2] rfl (by (try simp only [List.map_toArray, List.map_cons, List.map_nil]); first | done | rfl | (simp only [List.length_drop, List.length_take]; rfl)) ?_; (with_reducible refine (cells_Store.calls (fun k_ => some k_ = (.slice Ao32 y151.length co32 : Value).ownBlock) _ _ y154 a1 a2 t158 _ ?side1 A16.out).mono ?_); (case side1 => exact (by have h_ := (Kd.V_at (base := w.heap.size) (Kd.R_V (Kd.R_tight rfl (HO153.out)))).2.2; have h2_ := Kd.F_take (m := ((l0.length : Int) : Int).toNat) h_ KL31.out; rw [← Ny154.out] at h2_; exact Kd.V_mk HC157.out h2_)); rintro e w33 ⟨v159, rfl, ho0, hb⟩; refine ⟨_, rfl, ?_⟩; have n0_ := Aside0.mk (Kd.R_below (by (with_reducible repeat (first | apply Kd.R_alloc | apply Kd.R_drewN | apply Kd.R_drew)); exact HO153.out) hb); have n1_ := Aside0.mk (Kd.V_lower (Kd.V_mono (ok' := fun k_ => True) ho0 (fun k_ hk_ => trivial)) (below_size (by repeat (first | (with_reducible first | exact HB.out | apply below_alloc | apply pw_below_drewN | apply below_drew1) | exact HB.out)))); have n2_ := Aside0.mk (Kd.C_below (by repeat (first | (with_reducible exact HR157.out) | (with_reducible refine Kd.C_alloc ?_ _) | (with_reducible refine Kd.C_drewN ?_ _) | (with_reducible refine Kd.C_drew ?_) | exact HR157.out)) hb); have n3_ := Aside0.mk (below_step (by repeat (first | (with_reducible first | exact HB.out | apply below_alloc | apply pw_below_drewN | apply below_drew1) | exact HB.out)) hb); clear HO153; clear HR157; clear HB; have HO153 := n0_; have HO160 := n1_; have HR157 := n2_; have HB := n3_; clear n0_ n1_ n2_ n3_; (try clear hb); (try clear hb2); (try clear hk); (try clear hi); (try clear ho0); (try clear hcut31); have q34 : ((l0.length : Int) : Int) ≤ ((y151.length : Int) : Int) := od_; obtain ⟨i034, hi034, _, hsz34, _⟩ := info_parts info23; have hroom34 : y151.length ≤ co32 := (Kd.R_reads' HO153.out).2.1; have hC34 : Kd.C (Kd.int .u64) _ Ao32 y151.length y151 := (Kd.R_reads' HO153.out).2.2; have hcut34 := cut_to (P := Try.prog) 22 23 .i64 Try.underlying22 hi034 Ao32 y151.length co32 (l0.length : Int) od_ q34 hroom34; have hr34 := Kd.C_take (m := ((l0.length : Int) : Int).toNat) hC34 (by omega); have hy34 : y161.length = ((l0.length : Int) : Int).toNat := (by rw [Ny161.out, List.length_take]; omega); rw [← Ny161.out] at hr34; rw [← hy34] at hcut34; have HR164 := Aside0.mk hr34; have HC164 := Aside0.mk (show y161.length ≤ co32 from by omega); clear hr34 hC34 hroom34 hi034 hsz34; have KY34 := Aside0.mk hy34; clear hy34; have KL34 := Aside0.mk (show ((l0.length : Int) : Int).toNat ≤ y151.length from by omega); replace q34 := eq_true q34) | ((with_reducible refine gate_callee (f := 7) rfl ?_); refine goesL_ (some 36) rfl rfl Try.func7 (by kernel_rfl) rfl #[.slice Ao32 y161.length co32, .int .i64 a1, .int .u64 a2] rfl (by (try simp only [List.map_toArray, List.map_cons, List.map_nil]); first | done | rfl | (simp only [List.length_drop, List.length_take]; rfl)) ?_; (with_reducible refine (cells_Add.calls (fun k_ => some k_ = (.slice Ao32 y151.length co32 : Value).ownBlock) _ _ y161 a1 a2 t165 _ ?side1 A19.out).mono ?_); (case side1 => exact (by have h_ := (Kd.V_at (base := w.heap.size) (Kd.R_V (Kd.R_tight rfl (HO153.out)))).2.2; have h2_ := Kd.F_take (m := ((l0.length : Int) : Int).toNat) h_ KL34.out; rw [← Ny161.out] at h2_; exact Kd.V_mk HC164.out h2_)); rintro e w35 ⟨v166, rfl, ho0, hb⟩; refine ⟨_, rfl, ?_⟩; have n0_ := Aside0.mk (Kd.R_below (by (with_reducible repeat (first | apply Kd.R_alloc | apply Kd.R_drewN | apply Kd.R_drew)); exact HO153.out) hb); have n1_ := Aside0.mk (Kd.V_below (by (with_reducible repeat (first | apply Kd.V_alloc | apply Kd.V_drewN | apply Kd.V_drew)); exact HO160.out) hb); have n2_ := Aside0.mk (Kd.V_lower (Kd.V_mono (ok' := fun k_ => True) ho0 (fun k_ hk_ => trivial)) (below_size (by repeat (first | (with_reducible first | exact HB.out | apply below_alloc | apply pw_below_drewN | apply below_drew1) | exact HB.out)))); have n3_ := Aside0.mk (Kd.C_below (by repeat (first | (with_reducible exact HR157.out) | (with_reducible refine Kd.C_alloc ?_ _) | (with_reducible refine Kd.C_drewN ?_ _) | (with_reducible refine Kd.C_drew ?_) | exact HR157.out)) hb); have n4_ := Aside0.mk (Kd.C_below (by repeat (first | (with_reducible exact HR164.out) | (with_reducible refine Kd.C_alloc ?_ _) | (with_reducible refine Kd.C_drewN ?_ _) | (with_reducible refine Kd.C_drew ?_) | exact HR164.out)) hb); have n5_ := Aside0.mk (below_step (by repeat (first | (with_reducible first | exact HB.out | apply below_alloc | apply pw_below_drewN | apply below_drew1) | exact HB.out)) hb); clear HO153; clear HO160; clear HR157; clear HR164; clear HB; have HO153 := n0_; have HO160 := n1_; have HO167 := n2_; have HR157 := n3_; have HR164 := n4_; have HB := n5_; clear n0_ n1_ n2_ n3_ n4_ n5_; (try clear hb); (try clear hb2); (try clear hk); (try clear hi); (try clear ho0)))
        have n0_ := Aside0.mk (Kd.R_drew HO153.out)
        have n1_ := Aside0.mk (Kd.V_drew HO160.out)
        have n2_ := Aside0.mk (Kd.V_drew HO167.out)
        have n3_ := Aside0.mk (Kd.C_drew HR157.out)
        have n4_ := Aside0.mk (Kd.C_drew HR164.out)
        have n5_ := Aside0.mk (below_drew1 HB.out)
        clear HO153
        clear HO160
        clear HO167
        clear HR157
        clear HR164
        clear HB
        have HO153 := n0_
        have HO160 := n1_
        have HO167 := n2_
        have HR157 := n3_
        have HR164 := n4_
        have HB := n5_
        clear n0_ n1_ n2_ n3_ n4_ n5_
        (try clear hcut31)
        (try clear hcut34)
        have q37 : ((l0.length : Int) : Int) ≤ ((y151.length : Int) : Int) := od_
        obtain ⟨i037, hi037, _, hsz37, _⟩ := info_parts info23
        have hroom37 : y151.length ≤ co32 := (Kd.R_reads' HO153.out).2.1
        have hC37 : Kd.C (Kd.int .u64) _ Ao32 y151.length y151 := (Kd.R_reads' HO153.out).2.2
        have hcut37 := cut_to (P := Try.prog) 22 23 .i64 Try.underlying22 hi037 Ao32 y151.length co32 (l0.length : Int) od_ q37 hroom37
        have hr37 := Kd.C_take (m := ((l0.length : Int) : Int).toNat) hC37 (by omega)
        have hy37 : y168.length = ((l0.length : Int) : Int).toNat := (by rw [Ny168.out, List.length_take]; omega)
        rw [← Ny168.out] at hr37
        rw [← hy37] at hcut37
        have HR171 := Aside0.mk hr37
        have HC171 := Aside0.mk (show y168.length ≤ co32 from by omega)
        clear hr37 hC37 hroom37 hi037 hsz37
        have KY37 := Aside0.mk hy37
        clear hy37
        have KL37 := Aside0.mk (show ((l0.length : Int) : Int).toNat ≤ y151.length from by omega)
        replace q37 := eq_true q37
        refine start_ (n := 10) (S := fun w' => True) (ds := []) #[false, false, false, false, false, false, false, false, false, false] (by kernel_rfl) rfl rfl trivial (fun hHeld => ?_); refine with_tabW lodgerlaw02_CellsKeep.tab6 lodgerlaw02_CellsKeep.bits6 (fun HT_ HW_ => ?_)
        generalize w35.drew = w36 at HO153 HO160 HO167 HR157 HR164 HB HR171 hHeld ⊢
        refine pu_ (i := 0) (N := some 37) (tf 10 1) HT_ ?_
        refine pu_ (i := 1) (N := some 38) (tf 10 3) HT_ ?_
        refine pu_ (i := 2) (N := some 39) (tf 10 7) HT_ ?_
        refine pu_ (i := 3) (N := some 40) (tf 10 15) HT_ ?_
        refine pu_ (i := 4) (N := some 41) (tf 10 31) HT_ ?_
        refine pu_ (i := 5) (N := some 42) (tf 10 63) HT_ ?_
        refine pu_ (i := 6) (N := some 43) (tf 10 127) HT_ ?_
        refine pu_ (i := 8) (N := some 45) (tf 10 383) HT_ ?_
        refine one_ (i := 7) (N := some 44) #[true, true, true, true, true, true, true, true, true, false] rfl rfl (one_of HT_.out (by kernel_rfl)) (by decide) (fun K hK => ?_)
        refine goes_ Try.func9 (by kernel_rfl) rfl #[.slice A0 l0.length c0, .int .i64 a1] (by rfl) rfl rfl (by (try simp only [List.map_toArray, List.map_cons, List.map_nil]); first | done | rfl | (simp only [List.length_drop, List.length_take]; rfl)) ?_
        with_reducible refine (lodgerref02_Load.calls kj3 _ _ l0 a1 t172 _ ?side1 ?side2 A22.out).mono ?_
        (case side1 => repeat (first | exact (Kd.C_below HR0.out HB.out) | (with_reducible refine Kd.C_alloc ?_ _) | (with_reducible refine Kd.C_drewN ?_ _) | (with_reducible refine Kd.C_drew ?_)))
        (case side2 => exact HC0.out)
        rintro e w' ⟨rfl, ⟨nd, rfl⟩⟩
        refine ⟨_, rfl, ?_⟩
        refine hK.out _ _ trivial (fun hHeld => ?_)
        clear hK K
        refine norm_ (a' := ?_) ?_ ?_
        rotate_left
        ·show Act.put _ (some 44) _ = _
         simp only [Act.put, List.setIfInBounds_toArray, List.set_cons_zero, List.set_cons_succ, i64_w, i32_w]
         rfl
        refine one_ (i := 9) (N := some 46) #[true, true, true, true, true, true, true, true, true, true] rfl rfl (one_of HT_.out (by kernel_rfl)) (by decide) (fun K hK => ?_)
        refine goes_ Try.func8 (by kernel_rfl) rfl #[.slice Ao32 y168.length co32, .int .i64 a1, .int .u64 t172, .int .u64 a2] (by rfl) rfl rfl (by (try simp only [List.map_toArray, List.map_cons, List.map_nil]); first | done | rfl | (simp only [List.length_drop, List.length_take]; rfl)) ?_
        with_reducible refine (cells_Swap.calls (fun k_ => some k_ = (.slice Ao32 y151.length co32 : Value).ownBlock) _ _ y168 a1 t172 a2 t173 t176 _ ?side1 A23.out).mono ?_
        (case side1 => exact (by have h_ := (Kd.V_at (base := w.heap.size) (Kd.R_V (Kd.R_tight rfl (HO153.out)))).2.2; have h2_ := Kd.F_take (m := ((l0.length : Int) : Int).toNat) h_ KL37.out; rw [← Ny168.out] at h2_; exact Kd.V_mk HC171.out h2_))
        rintro e w38 ⟨v174, rfl, ho0, hb⟩
        refine ⟨_, rfl, ?_⟩
        have n0_ := Aside0.mk (Kd.R_below (by (with_reducible repeat (first | apply Kd.R_alloc | apply Kd.R_drewN | apply Kd.R_drew)); exact HO153.out) hb)
        have n1_ := Aside0.mk (Kd.V_below (by (with_reducible repeat (first | apply Kd.V_alloc | apply Kd.V_drewN | apply Kd.V_drew)); exact HO160.out) hb)
        have n2_ := Aside0.mk (Kd.V_below (by (with_reducible repeat (first | apply Kd.V_alloc | apply Kd.V_drewN | apply Kd.V_drew)); exact HO167.out) hb)
        have n3_ := Aside0.mk (Kd.V_lower (Kd.V_mono (ok' := fun k_ => True) ho0 (fun k_ hk_ => trivial)) (below_size (by repeat (first | (with_reducible first | exact HB.out | apply below_alloc | apply pw_below_drewN | apply below_drew1) | exact HB.out))))
        have n4_ := Aside0.mk (Kd.C_below (by repeat (first | (with_reducible exact HR157.out) | (with_reducible refine Kd.C_alloc ?_ _) | (with_reducible refine Kd.C_drewN ?_ _) | (with_reducible refine Kd.C_drew ?_) | exact HR157.out)) hb)
        have n5_ := Aside0.mk (Kd.C_below (by repeat (first | (with_reducible exact HR164.out) | (with_reducible refine Kd.C_alloc ?_ _) | (with_reducible refine Kd.C_drewN ?_ _) | (with_reducible refine Kd.C_drew ?_) | exact HR164.out)) hb)
        have n6_ := Aside0.mk (Kd.C_below (by repeat (first | (with_reducible exact HR171.out) | (with_reducible refine Kd.C_alloc ?_ _) | (with_reducible refine Kd.C_drewN ?_ _) | (with_reducible refine Kd.C_drew ?_) | exact HR171.out)) hb)
        have n7_ := Aside0.mk (below_step (by repeat (first | (with_reducible first | exact HB.out | apply below_alloc | apply pw_below_drewN | apply below_drew1) | exact HB.out)) hb)
        clear HO153
        clear HO160
        clear HO167
        clear HR157
        clear HR164
        clear HR171
        clear HB
        have HO153 := n0_
        have HO160 := n1_
        have HO167 := n2_
        have HO175 := n3_
        have HR157 := n4_
        have HR164 := n5_
        have HR171 := n6_
        have HB := n7_
        clear n0_ n1_ n2_ n3_ n4_ n5_ n6_ n7_
        (try clear hb)
        (try clear hb2)
        (try clear hk)
        (try clear hi)
        (try clear ho0)
        refine hK.out _ _ trivial (fun hHeld => ?_)
        clear hK K
        refine norm_ (a' := ?_) ?_ ?_
        rotate_left
        ·show Act.put _ (some 46) _ = _
         simp only [Act.put, List.setIfInBounds_toArray, List.set_cons_zero, List.set_cons_succ, i64_w, i32_w]
         rfl
        refine done_ (done_of HT_.out (by kernel_rfl)) ?_
        go_upto_region 9 with (first | ((with_reducible refine gate_callee (f := 10) rfl ?_); refine goesL_ (some 47) rfl rfl Try.func10 (by kernel_rfl) rfl #[.int .i64 3] rfl (by (try simp only [List.map_toArray, List.map_cons, List.map_nil]); first | done | rfl | (simp only [List.length_drop, List.length_take]; rfl)) ?_; (with_reducible refine (cells_New.calls 3 t177 _ A24.out).mono ?_); rintro e w39 ⟨v178, rfl, ho0, hb⟩; refine ⟨_, rfl, ?_⟩; have n0_ := Aside0.mk (Kd.R_elder' (by (with_reducible repeat (first | apply Kd.R_alloc | apply Kd.R_drewN | apply Kd.R_drew)); exact HO153.out) (Kd.R_base ho0) hb); have n1_ := Aside0.mk (Kd.V_elder' (by (with_reducible repeat (first | apply Kd.V_alloc | apply Kd.V_drewN | apply Kd.V_drew)); exact HO160.out) (Kd.R_base ho0) hb); have n2_ := Aside0.mk (Kd.V_elder' (by (with_reducible repeat (first | apply Kd.V_alloc | apply Kd.V_drewN | apply Kd.V_drew)); exact HO167.out) (Kd.R_base ho0) hb); have n3_ := Aside0.mk (Kd.V_elder' (by (with_reducible repeat (first | apply Kd.V_alloc | apply Kd.V_drewN | apply Kd.V_drew)); exact HO175.out) (Kd.R_base ho0) hb); have n4_ := Aside0.mk (Kd.R_lower (Kd.R_new' ho0 (Kd.R_lt (by (with_reducible repeat (first | apply Kd.R_alloc | apply Kd.R_drewN | apply Kd.R_drew)); exact HO153.out))) (below_size (by repeat (first | (with_reducible first | exact HB.out | apply below_alloc | apply pw_below_drewN | apply below_drew1) | exact HB.out)))); have n5_ := Aside0.mk (Kd.C_below (by repeat (first | (with_reducible exact HR157.out) | (with_reducible refine Kd.C_alloc ?_ _) | (with_reducible refine Kd.C_drewN ?_ _) | (with_reducible refine Kd.C_drew ?_) | exact HR157.out)) hb); have n6_ := Aside0.mk (Kd.C_below (by repeat (first | (with_reducible exact HR164.out) | (with_reducible refine Kd.C_alloc ?_ _) | (with_reducible refine Kd.C_drewN ?_ _) | (with_reducible refine Kd.C_drew ?_) | exact HR164.out)) hb); have n7_ := Aside0.mk (Kd.C_below (by repeat (first | (with_reducible exact HR171.out) | (with_reducible refine Kd.C_alloc ?_ _) | (with_reducible refine Kd.C_drewN ?_ _) | (with_reducible refine Kd.C_drew ?_) | exact HR171.out)) hb); have n8_ := Aside0.mk (below_step (by repeat (first | (with_reducible first | exact HB.out | apply below_alloc | apply pw_below_drewN | apply below_drew1) | exact HB.out)) hb); clear HO153; clear HO160; clear HO167; clear HO175; clear HR157; clear HR164; clear HR171; clear HB; have HO153 := n0_; have HO160 := n1_; have HO167 := n2_; have HO175 := n3_; have HO179 := n4_; have HR157 := n5_; have HR164 := n6_; have HR171 := n7_; have HB := n8_; clear n0_ n1_ n2_ n3_ n4_ n5_ n6_ n7_ n8_; (try clear hb); (try clear hb2); (try clear hk); (try clear hi); (try clear ho0)) | ((with_reducible refine gate_callee (f := 10) rfl ?_); refine goesL_ (some 48) rfl rfl Try.func10 (by kernel_rfl) rfl #[.int .i64 3] rfl (by (try simp only [List.map_toArray, List.map_cons, List.map_nil]); first | done | rfl | (simp only [List.length_drop, List.length_take]; rfl)) ?_; (with_reducible refine (cells_New.calls 3 t177 _ A25.out).mono ?_); rintro e w40 ⟨v181, rfl, ho0, hb⟩; refine ⟨_, rfl, ?_⟩; have n0_ := Aside0.mk (Kd.R_elder' (by (with_reducible repeat (first | apply Kd.R_alloc | apply Kd.R_drewN | apply Kd.R_drew)); exact HO153.out) (Kd.R_base ho0) hb); have n1_ := Aside0.mk (Kd.V_elder' (by (with_reducible repeat (first | apply Kd.V_alloc | apply Kd.V_drewN | apply Kd.V_drew)); exact HO160.out) (Kd.R_base ho0) hb); have n2_ := Aside0.mk (Kd.V_elder' (by (with_reducible repeat (first | apply Kd.V_alloc | apply Kd.V_drewN | apply Kd.V_drew)); exact HO167.out) (Kd.R_base ho0) hb); have n3_ := Aside0.mk (Kd.V_elder' (by (with_reducible repeat (first | apply Kd.V_alloc | apply Kd.V_drewN | apply Kd.V_drew)); exact HO175.out) (Kd.R_base ho0) hb); have n4_ := Aside0.mk (Kd.R_elder' (by (with_reducible repeat (first | apply Kd.R_alloc | apply Kd.R_drewN | apply Kd.R_drew)); exact HO179.out) (Kd.R_base ho0) hb); have n5_ := Aside0.mk (Kd.R_lower (Kd.R_new' (Kd.R_new' ho0 (Kd.R_lt (by (with_reducible repeat (first | apply Kd.R_alloc | apply Kd.R_drewN | apply Kd.R_drew)); exact HO153.out))) (Kd.R_lt (by (with_reducible repeat (first | apply Kd.R_alloc | apply Kd.R_drewN | apply Kd.R_drew)); exact HO179.out))) (below_size (by repeat (first | (with_reducible first | exact HB.out | apply below_alloc | apply pw_below_drewN | apply below_drew1) | exact HB.out)))); have n6_ := Aside0.mk (Kd.C_below (by repeat (first | (with_reducible exact HR157.out) | (with_reducible refine Kd.C_alloc ?_ _) | (with_reducible refine Kd.C_drewN ?_ _) | (with_reducible refine Kd.C_drew ?_) | exact HR157.out)) hb); have n7_ := Aside0.mk (Kd.C_below (by repeat (first | (with_reducible exact HR164.out) | (with_reducible refine Kd.C_alloc ?_ _) | (with_reducible refine Kd.C_drewN ?_ _) | (with_reducible refine Kd.C_drew ?_) | exact HR164.out)) hb); have n8_ := Aside0.mk (Kd.C_below (by repeat (first | (with_reducible exact HR171.out) | (with_reducible refine Kd.C_alloc ?_ _) | (with_reducible refine Kd.C_drewN ?_ _) | (with_reducible refine Kd.C_drew ?_) | exact HR171.out)) hb); have n9_ := Aside0.mk (below_step (by repeat (first | (with_reducible first | exact HB.out | apply below_alloc | apply pw_below_drewN | apply below_drew1) | exact HB.out)) hb); clear HO153; clear HO160; clear HO167; clear HO175; clear HO179; clear HR157; clear HR164; clear HR171; clear HB; have HO153 := n0_; have HO160 := n1_; have HO167 := n2_; have HO175 := n3_; have HO179 := n4_; have HO182 := n5_; have HR157 := n6_; have HR164 := n7_; have HR171 := n8_; have HB := n9_; clear n0_ n1_ n2_ n3_ n4_ n5_ n6_ n7_ n8_ n9_; (try clear hb); (try clear hb2); (try clear hk); (try clear hi); (try clear ho0)))
        (try simp only [Act.put, List.setIfInBounds_toArray, List.set_cons_zero, List.set_cons_succ])
        go_cut [56] (fun v56 wc => ∃ (kq : Nat) (x56_25 : Bool), v56 = .bool x56_25 ∧ Aside0 (lodgerlaw02_CellsKeep.j1 kq l0 y151 t177 t177 x56_25 = some r) ∧ Aside0 (kq ≤ kj3) ∧ Aside0 (Kd.R (Kd.int .u64) 23 wc w.heap.size (fun k_ => some k_ ≠ (v178 : Value).ownBlock ∧ some k_ ≠ (v181 : Value).ownBlock) (.slice Ao32 y151.length co32) y151) ∧ Aside0 (Kd.R (Kd.int .u64) 23 wc w.heap.size (fun k_ => some k_ ≠ ((.slice Ao32 y151.length co32) : Value).ownBlock ∧ some k_ ≠ (v181 : Value).ownBlock) v178 t177) ∧ Aside0 (Kd.R (Kd.int .u64) 23 wc w.heap.size (fun k_ => some k_ ≠ ((.slice Ao32 y151.length co32) : Value).ownBlock ∧ some k_ ≠ (v178 : Value).ownBlock) v181 t177) ∧ Aside0 (Kd.C (Kd.int .u64) wc Ao32 y154.length y154) ∧ Aside0 (Kd.C (Kd.int .u64) wc Ao32 y161.length y161) ∧ Aside0 (Kd.C (Kd.int .u64) wc Ao32 y168.length y168) ∧ Aside0 (Below w.heap.size w wc))
        case first =>
         have H := HC26.out
         clear HC26
         by_cases c41 : (t177.length : Int) = 3
         ·rw [if_pos c41] at H
          have c41b0 : ((t177.length : Int) == 3) = true := beq_iff_eq.mpr c41
          have c41b1 : ((t177.length : Int) != 3) = false := bne_eq_false_iff_eq.mpr c41
          clear c41
          (first | rw [c41b0] | (simp only [i64_w, i32_w]; rw [c41b0]) | skip)
          have H' := Aside0.mk H
          clear H
          obtain ⟨Ao42, co42, eo42⟩ := Kd.R_slice HO179.out
          subst eo42
          obtain ⟨Ao43, co43, eo43⟩ := Kd.R_slice HO182.out
          subst eo43
          go_wp2
          go_meet
          case rel => exact ⟨_, (((t177.length : Int) == 3)), (by first | rfl | (simp; done) | (simp [*]; done)), H', ⟨by have := HJ3.out; first | omega | exact Nat.le_refl _⟩, ⟨by (with_reducible repeat (first | apply Kd.R_alloc | apply Kd.R_drewN | apply Kd.R_drew)); exact Kd.R_mono HO153.out (fun _ hk => ⟨hk.1.2, hk.2⟩)⟩, ⟨by (with_reducible repeat (first | apply Kd.R_alloc | apply Kd.R_drewN | apply Kd.R_drew)); exact Kd.R_mono HO179.out (fun _ hk => ⟨hk.1.2, hk.2⟩)⟩, ⟨by (with_reducible repeat (first | apply Kd.R_alloc | apply Kd.R_drewN | apply Kd.R_drew)); exact Kd.R_mono HO182.out (fun _ hk => ⟨hk.1.2, hk.2⟩)⟩, ⟨by repeat (first | (with_reducible exact HR157.out) | (with_reducible refine Kd.C_alloc ?_ _) | (with_reducible refine Kd.C_drewN ?_ _) | (with_reducible refine Kd.C_drew ?_) | exact HR157.out)⟩, ⟨by repeat (first | (with_reducible exact HR164.out) | (with_reducible refine Kd.C_alloc ?_ _) | (with_reducible refine Kd.C_drewN ?_ _) | (with_reducible refine Kd.C_drew ?_) | exact HR164.out)⟩, ⟨by repeat (first | (with_reducible exact HR171.out) | (with_reducible refine Kd.C_alloc ?_ _) | (with_reducible refine Kd.C_drewN ?_ _) | (with_reducible refine Kd.C_drew ?_) | exact HR171.out)⟩, ⟨by repeat (first | (with_reducible first | exact HB.out | apply below_alloc | apply pw_below_drewN | apply below_drew1) | exact HB.out)⟩⟩
         ·rw [if_neg c41] at H
          have c41b0 : ((t177.length : Int) == 3) = false := beq_eq_false_iff_ne.mpr c41
          have c41b1 : ((t177.length : Int) != 3) = true := bne_iff_ne.mpr c41
          (first | rw [c41b0] | (simp only [i64_w, i32_w]; rw [c41b0]) | skip)
          have H' := Aside0.mk H
          clear H
          obtain ⟨Ao44, co44, eo44⟩ := Kd.R_slice HO179.out
          subst eo44
          go_wp2
          go_meet
          case rel => exact ⟨_, (false), (by first | rfl | (simp; done) | (simp [*]; done)), H', ⟨by have := HJ3.out; first | omega | exact Nat.le_refl _⟩, ⟨by (with_reducible repeat (first | apply Kd.R_alloc | apply Kd.R_drewN | apply Kd.R_drew)); exact Kd.R_mono HO153.out (fun _ hk => ⟨hk.1.2, hk.2⟩)⟩, ⟨by (with_reducible repeat (first | apply Kd.R_alloc | apply Kd.R_drewN | apply Kd.R_drew)); exact Kd.R_mono HO179.out (fun _ hk => ⟨hk.1.2, hk.2⟩)⟩, ⟨by (with_reducible repeat (first | apply Kd.R_alloc | apply Kd.R_drewN | apply Kd.R_drew)); exact Kd.R_mono HO182.out (fun _ hk => ⟨hk.1.2, hk.2⟩)⟩, ⟨by repeat (first | (with_reducible exact HR157.out) | (with_reducible refine Kd.C_alloc ?_ _) | (with_reducible refine Kd.C_drewN ?_ _) | (with_reducible refine Kd.C_drew ?_) | exact HR157.out)⟩, ⟨by repeat (first | (with_reducible exact HR164.out) | (with_reducible refine Kd.C_alloc ?_ _) | (with_reducible refine Kd.C_drewN ?_ _) | (with_reducible refine Kd.C_drew ?_) | exact HR164.out)⟩, ⟨by repeat (first | (with_reducible exact HR171.out) | (with_reducible refine Kd.C_alloc ?_ _) | (with_reducible refine Kd.C_drewN ?_ _) | (with_reducible refine Kd.C_drew ?_) | exact HR171.out)⟩, ⟨by repeat (first | (with_reducible first | exact HB.out | apply below_alloc | apply pw_below_drewN | apply below_drew1) | exact HB.out)⟩⟩
        case rest =>
         clear HC26
         try clear c1
         try clear c2
         try clear p2
         try clear c3
         try clear q3
         try clear c4
         try clear c5
         try clear c6
         try clear c7
         try clear c8
         try clear c9
         try clear c10
         try clear c12
         try clear c13
         try clear c14
         try clear c14b0
         try clear c14b1
         try clear c15
         try clear c15b0
         try clear c15b1
         try clear c17
         try clear c17b0
         try clear c18
         try clear c18b0
         try clear c20
         try clear c20b0
         try clear c21
         try clear c21b0
         try clear q31
         try clear q34
         try clear q37
         try clear c41
         try clear c41b0
         try clear c41b1
         try clear p2
         try clear q31
         try clear q34
         try clear q37
         obtain ⟨kq, x56_25, rfl, HA, HJ25, HO_7, HO_8, HO_9, HR157, HR164, HR171, HB⟩ := hcut
         cases kq with
         | zero => exact absurd HA.out (by simp [lodgerlaw02_CellsKeep.j1])
         | succ kj25 =>
          have H := HA.out
          clear HA
          simp only [lodgerlaw02_CellsKeep.j1] at H
          by_cases c45 : x56_25 = true
          ·subst c45
           have H1 : (if 0 < (t177.length : Int) then (if 0 < (t177.length : Int) then (if (rd t177 0) = 0 then (if 0 ≤ (l0.length : Int) then (if (l0.length : Int) ≤ (y151.length : Int) then ((lodgerref02_Same.f kj25 (y151.take ((l0.length : Int) : Int).toNat) l0).bind fun t189 => (if t189 = true then (if (l0.length : Int) < (y151.length : Int) then (some ((rd y151 (l0.length : Int)) == 77)) else (none)) else (some false))) else (none)) else (none)) else (some false)) else (none)) else (none)) = some r := by rw [if_pos rfl] at H; exact H
           clear H
           have H := H1
           clear H1
           by_cases c46 : 0 < (t177.length : Int)
           ·rw [if_pos c46] at H
            have c46b0 : decide (0 < (t177.length : Int)) = true := decide_eq_true c46
            have c46b1 : decide (0 < t177.length) = true := decide_eq_true (by omega)
            clear c46
            obtain ⟨y183, hy183⟩ : ∃ y_ : List Int, y_ = (t177.set (0 : Int).toNat 5) := ⟨_, rfl⟩
            replace H : (if 0 < (t177.length : Int) then (if (rd t177 0) = 0 then (if 0 ≤ (l0.length : Int) then (if (l0.length : Int) ≤ (y151.length : Int) then ((lodgerref02_Same.f kj25 (y151.take ((l0.length : Int) : Int).toNat) l0).bind fun t189 => (if t189 = true then (if (l0.length : Int) < (y151.length : Int) then (some ((rd y151 (l0.length : Int)) == 77)) else (none)) else (some false))) else (none)) else (none)) else (some false)) else (none)) = some r := by first | (rw [hy183]; with_reducible exact H) | (have H2_ := (Option.bind_some _ _).symm.trans H; rw [hy183]; with_reducible exact H2_) | (have H2_ := (Option.bind_some _ _).symm.trans H; with_reducible exact H2_) | with_reducible exact H | (rw [hy183]; exact H) | exact H
            have Ny183 := Aside0.mk hy183
            clear hy183
            by_cases c48 : 0 < (t177.length : Int)
            ·rw [if_pos c48] at H
             have c48b0 : decide (0 < (t177.length : Int)) = true := decide_eq_true c48
             have c48b1 : decide (0 < t177.length) = true := decide_eq_true (by omega)
             clear c48
             by_cases c49 : (rd t177 0) = 0
             ·rw [if_pos c49] at H
              have c49b0 : ((rd t177 0) == 0) = true := beq_iff_eq.mpr c49
              have c49b1 : ((rd t177 0) != 0) = false := bne_eq_false_iff_eq.mpr c49
              clear c49
              by_cases c50 : 0 ≤ (l0.length : Int)
              ·rw [if_pos c50] at H
               have c50b0 := eq_true c50
               have c50b1 : decide (0 ≤ (l0.length : Int)) = true := decide_eq_true c50
               clear c50
               by_cases c51 : (l0.length : Int) ≤ (y151.length : Int)
               ·rw [if_pos c51] at H
                have c51b0 := eq_true c51
                have c51b1 : decide ((l0.length : Int) ≤ (y151.length : Int)) = true := decide_eq_true c51
                clear c51
                obtain ⟨y185, hy185⟩ : ∃ y_ : List Int, y_ = (y151.take ((l0.length : Int) : Int).toNat) := ⟨_, rfl⟩
                replace H : ((lodgerref02_Same.f kj25 y185 l0).bind fun t189 => (if t189 = true then (if (l0.length : Int) < (y151.length : Int) then (some ((rd y151 (l0.length : Int)) == 77)) else (none)) else (some false))) = some r := by first | (rw [hy185]; with_reducible exact H) | (have H2_ := (Option.bind_some _ _).symm.trans H; rw [hy185]; with_reducible exact H2_) | (have H2_ := (Option.bind_some _ _).symm.trans H; with_reducible exact H2_) | with_reducible exact H | (rw [hy185]; exact H) | exact H
                have Ny185 := Aside0.mk hy185
                clear hy185
                replace H := Option.bind_eq_some_iff.mp H
                obtain ⟨t189, A520, H⟩ := H
                replace H : (if t189 = true then (if (l0.length : Int) < (y151.length : Int) then (some ((rd y151 (l0.length : Int)) == 77)) else (none)) else (some false)) = some r := H
                have A52 := Aside0.mk A520
                clear A520
                by_cases c53 : t189 = true
                ·subst c53
                 have H1 : (if (l0.length : Int) < (y151.length : Int) then (some ((rd y151 (l0.length : Int)) == 77)) else (none)) = some r := by rw [if_pos rfl] at H; exact H
                 clear H
                 have H := H1
                 clear H1
                 by_cases c54 : (l0.length : Int) < (y151.length : Int)
                 ·rw [if_pos c54] at H
                  have c54b0 : decide ((l0.length : Int) < (y151.length : Int)) = true := decide_eq_true c54
                  have c54b1 : decide (l0.length < y151.length) = true := decide_eq_true (Int.ofNat_lt.mp c54)
                  clear c54
                  first | (exfalso; rw [hr_.out] at H; exact absurd (Option.some.inj H) (by decide)) | (try clear hr_)
                  all_goals
                   obtain rfl := Option.some.inj H
                   have p47 : 0 ≤ (0 : Int) := (by omega)
                   have q47 : (0 : Int) < ((t177.length : Int) : Int) := od_
                   have qi47 : (0 < t177.length) = True := eq_true (by omega)
                   obtain ⟨go47, co47, eo47, gb47, gl47, cl47, HG47⟩ := Kd.R_form HO_8.out (by omega)
                   (first | cases eo47 | (injection eo47 with ea_ en_ ec_; (first | subst ea_ | (injection ea_ with ea_; subst ea_)); subst ec_; clear en_))
                   have GB47 := Aside0.mk gb47
                   have GG47 := Aside0.mk HG47
                   clear gb47 gl47 HG47
                   obtain ⟨hx47_0, hf47_0⟩ := Kd.R_celln 0 HO_8.out (0 : Int) p47 q47
                   (try rw [show ((0 : Int)).toNat = 0 from rfl] at hx47_0)
                   (try simp only [Nat.reduceMul, Nat.zero_mul, Nat.zero_add, Nat.reduceAdd] at hx47_0)
                   (try rw [show ((0 : Int)).toNat = 0 from rfl] at hf47_0)
                   (try simp only [Nat.reduceMul, Nat.zero_mul, Nat.zero_add, Nat.reduceAdd] at hf47_0)
                   replace p47 := eq_true p47
                   replace q47 := eq_true q47
                   have HP55 := Kd.R_putg HO_8.out (0 : Int) 5
                   go_wp2_with (first | ((with_reducible refine gate_store (t := 23) (p := 58) rfl ?_); refine store_event (t := 23) (p := 58) (v := ?vo_w56) (w1 := (wc.setCell ⟨go47, (0 : Int).toNat, none⟩ (.int .u64 5))) ?hg ?ho ?hn ?hr ?_; (case ho => rfl); (case hg => rfl); (case hn => rfl); (case hr => first | (go_simp; done) | (go_simp; rfl)); intro w56 hw; have hg : wc.grownBy w56 (some go47) := (by rw [hw]; exact HP55.2); have hp_ : Kd.R (Kd.int .u64) 23 w56 w.heap.size (fun k_ => some k_ ≠ (.slice Ao32 y151.length co32 : Value).ownBlock ∧ some k_ ≠ (v181 : Value).ownBlock) (.slice (some ⟨go47, 0, none⟩) t177.length co47) y183 := (by rw [hw, Ny183.out]; exact HP55.1); clear HP55; have n0_ := Aside0.mk (Kd.R_after (v := (.slice (some ⟨go47, 0, none⟩) t177.length co47)) (v1 := (.slice (some ⟨go47, 0, none⟩) t177.length co47)) (ok := (fun k_ => some k_ ≠ (v181 : Value).ownBlock)) (by (with_reducible repeat (first | apply Kd.R_alloc | apply Kd.R_drewN | apply Kd.R_drew)); exact Kd.R_mono HO_7.out (fun _ hk => ⟨hk.2, hk.1⟩)) hg (.inl rfl)); have n1_ := Aside0.mk (hp_); have n2_ := Aside0.mk (Kd.R_after (v := (.slice (some ⟨go47, 0, none⟩) t177.length co47)) (v1 := (.slice (some ⟨go47, 0, none⟩) t177.length co47)) (ok := (fun k_ => some k_ ≠ (.slice Ao32 y151.length co32 : Value).ownBlock)) (by (with_reducible repeat (first | apply Kd.R_alloc | apply Kd.R_drewN | apply Kd.R_drew)); exact HO_9.out) hg (.inl rfl)); have n3_ := Aside0.mk ((by rw [hw]; exact below_set (HB.out) GB47.out : Below w.heap.size w w56)); clear HO_7; clear HO_8; clear HO_9; clear HB; have HO_7 := n0_; have HO_8 := n1_; have HO_9 := n2_; have HB := n3_; clear n0_ n1_ n2_ n3_; clear hg hw hp_; obtain ⟨Ao57, co57, eo57⟩ := Kd.R_slice HO_9.out; subst eo57; have p184 : 0 ≤ (0 : Int) := (by omega); have q184 : 0 < (t177.length : Int) := od_; obtain ⟨ad184, e184, hx184_0⟩ := Kd.at_int (Kd.R_reads' HO_9.out).2.2 0 p184 q184; cases e184; have qi184 : (0 < t177.length) = True := eq_true (by omega); (try rw [show ((0 : Int)).toNat = 0 from rfl] at hx184_0); (try rw [Addr.add_zero'] at hx184_0); replace p184 := eq_true p184; replace q184 := eq_true q184; (try clear hcut31); (try clear hcut34); (try clear hcut37); have q58 : ((l0.length : Int) : Int) ≤ ((y151.length : Int) : Int) := od_; obtain ⟨i058, hi058, _, hsz58, _⟩ := info_parts info23; have hroom58 : y151.length ≤ co32 := (Kd.R_reads' HO_7.out).2.1; have hC58 : Kd.C (Kd.int .u64) _ Ao32 y151.length y151 := (Kd.R_reads' HO_7.out).2.2; have hcut58 := cut_to (P := Try.prog) 22 23 .i64 Try.underlying22 hi058 Ao32 y151.length co32 (l0.length : Int) od_ q58 hroom58; have hr58 := Kd.C_take (m := ((l0.length : Int) : Int).toNat) hC58 (by omega); have hy58 : y185.length = ((l0.length : Int) : Int).toNat := (by rw [Ny185.out, List.length_take]; omega); rw [← Ny185.out] at hr58; rw [← hy58] at hcut58; have HR188 := Aside0.mk hr58; have HC188 := Aside0.mk (show y185.length ≤ co32 from by omega); clear hr58 hC58 hroom58 hi058 hsz58; have KY58 := Aside0.mk hy58; clear hy58; have KL58 := Aside0.mk (show ((l0.length : Int) : Int).toNat ≤ y151.length from by omega); replace q58 := eq_true q58) | ((with_reducible refine gate_callee (f := 11) rfl ?_); refine goesL_ (some 68) rfl rfl Try.func11 (by kernel_rfl) rfl #[.slice Ao32 y185.length co32, .slice A0 l0.length c0] rfl (by (try simp only [List.map_toArray, List.map_cons, List.map_nil]); first | done | rfl | (simp only [List.length_drop, List.length_take]; rfl)) ?_; (with_reducible refine (lodgerref02_Same.calls kj25 _ _ y185 _ _ l0 true _ ?side1 ?side2 ?side3 ?side4 A52.out).mono ?_); (case side1 => repeat (first | exact (by repeat (first | (with_reducible exact HR188.out) | (with_reducible refine Kd.C_alloc ?_ _) | (with_reducible refine Kd.C_drewN ?_ _) | (with_reducible refine Kd.C_drew ?_) | exact HR188.out)) | (with_reducible refine Kd.C_alloc ?_ _) | (with_reducible refine Kd.C_drewN ?_ _) | (with_reducible refine Kd.C_drew ?_))); (case side2 => exact HC188.out); (case side3 => repeat (first | exact (Kd.C_below HR0.out HB.out) | (with_reducible refine Kd.C_alloc ?_ _) | (with_reducible refine Kd.C_drewN ?_ _) | (with_reducible refine Kd.C_drew ?_))); (case side4 => exact HC0.out); rintro e w' ⟨rfl, ⟨nd, rfl⟩⟩; refine ⟨_, rfl, ?_⟩; have p190 : 0 ≤ ((l0.length : Int) : Int) := od_; have q190 : (l0.length : Int) < (y151.length : Int) := od_; obtain ⟨ad190, e190, hx190_0⟩ := Kd.at_int (Kd.R_reads' HO_7.out).2.2 (l0.length : Int) p190 q190; cases e190; (try simp only [Go.IntWalk.toNatUp] at hx190_0); replace p190 := eq_true p190; replace q190 := eq_true q190))
                   go_ret
                   exact ⟨by first | rfl | (simp [errW_none, errW_some] <;> rfl) | (simp [*, errW_none, errW_some] <;> rfl), by repeat (first | (with_reducible first | exact HB.out | apply below_alloc | apply pw_below_drewN | apply below_drew1) | exact HB.out)⟩
                 ·rw [if_neg c54] at H
                  exact absurd H (by simp)
                ·replace c53 := Bool.eq_false_iff.mpr c53
                 subst c53
                 have H1 : (some false) = some r := by rw [if_neg (show ¬ (false = true) by decide)] at H; exact H
                 rw [hr_.out] at H1
                 exact absurd (Option.some.inj H1) (by decide)
               ·rw [if_neg c51] at H
                exact absurd H (by simp)
              ·rw [if_neg c50] at H
               exact absurd H (by simp)
             ·rw [if_neg c49] at H
              rw [hr_.out] at H
              exact absurd (Option.some.inj H) (by decide)
            ·rw [if_neg c48] at H
             exact absurd H (by simp)
           ·rw [if_neg c46] at H
            exact absurd H (by simp)
          ·replace c45 := Bool.eq_false_iff.mpr c45
           subst c45
           have H1 : (if 0 ≤ (l0.length : Int) then (if (l0.length : Int) ≤ (y151.length : Int) then ((lodgerref02_Same.f kj25 (y151.take ((l0.length : Int) : Int).toNat) l0).bind fun t195 => (if t195 = true then (if (l0.length : Int) < (y151.length : Int) then (some ((rd y151 (l0.length : Int)) == 77)) else (none)) else (some false))) else (none)) else (none)) = some r := by rw [if_neg (show ¬ (false = true) by decide)] at H; exact H
           clear H
           have H := H1
           clear H1
           by_cases c66 : 0 ≤ (l0.length : Int)
           ·rw [if_pos c66] at H
            have c66b0 := eq_true c66
            have c66b1 : decide (0 ≤ (l0.length : Int)) = true := decide_eq_true c66
            clear c66
            by_cases c67 : (l0.length : Int) ≤ (y151.length : Int)
            ·rw [if_pos c67] at H
             have c67b0 := eq_true c67
             have c67b1 : decide ((l0.length : Int) ≤ (y151.length : Int)) = true := decide_eq_true c67
             clear c67
             obtain ⟨y191, hy191⟩ : ∃ y_ : List Int, y_ = (y151.take ((l0.length : Int) : Int).toNat) := ⟨_, rfl⟩
             replace H : ((lodgerref02_Same.f kj25 y191 l0).bind fun t195 => (if t195 = true then (if (l0.length : Int) < (y151.length : Int) then (some ((rd y151 (l0.length : Int)) == 77)) else (none)) else (some false))) = some r := by first | (rw [hy191]; with_reducible exact H) | (have H2_ := (Option.bind_some _ _).symm.trans H; rw [hy191]; with_reducible exact H2_) | (have H2_ := (Option.bind_some _ _).symm.trans H; with_reducible exact H2_) | with_reducible exact H | (rw [hy191]; exact H) | exact H
             have Ny191 := Aside0.mk hy191
             clear hy191
             replace H := Option.bind_eq_some_iff.mp H
             obtain ⟨t195, A680, H⟩ := H
             replace H : (if t195 = true then (if (l0.length : Int) < (y151.length : Int) then (some ((rd y151 (l0.length : Int)) == 77)) else (none)) else (some false)) = some r := H
             have A68 := Aside0.mk A680
             clear A680
             by_cases c69 : t195 = true
             ·subst c69
              have H1 : (if (l0.length : Int) < (y151.length : Int) then (some ((rd y151 (l0.length : Int)) == 77)) else (none)) = some r := by rw [if_pos rfl] at H; exact H
              clear H
              have H := H1
              clear H1
              by_cases c70 : (l0.length : Int) < (y151.length : Int)
              ·rw [if_pos c70] at H
               have c70b0 : decide ((l0.length : Int) < (y151.length : Int)) = true := decide_eq_true c70
               have c70b1 : decide (l0.length < y151.length) = true := decide_eq_true (Int.ofNat_lt.mp c70)
               clear c70
               first | (exfalso; rw [hr_.out] at H; exact absurd (Option.some.inj H) (by decide)) | (try clear hr_)
               all_goals
                obtain rfl := Option.some.inj H
                (try clear hcut31)
                (try clear hcut34)
                (try clear hcut37)
                (try clear hcut58)
                (try clear hcut62)
                have q71 : ((l0.length : Int) : Int) ≤ ((y151.length : Int) : Int) := od_
                obtain ⟨i071, hi071, _, hsz71, _⟩ := info_parts info23
                have hroom71 : y151.length ≤ co32 := (Kd.R_reads' HO_7.out).2.1
                have hC71 : Kd.C (Kd.int .u64) _ Ao32 y151.length y151 := (Kd.R_reads' HO_7.out).2.2
                have hcut71 := cut_to (P := Try.prog) 22 23 .i64 Try.underlying22 hi071 Ao32 y151.length co32 (l0.length : Int) od_ q71 hroom71
                have hr71 := Kd.C_take (m := ((l0.length : Int) : Int).toNat) hC71 (by omega)
                have hy71 : y191.length = ((l0.length : Int) : Int).toNat := (by rw [Ny191.out, List.length_take]; omega)
                rw [← Ny191.out] at hr71
                rw [← hy71] at hcut71
                have HR194 := Aside0.mk hr71
                have HC194 := Aside0.mk (show y191.length ≤ co32 from by omega)
                clear hr71 hC71 hroom71 hi071 hsz71
                have KY71 := Aside0.mk hy71
                clear hy71
                have KL71 := Aside0.mk (show ((l0.length : Int) : Int).toNat ≤ y151.length from by omega)
                replace q71 := eq_true q71
                go_wp2_with (first | ((with_reducible refine gate_callee (f := 11) rfl ?_); refine goesL_ (some 68) rfl rfl Try.func11 (by kernel_rfl) rfl #[.slice Ao32 y191.length co32, .slice A0 l0.length c0] rfl (by (try simp only [List.map_toArray, List.map_cons, List.map_nil]); first | done | rfl | (simp only [List.length_drop, List.length_take]; rfl)) ?_; (with_reducible refine (lodgerref02_Same.calls kj25 _ _ y191 _ _ l0 true _ ?side1 ?side2 ?side3 ?side4 A68.out).mono ?_); (case side1 => repeat (first | exact (by repeat (first | (with_reducible exact HR194.out) | (with_reducible refine Kd.C_alloc ?_ _) | (with_reducible refine Kd.C_drewN ?_ _) | (with_reducible refine Kd.C_drew ?_) | exact HR194.out)) | (with_reducible refine Kd.C_alloc ?_ _) | (with_reducible refine Kd.C_drewN ?_ _) | (with_reducible refine Kd.C_drew ?_))); (case side2 => exact HC194.out); (case side3 => repeat (first | exact (Kd.C_below HR0.out HB.out) | (with_reducible refine Kd.C_alloc ?_ _) | (with_reducible refine Kd.C_drewN ?_ _) | (with_reducible refine Kd.C_drew ?_))); (case side4 => exact HC0.out); rintro e w' ⟨rfl, ⟨nd, rfl⟩⟩; refine ⟨_, rfl, ?_⟩; have p196 : 0 ≤ ((l0.length : Int) : Int) := od_; have q196 : (l0.length : Int) < (y151.length : Int) := od_; obtain ⟨ad196, e196, hx196_0⟩ := Kd.at_int (Kd.R_reads' HO_7.out).2.2 (l0.length : Int) p196 q196; cases e196; (try simp only [Go.IntWalk.toNatUp] at hx196_0); replace p196 := eq_true p196; replace q196 := eq_true q196))
                go_ret
                exact ⟨by first | rfl | (simp [errW_none, errW_some] <;> rfl) | (simp [*, errW_none, errW_some] <;> rfl), by repeat (first | (with_reducible first | exact HB.out | apply below_alloc | apply pw_below_drewN | apply below_drew1) | exact HB.out)⟩
              ·rw [if_neg c70] at H
               exact absurd H (by simp)
             ·replace c69 := Bool.eq_false_iff.mpr c69
              subst c69
              have H1 : (some false) = some r := by rw [if_neg (show ¬ (false = true) by decide)] at H; exact H
              rw [hr_.out] at H1
              exact absurd (Option.some.inj H1) (by decide)
            ·rw [if_neg c67] at H
             exact absurd H (by simp)
           ·rw [if_neg c66] at H
            exact absurd H (by simp)
       ·rw [if_neg c15] at H
        exact absurd H (by simp)
      ·rw [if_neg c14] at H
       exact absurd H (by simp)
     ·rw [if_neg c13] at H
      exact absurd H (by simp)
    ·rw [if_neg c12] at H
     exact absurd H (by simp)

/-- THE ONE PURE STATEMENT of lodgerlaw02_CellsKeep: yours. -/
def lodgerlaw02_CellsKeep.Pure : Prop := ∀ (l0 : List Int) (a1 : Int) (a2 : Int), l0.length ≤ maxLen → l0.length * 8 ≤ 140737488351232 → (∀ x ∈ l0, (Lit.int .u64 x).wf = true) → (Lit.int .i64 a1).wf = true → (Lit.int .u64 a2).wf = true → ∃ k, lodgerlaw02_CellsKeep.f k l0 a1 a2 = some true
theorem lodgerlaw02_CellsKeep.walk (P : lodgerlaw02_CellsKeep.Pure) (a0 : Option Addr) (len0 cap0 : Nat) (z0 : List Int) (a1 : Int) (a2 : Int) (w : World) (w0 : (a0 = none ∧ len0 = 0 ∧ cap0 = 0 ∧ z0 = []) ∨ ∃ x, a0 = some x ∧ len0 ≤ cap0 ∧ cap0 ≤ maxLen ∧ z0.length = cap0 ∧ (∀ i, i < z0.length → w.cell? (x.add i) = some (.int .u64 (z0.getD i 0))) ∧ ∀ n ∈ z0, (Lit.int .u64 n).wf = true) (y0 : len0 * 8 ≤ 140737488351232) (w1 : (Lit.int .i64 a1).wf = true) (w2 : (Lit.int .u64 a2).wf = true) :
  Calls Try.prog 3 #[.slice a0 len0 cap0, .int .i64 a1, .int .u64 a2] w fun e w' => e = .returned (.bool true) ∧ Below w.heap.size w w' := by
 obtain ⟨l0, rfl, hr0, hm0, hw0, hc0⟩ := ReadsInt.ofRowC w0
 obtain ⟨k, h⟩ := P l0 a1 a2 hm0 y0 hw0 w1 w2
 refine (lodgerlaw02_CellsKeep.calls k _ _ l0 a1 a2 true w (Kd.C_of_reads (d := (0 : Int)) (h1 := fun _ => rfl) hr0) hc0 rfl h).mono ?_
 rintro e w' ⟨rfl, hd⟩
 exact ⟨rfl, hd⟩

end Go.Proofs.Ytmchledhamhlgaa.PCellsKeep
