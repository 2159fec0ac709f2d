/- The walk of QueueOrder, part of it: what the Go functions answer; no condition. -/
import Derived.Test.YtpkomlobikmkkaaQQueueOrderx0
import Derived.Test.YtpkomlobikmkkaaQQueueOrderx1
namespace Go.Proofs.Ytpkomlobikmkkaa.PQueueOrder
open Go.RowKit Go.Proofs.YtpkomlobikmkkaaW.PrintWords Go.Proofs.YtpkomlobikmkkaaW.PrintLast Go.Proofs.YtpkomlobikmkkaaW.PrintMore
attribute [local go_sem] max2_int min2_int max_two min_two max_three min_three max_four min_four   -- for this text's walks alone
set_option linter.unusedVariables false
set_option linter.unusedSimpArgs false

/-! ### lodgerlaw03_QueueOrder: function 10 -/
mutual
def lodgerlaw03_QueueOrder.j0 : Nat → Int → List Int → Bool → Option (Bool)
  | 0, _, _, _ => none
  | k + 1, x0, x1, x24 => if x24 = true then ((lodgerlaw03_awake.f).bind fun t197 => (some t197)) else ((queue_New.f (wrap64 (1 + (wrap64 (Int.tmod x0 64))))).bind fun bt198 => (lodgerlaw03_QueueOrder.l0 k x0 x1 ([] : List Int) 0 false 0 bt198.1 bt198.2.1 bt198.2.2.1))
def lodgerlaw03_QueueOrder.l0 : Nat → Int → List Int → List Int → Int → Bool → Int → Int → List Int → Bool → Option (Bool)
  | 0, _, _, _, _, _, _, _, _, _ => none
  | k + 1, x0, x1, x7, x8, x9, x10, x205000, x205001, x205002 => if x10 < (x1.length : Int) then (if 0 ≤ x10 then (if (Int.tmod (wrap64 (rd x1 x10)) 50) = 0 then ((queue_Close.f x205000 x205001 x205002).bind fun bt212 => (lodgerlaw03_QueueOrder.l0 k x0 x1 x7 x8 true (wrap64 (x10 + 1)) bt212.1 bt212.2.1 bt212.2.2)) else (if (wrap64 (rd x1 x10)) > 0 then ((queue_Put.f x205000 x205001 x205002 (wrap64 (rd x1 x10))).bind fun bt217 => (if (x9 != (bt217.2.2.2 == 12)) = true then (lodgerlaw03_QueueOrder.j2 k x0 x1 x7 x8 x9 x10 (wrap64 (rd x1 x10)) bt217.2.2.2 true bt217.1 bt217.2.1 bt217.2.2.1) else (if x9 = true then (lodgerlaw03_QueueOrder.j2 k x0 x1 x7 x8 x9 x10 (wrap64 (rd x1 x10)) bt217.2.2.2 ((bt217.2.2.2 == 0) != false) bt217.1 bt217.2.1 bt217.2.2.1) else (if (((wrap64 ((x7.length : Int) - x8)) == (wrap64 (1 + (wrap64 (Int.tmod x0 64))))) != (bt217.2.2.2 == 10)) = true then (lodgerlaw03_QueueOrder.j2 k x0 x1 x7 x8 x9 x10 (wrap64 (rd x1 x10)) bt217.2.2.2 true bt217.1 bt217.2.1 bt217.2.2.1) else (lodgerlaw03_QueueOrder.j2 k x0 x1 x7 x8 x9 x10 (wrap64 (rd x1 x10)) bt217.2.2.2 ((bt217.2.2.2 == 0) != (!((wrap64 ((x7.length : Int) - x8)) == (wrap64 (1 + (wrap64 (Int.tmod x0 64))))))) bt217.1 bt217.2.1 bt217.2.2.1))))) else ((queue_Take.f x205000 x205001 x205002).bind fun bt227 => (if (bt227.2.2.2.2 != (decide (x8 < (x7.length : Int)))) = true then (lodgerlaw03_QueueOrder.j3 k x0 x1 x7 x8 x9 x10 bt227.2.2.2.2 true bt227.1 bt227.2.1 bt227.2.2.1) else (if bt227.2.2.2.2 = true then (if 0 ≤ x8 then (if x8 < (x7.length : Int) then (lodgerlaw03_QueueOrder.j3 k x0 x1 x7 x8 x9 x10 bt227.2.2.2.2 (bt227.2.2.2.1 != (rd x7 x8)) bt227.1 bt227.2.1 bt227.2.2.1) else (none)) else (none)) else (lodgerlaw03_QueueOrder.j3 k x0 x1 x7 x8 x9 x10 bt227.2.2.2.2 false bt227.1 bt227.2.1 bt227.2.2.1)))))) else (none)) else (if 0 ≤ x8 then (if x8 ≤ (x7.length : Int) then ((lodgerref03_Ints.f k x205001 (x7.drop (x8 : Int).toNat)).bind fun t209 => (if t209 = true then ((queue_May.f x205000 x205001 x205002).bind fun t210 => (some t210)) else (some false))) else (none)) else (none))
def lodgerlaw03_QueueOrder.j2 : Nat → Int → List Int → List Int → Int → Bool → Int → Int → Int → Bool → Int → List Int → Bool → Option (Bool)
  | 0, _, _, _, _, _, _, _, _, _, _, _, _ => none
  | k + 1, x0, x1, x7, x8, x9, x10, x11, x13, x91, x224000, x224001, x224002 => if x91 = true then (some false) else (if x13 = 0 then (if x7.length < 17592186044416 then (lodgerlaw03_QueueOrder.l0 k x0 x1 (x7 ++ [x11]) x8 x9 (wrap64 (x10 + 1)) x224000 x224001 x224002) else (none)) else (lodgerlaw03_QueueOrder.l0 k x0 x1 x7 x8 x9 (wrap64 (x10 + 1)) x224000 x224001 x224002))
def lodgerlaw03_QueueOrder.j3 : Nat → Int → List Int → List Int → Int → Bool → Int → Bool → Bool → Int → List Int → Bool → Option (Bool)
  | 0, _, _, _, _, _, _, _, _, _, _, _ => none
  | k + 1, x0, x1, x7, x8, x9, x10, x17, x121, x235000, x235001, x235002 => if x121 = true then (some false) else (if x17 = true then ((queue_Ends.f x235000 x235001 x235002).bind fun t236 => (if x9 = true then (if (t236 != ((wrap64 (x8 + 1)) == (x7.length : Int))) = true then (some false) else (lodgerlaw03_QueueOrder.l0 k x0 x1 x7 (wrap64 (x8 + 1)) x9 (wrap64 (x10 + 1)) x235000 x235001 x235002)) else (if (t236 != false) = true then (some false) else (lodgerlaw03_QueueOrder.l0 k x0 x1 x7 (wrap64 (x8 + 1)) x9 (wrap64 (x10 + 1)) x235000 x235001 x235002)))) else ((queue_Ends.f x235000 x235001 x235002).bind fun t237 => (if x9 = true then (if (t237 != (x8 == (x7.length : Int))) = true then (some false) else (lodgerlaw03_QueueOrder.l0 k x0 x1 x7 x8 x9 (wrap64 (x10 + 1)) x235000 x235001 x235002)) else (if (t237 != false) = true then (some false) else (lodgerlaw03_QueueOrder.l0 k x0 x1 x7 x8 x9 (wrap64 (x10 + 1)) x235000 x235001 x235002)))))
end
def lodgerlaw03_QueueOrder.f (k : Nat) (a0 : Int) (l1 : List Int) : Option (Bool) := (lodgerlaw03_awake.f).bind fun t196 => (if t196 = true then (lodgerlaw03_QueueOrder.j0 k a0 l1 (decide ((l1.length : Int) > 300))) else (lodgerlaw03_QueueOrder.j0 k a0 l1 true))
theorem lodgerlaw03_QueueOrder.mono_l : ∀ k, (∀ y0 y1 y2, LeO (lodgerlaw03_QueueOrder.j0 k y0 y1 y2) (lodgerlaw03_QueueOrder.j0 (k + 1) y0 y1 y2)) ∧ (∀ y0 y1 y2 y3 y4 y5 y6 y7 y8, LeO (lodgerlaw03_QueueOrder.l0 k y0 y1 y2 y3 y4 y5 y6 y7 y8) (lodgerlaw03_QueueOrder.l0 (k + 1) y0 y1 y2 y3 y4 y5 y6 y7 y8)) ∧ (∀ y0 y1 y2 y3 y4 y5 y6 y7 y8 y9 y10 y11, LeO (lodgerlaw03_QueueOrder.j2 k y0 y1 y2 y3 y4 y5 y6 y7 y8 y9 y10 y11) (lodgerlaw03_QueueOrder.j2 (k + 1) y0 y1 y2 y3 y4 y5 y6 y7 y8 y9 y10 y11)) ∧ (∀ y0 y1 y2 y3 y4 y5 y6 y7 y8 y9 y10, LeO (lodgerlaw03_QueueOrder.j3 k y0 y1 y2 y3 y4 y5 y6 y7 y8 y9 y10) (lodgerlaw03_QueueOrder.j3 (k + 1) y0 y1 y2 y3 y4 y5 y6 y7 y8 y9 y10))
  | 0 => ⟨fun _ _ _ r h => by simp [lodgerlaw03_QueueOrder.j0] at h, fun _ _ _ _ _ _ _ _ _ r h => by simp [lodgerlaw03_QueueOrder.l0] at h, fun _ _ _ _ _ _ _ _ _ _ _ _ r h => by simp [lodgerlaw03_QueueOrder.j2] at h, fun _ _ _ _ _ _ _ _ _ _ _ r h => by simp [lodgerlaw03_QueueOrder.j3] at h⟩
  | k + 1 => by
    obtain ⟨ih0, ih1, ih2, ih3⟩ := lodgerlaw03_QueueOrder.mono_l k
    refine ⟨?_, ?_, ?_, ?_⟩
    · intro y0 y1 y2
      unfold lodgerlaw03_QueueOrder.j0
      repeat' first
      | (with_reducible exact ih0 _ _ _)
      | (with_reducible exact ih1 _ _ _ _ _ _ _ _ _)
      | (with_reducible exact ih2 _ _ _ _ _ _ _ _ _ _ _ _)
      | (with_reducible exact ih3 _ _ _ _ _ _ _ _ _ _ _)
      | (with_reducible exact lodgerref03_Ints.mono _ _ _)
      | (with_reducible exact LeO.refl _)
      | (with_reducible exact LeO.none _)
      | (with_reducible refine LeO.ite ?_ ?_)
      | (with_reducible refine LeO.bind ?_ (fun _ => ?_))
      | exact ih0 _ _ _
      | exact ih1 _ _ _ _ _ _ _ _ _
      | exact ih2 _ _ _ _ _ _ _ _ _ _ _ _
      | exact ih3 _ _ _ _ _ _ _ _ _ _ _
      | exact lodgerref03_Ints.mono _ _ _
      | exact LeO.none _
      | refine LeO.ite ?_ ?_
      | refine LeO.bind ?_ (fun _ => ?_)
    · intro y0 y1 y2 y3 y4 y5 y6 y7 y8
      unfold lodgerlaw03_QueueOrder.l0
      repeat' first
      | (with_reducible exact ih0 _ _ _)
      | (with_reducible exact ih1 _ _ _ _ _ _ _ _ _)
      | (with_reducible exact ih2 _ _ _ _ _ _ _ _ _ _ _ _)
      | (with_reducible exact ih3 _ _ _ _ _ _ _ _ _ _ _)
      | (with_reducible exact lodgerref03_Ints.mono _ _ _)
      | (with_reducible exact LeO.refl _)
      | (with_reducible exact LeO.none _)
      | (with_reducible refine LeO.ite ?_ ?_)
      | (with_reducible refine LeO.bind ?_ (fun _ => ?_))
      | exact ih0 _ _ _
      | exact ih1 _ _ _ _ _ _ _ _ _
      | exact ih2 _ _ _ _ _ _ _ _ _ _ _ _
      | exact ih3 _ _ _ _ _ _ _ _ _ _ _
      | exact lodgerref03_Ints.mono _ _ _
      | exact LeO.none _
      | refine LeO.ite ?_ ?_
      | refine LeO.bind ?_ (fun _ => ?_)
    · intro y0 y1 y2 y3 y4 y5 y6 y7 y8 y9 y10 y11
      unfold lodgerlaw03_QueueOrder.j2
      repeat' first
      | (with_reducible exact ih0 _ _ _)
      | (with_reducible exact ih1 _ _ _ _ _ _ _ _ _)
      | (with_reducible exact ih2 _ _ _ _ _ _ _ _ _ _ _ _)
      | (with_reducible exact ih3 _ _ _ _ _ _ _ _ _ _ _)
      | (with_reducible exact lodgerref03_Ints.mono _ _ _)
      | (with_reducible exact LeO.refl _)
      | (with_reducible exact LeO.none _)
      | (with_reducible refine LeO.ite ?_ ?_)
      | (with_reducible refine LeO.bind ?_ (fun _ => ?_))
      | exact ih0 _ _ _
      | exact ih1 _ _ _ _ _ _ _ _ _
      | exact ih2 _ _ _ _ _ _ _ _ _ _ _ _
      | exact ih3 _ _ _ _ _ _ _ _ _ _ _
      | exact lodgerref03_Ints.mono _ _ _
      | exact LeO.none _
      | refine LeO.ite ?_ ?_
      | refine LeO.bind ?_ (fun _ => ?_)
    · intro y0 y1 y2 y3 y4 y5 y6 y7 y8 y9 y10
      unfold lodgerlaw03_QueueOrder.j3
      repeat' first
      | (with_reducible exact ih0 _ _ _)
      | (with_reducible exact ih1 _ _ _ _ _ _ _ _ _)
      | (with_reducible exact ih2 _ _ _ _ _ _ _ _ _ _ _ _)
      | (with_reducible exact ih3 _ _ _ _ _ _ _ _ _ _ _)
      | (with_reducible exact lodgerref03_Ints.mono _ _ _)
      | (with_reducible exact LeO.refl _)
      | (with_reducible exact LeO.none _)
      | (with_reducible refine LeO.ite ?_ ?_)
      | (with_reducible refine LeO.bind ?_ (fun _ => ?_))
      | exact ih0 _ _ _
      | exact ih1 _ _ _ _ _ _ _ _ _
      | exact ih2 _ _ _ _ _ _ _ _ _ _ _ _
      | exact ih3 _ _ _ _ _ _ _ _ _ _ _
      | exact lodgerref03_Ints.mono _ _ _
      | exact LeO.none _
      | refine LeO.ite ?_ ?_
      | refine LeO.bind ?_ (fun _ => ?_)
theorem lodgerlaw03_QueueOrder.mono : ∀ a0 a1 k, LeO (lodgerlaw03_QueueOrder.f k a0 a1) (lodgerlaw03_QueueOrder.f (k + 1) a0 a1) := by
  intro a0 a1 k
  obtain ⟨ih0, ih1, ih2, ih3⟩ := lodgerlaw03_QueueOrder.mono_l k
  unfold lodgerlaw03_QueueOrder.f
  repeat' first
      | (with_reducible exact ih0 _ _ _)
      | (with_reducible exact ih1 _ _ _ _ _ _ _ _ _)
      | (with_reducible exact ih2 _ _ _ _ _ _ _ _ _ _ _ _)
      | (with_reducible exact ih3 _ _ _ _ _ _ _ _ _ _ _)
      | (with_reducible exact lodgerref03_Ints.mono _ _ _)
      | (with_reducible exact LeO.refl _)
      | (with_reducible exact LeO.none _)
      | (with_reducible refine LeO.ite ?_ ?_)
      | (with_reducible refine LeO.bind ?_ (fun _ => ?_))
      | exact ih0 _ _ _
      | exact ih1 _ _ _ _ _ _ _ _ _
      | exact ih2 _ _ _ _ _ _ _ _ _ _ _ _
      | exact ih3 _ _ _ _ _ _ _ _ _ _ _
      | exact lodgerref03_Ints.mono _ _ _
      | exact LeO.none _
      | refine LeO.ite ?_ ?_
      | refine LeO.bind ?_ (fun _ => ?_)
def lodgerlaw03_QueueOrder.T30 : Bool × List (List Nat × List Nat) := (true, [([], []), ([0], [0]), ([], []), ([], []), ([2, 3], [2, 3]), ([1, 4], [1, 4]), ([5, 5], [5]), ([6], [6]), ([7, 6, 6], [6, 7]), ([6, 8], [6, 8]), ([9, 8, 0, 1, 2, 3, 4, 5, 6, 7, 8, 9], [9])])
def lodgerlaw03_QueueOrder.B30 : List Nat := [0, 1, 0, 0, 12, 31, 63, 127, 255, 511, 1023]
theorem lodgerlaw03_QueueOrder.tab30 : rtab .any (opsOf Try.f10 30) = lodgerlaw03_QueueOrder.T30 := by kernel_rfl
theorem lodgerlaw03_QueueOrder.bits30 : waitsOk lodgerlaw03_QueueOrder.T30.2 lodgerlaw03_QueueOrder.B30 = true := by kernel_rfl
set_option maxHeartbeats 8000000 in
set_option maxRecDepth 100000 in
theorem lodgerlaw03_QueueOrder.calls (k : Nat) (a0 : Int) (A1 : Option Addr) (c1 : Nat) (l1 : List Int) (r : Bool) (w : World) (hr1 : Kd.C (Kd.int .i16) w A1 l1.length l1) (hc1 : l1.length ≤ c1) (hr_ : r = true) (h : lodgerlaw03_QueueOrder.f k a0 l1 = some r) :
    Calls Try.prog 10 #[.int .u8 a0, .slice A1 l1.length c1] w fun e w' => e = .returned (.bool r) ∧ Below w.heap.size w w' := by
  have hu40 := Try.underlying40
  have HR1 := Aside0.mk hr1
  have HC1 := Aside0.mk hc1
  clear hr1 hc1
  have HB := Aside0.mk (Below.refl w.heap.size w)
  replace hr_ := Aside0.mk hr_
  have H : ((lodgerlaw03_awake.f).bind fun t196 => (if t196 = true then (lodgerlaw03_QueueOrder.j0 k a0 l1 (decide ((l1.length : Int) > 300))) else (lodgerlaw03_QueueOrder.j0 k a0 l1 true))) = some r := h
  clear h
  have HC3 := Aside0.mk H
  clear H
  go_enter Try.func10, Try.ntmps10
  go_upto_region 1 with (fail)
  go_cut [24] (fun v24 wc => ∃ (kq : Nat) (x24_2 : Bool), v24 = .bool x24_2 ∧ Aside0 (lodgerlaw03_QueueOrder.j0 kq a0 l1 x24_2 = some r) ∧ Aside0 (kq ≤ k) ∧ Aside0 (Below w.heap.size w wc))
  case first =>
    have H := HC3.out
    clear HC3
    replace H := Option.bind_eq_some_iff.mp H
    obtain ⟨t196, A40, H⟩ := H
    replace H : (if t196 = true then (lodgerlaw03_QueueOrder.j0 k a0 l1 (decide ((l1.length : Int) > 300))) else (lodgerlaw03_QueueOrder.j0 k a0 l1 true)) = some r := H
    have A4 := Aside0.mk A40
    clear A40
    by_cases c5 : t196 = true
    · subst c5
      have H1 : (lodgerlaw03_QueueOrder.j0 k a0 l1 (decide ((l1.length : Int) > 300))) = some r := by rw [if_pos rfl] at H; exact H
      clear H
      have H := H1
      clear H1
      have H' := Aside0.mk H
      clear H
      go_wp2_with (first | ((with_reducible refine gate_callee (f := 23) rfl ?_); refine goesL_ (some 18) rfl rfl Try.func23 (by kernel_rfl) rfl #[] rfl (by (try simp only [List.map_toArray, List.map_cons, List.map_nil]); first | done | rfl | (simp only [List.length_drop, List.length_take]; rfl)) ?_; (with_reducible refine (lodgerlaw03_awake.calls  true _ A4.out).mono ?_); rintro e w6 ⟨rfl, hb⟩; refine ⟨_, rfl, ?_⟩; have n0_ := Aside0.mk (below_step (by repeat (first | (with_reducible first | exact HB.out | apply below_alloc | apply pw_below_drewN | apply below_drew1) | exact HB.out)) hb); clear HB; have HB := n0_; clear n0_; (try clear hb); (try clear hb2); (try clear hk); (try clear hi)))
      go_meet
      case rel => exact ⟨_, (decide ((l1.length : Int) > 300)), (by first | rfl | (simp; done) | (simp [*]; done)), H', ⟨by first | omega | exact Nat.le_refl _⟩, ⟨by repeat (first | (with_reducible first | exact HB.out | apply below_alloc | apply pw_below_drewN | apply below_drew1) | exact HB.out)⟩⟩
    · replace c5 := Bool.eq_false_iff.mpr c5
      subst c5
      have H1 : (lodgerlaw03_QueueOrder.j0 k a0 l1 true) = some r := by rw [if_neg (show ¬ (false = true) by decide)] at H; exact H
      clear H
      have H := H1
      clear H1
      have H' := Aside0.mk H
      clear H
      go_wp2_with (first | ((with_reducible refine gate_callee (f := 23) rfl ?_); refine goesL_ (some 18) rfl rfl Try.func23 (by kernel_rfl) rfl #[] rfl (by (try simp only [List.map_toArray, List.map_cons, List.map_nil]); first | done | rfl | (simp only [List.length_drop, List.length_take]; rfl)) ?_; (with_reducible refine (lodgerlaw03_awake.calls  false _ A4.out).mono ?_); rintro e w7 ⟨rfl, hb⟩; refine ⟨_, rfl, ?_⟩; have n0_ := Aside0.mk (below_step (by repeat (first | (with_reducible first | exact HB.out | apply below_alloc | apply pw_below_drewN | apply below_drew1) | exact HB.out)) hb); clear HB; have HB := n0_; clear n0_; (try clear hb); (try clear hb2); (try clear hk); (try clear hi)))
      go_meet
      case rel => exact ⟨_, (true), (by first | rfl | (simp; done) | (simp [*]; done)), H', ⟨by first | omega | exact Nat.le_refl _⟩, ⟨by repeat (first | (with_reducible first | exact HB.out | apply below_alloc | apply pw_below_drewN | apply below_drew1) | exact HB.out)⟩⟩
  case rest =>
    clear HC3
    try clear c1
    try clear c2
    try clear p2
    try clear c5
    obtain ⟨kq, x24_2, rfl, HA, HJ2, HB⟩ := hcut
    cases kq with
    | zero => exact absurd HA.out (by simp [lodgerlaw03_QueueOrder.j0])
    | succ kj2 =>
      have H := HA.out
      clear HA
      simp only [lodgerlaw03_QueueOrder.j0] at H
      by_cases c8 : x24_2 = true
      · subst c8
        have H1 : ((lodgerlaw03_awake.f).bind fun t197 => (some t197)) = some r := by rw [if_pos rfl] at H; exact H
        clear H
        have H := H1
        clear H1
        replace H := Option.bind_eq_some_iff.mp H
        obtain ⟨t197, A90, H⟩ := H
        replace H : (some t197) = some r := H
        have A9 := Aside0.mk A90
        clear A90
        first | (exfalso; rw [hr_.out] at H; exact absurd (Option.some.inj H) (by decide)) | (try clear hr_)
        all_goals
          obtain rfl := Option.some.inj H
          go_wp2_with (first | ((with_reducible refine gate_callee (f := 23) rfl ?_); refine goesL_ (some 25) rfl rfl Try.func23 (by kernel_rfl) rfl #[] rfl (by (try simp only [List.map_toArray, List.map_cons, List.map_nil]); first | done | rfl | (simp only [List.length_drop, List.length_take]; rfl)) ?_; (with_reducible refine (lodgerlaw03_awake.calls  t197 _ A9.out).mono ?_); rintro e w10 ⟨rfl, hb⟩; refine ⟨_, rfl, ?_⟩; have n0_ := Aside0.mk (below_step (by repeat (first | (with_reducible first | exact HB.out | apply below_alloc | apply pw_below_drewN | apply below_drew1) | exact HB.out)) hb); clear HB; have HB := n0_; clear n0_; (try clear hb); (try clear hb2); (try clear hk); (try clear hi)))
          go_ret
          exact ⟨by first | rfl | (simp [errW_none, errW_some] <;> rfl) | (simp [*, errW_none, errW_some] <;> rfl), by repeat (first | (with_reducible first | exact HB.out | apply below_alloc | apply pw_below_drewN | apply below_drew1) | exact HB.out)⟩
      · replace c8 := Bool.eq_false_iff.mpr c8
        subst c8
        have H1 : ((queue_New.f (wrap64 (1 + (wrap64 (Int.tmod a0 64))))).bind fun bt198 => (lodgerlaw03_QueueOrder.l0 kj2 a0 l1 ([] : List Int) 0 false 0 bt198.1 bt198.2.1 bt198.2.2.1)) = some r := by rw [if_neg (show ¬ (false = true) by decide)] at H; exact H
        clear H
        have H := H1
        clear H1
        replace H := Option.bind_eq_some_iff.mp H
        obtain ⟨⟨t198, t199, t202, t203⟩, A110, H⟩ := H
        replace H : (lodgerlaw03_QueueOrder.l0 kj2 a0 l1 ([] : List Int) 0 false 0 t198 t199 t202) = some r := H
        have A11 := Aside0.mk A110
        clear A110
        have H' := Aside0.mk H
        clear H
        go_wp2_with (first | ((with_reducible refine gate_callee (f := 26) rfl ?_); refine goesL_ (some 31) rfl rfl Try.func26 (by kernel_rfl) rfl #[.int .i64 (wrap64 (1 + (wrap64 (Int.tmod a0 64))))] rfl (by (try simp only [List.map_toArray, List.map_cons, List.map_nil]); first | done | rfl | (simp only [List.length_drop, List.length_take]; rfl)) ?_; (with_reducible refine (queue_New.calls (wrap64 (1 + (wrap64 (Int.tmod a0 64)))) t198 t199 t202 t203 _ A11.out).mono ?_); rintro e w12 ⟨v200, rfl, ho0, hb⟩; refine ⟨_, rfl, ?_⟩; have n0_ := Aside0.mk (Kd.R_lower ho0 (below_size (by repeat (first | (with_reducible first | exact HB.out | apply below_alloc | apply pw_below_drewN | apply below_drew1) | exact HB.out)))); have n1_ := Aside0.mk (below_step (by repeat (first | (with_reducible first | exact HB.out | apply below_alloc | apply pw_below_drewN | apply below_drew1) | exact HB.out)) hb); clear HB; have HO201 := n0_; have HB := n1_; clear n0_ n1_; (try clear hb); (try clear hb2); (try clear hk); (try clear hi); (try clear ho0)) | ((with_reducible refine gate_dst (N := 5) rfl ?_); (try (refine gate_guard (by rfl) ?_; dsimp only)); refine box_event ?hg (N := 5) ?hd (cs := #[.int .i64 0, .slice none 0 0, .bool false]) (t := 40) ?hr ?_; (case hd => rfl); (case hg => rfl); (case hr => first | (go_simp; done) | (go_simp; rfl)); intro gb204 hg w13 hbox hb; have n0_ := Aside0.mk (Kd.R_below (by (with_reducible repeat (first | apply Kd.R_alloc | apply Kd.R_drewN | apply Kd.R_drew)); exact HO201.out) hb); have n1_ := Aside0.mk (below_step (by repeat (first | (with_reducible first | exact HB.out | apply below_alloc | apply pw_below_drewN | apply below_drew1) | exact HB.out)) hb); have n2_ := Aside0.mk (hbox); have n3_ := Aside0.mk ((by rw [hg]; exact (below_size (by repeat (first | (with_reducible first | exact HB.out | apply below_alloc | apply pw_below_drewN | apply below_drew1) | exact HB.out))) : w.heap.size ≤ gb204)); have n4_ := Aside0.mk ((by rw [hg]; exact (below_size (by repeat (first | (with_reducible first | exact HB.out | apply below_alloc | apply pw_below_drewN | apply below_drew1) | exact HB.out))) : w.heap.size ≤ gb204)); clear HO201; clear HB; have HO201 := n0_; have HB := n1_; have BK204 := n2_; have GW204 := n3_; have GE204 := n4_; clear n0_ n1_ n2_ n3_ n4_; clear hb hbox hg; have hcz14_0 : w13.cell? ⟨gb204, 0, none⟩ = some (.int .i64 0) := (blk_cell BK204.out 0).trans rfl; have hcz14_1 : w13.cell? ⟨gb204, 1, none⟩ = some (.slice none 0 0) := (blk_cell BK204.out 1).trans rfl; have hcz14_2 : w13.cell? ⟨gb204, 2, none⟩ = some (.bool false) := (blk_cell BK204.out 2).trans rfl; have hfz14_0 := blk_frozen BK204.out 0; have hfz14_1 := blk_frozen BK204.out 1; have hfz14_2 := blk_frozen BK204.out 2; obtain ⟨Ao15, co15, eo15⟩ := Kd.R_slice HO201.out; subst eo15))
        go_loopg [7, 8, 9, 10] kj2 (fun kq v7 v8 v9 v10 w' => ∃ (x7_2 : List Int) (x8_2 : Int) (x9_2 : Bool) (x10_2 : Int) (x205000_2 : Int) (x205001_2 : List Int) (x205002_2 : Bool) (u205001 : Value), v8 = .int .i64 x8_2 ∧ v9 = .bool x9_2 ∧ v10 = .int .i64 x10_2 ∧ Aside0 (lodgerlaw03_QueueOrder.l0 kq a0 l1 x7_2 x8_2 x9_2 x10_2 x205000_2 x205001_2 x205002_2 = some r) ∧ Aside0 (kq ≤ kj2) ∧ Aside0 (Kd.R (Kd.int .i64) 3 w' w.heap.size (fun _ => True) v7 x7_2) ∧ Aside0 (Kd.V (Kd.int .i64) 3 w' w.heap.size (fun k_ => some k_ ≠ (v7 : Value).ownBlock ∧ k_ ≠ gb204) u205001 x205001_2) ∧ Aside0 (w'.heap[gb204]? = some (.cells #[.int .i64 x205000_2, u205001, .bool x205002_2] 40 (0, 0))) ∧ Aside0 (Below w.heap.size w w'))
        case atStart => exact ⟨(([] : List Int)), (0), (false), (0), (t198), (t199), (t202), (.slice Ao15 t199.length co15), (by first | rfl | (simp; done) | (simp [*]; done)), (by first | rfl | (simp; done) | (simp [*]; done)), (by first | rfl | (simp; done) | (simp [*]; done)), H', ⟨Nat.le_refl _⟩, ⟨by first | exact Kd.R_nil _ _ _ _ _ | exact Kd.N_nil _ _ _ _ _ | exact Kd.V_nil _ _ _ _ _ | exact Kd.Q_nil _ _ _ _ _ | exact Kd.S_nil _ _ _ _ _⟩, ⟨Kd.R_V (by (with_reducible repeat (first | apply Kd.R_alloc | apply Kd.R_drewN | apply Kd.R_drew)); exact Kd.R_mono (Kd.R_far (p := ⟨gb204, 2, none⟩) (Kd.R_far (p := ⟨gb204, 1, none⟩) (Kd.R_far (p := ⟨gb204, 0, none⟩) (Kd.R_types (Kd.R_types HO201.out BK204.out (by decide)) BK204.out (by decide)) (fun _ hk => hk.2) (.int .i64 t198)) (fun _ hk => hk.2) (.slice Ao15 t199.length co15)) (fun _ hk => hk.2) (.bool t202)) (fun _ hk => ⟨(by simp [Value.ownBlock]), hk.1.2⟩))⟩, ⟨by (with_reducible repeat (first | refine blk_drewN ?_ _ | refine blk_drew ?_ | refine blk_alloc ?_ _)); refine blk_put (cs := #[.int .i64 t198, .slice Ao15 t199.length co15, .bool false]) ?_ 2 _ rfl; (with_reducible repeat (first | refine blk_drewN ?_ _ | refine blk_drew ?_ | refine blk_alloc ?_ _)); refine blk_put (cs := #[.int .i64 t198, .slice none 0 0, .bool false]) ?_ 1 _ rfl; (with_reducible repeat (first | refine blk_drewN ?_ _ | refine blk_drew ?_ | refine blk_alloc ?_ _)); refine blk_put (cs := #[.int .i64 0, .slice none 0 0, .bool false]) ?_ 0 _ rfl; (with_reducible repeat (first | refine blk_drewN ?_ _ | refine blk_drew ?_ | refine blk_alloc ?_ _)); exact BK204.out⟩, ⟨by repeat (first | (with_reducible first | exact HB.out | apply below_alloc | apply pw_below_drewN | apply below_drew1 | refine below_set ?_ GE204.out) | exact HB.out)⟩⟩
        case round =>
          clear H'
          try clear c1
          try clear c2
          try clear p2
          try clear c5
          try clear p6
          try clear c8
          try clear c10
          try clear hcz14_0
          try clear hcz14_1
          try clear hcz14_2
          try clear hfz14_0
          try clear hfz14_1
          try clear hfz14_2
          try clear p2
          obtain ⟨x7_2, x8_2, x9_2, x10_2, x205000_2, x205001_2, x205002_2, u205001, rfl, rfl, rfl, HA, HK2, HO_7, HO_205001, BK204, HB⟩ := hrel
          cases gk with
          | zero => exact absurd HA.out (by simp [lodgerlaw03_QueueOrder.l0])
          | succ k2 =>
            have H := HA.out
            clear HA
            simp only [lodgerlaw03_QueueOrder.l0] at H
            by_cases c16 : x10_2 < (l1.length : Int)
            · rw [if_pos c16] at H
              have c16b0 : decide (x10_2 < (l1.length : Int)) = true := decide_eq_true c16
              clear c16
              by_cases c17 : 0 ≤ x10_2
              · rw [if_pos c17] at H
                have c17b0 : decide (0 ≤ x10_2) = true := decide_eq_true c17
                clear c17
                by_cases c18 : (Int.tmod (wrap64 (rd l1 x10_2)) 50) = 0
                · rw [if_pos c18] at H
                  have c18b0 : ((Int.tmod (wrap64 (rd l1 x10_2)) 50) == 0) = true := beq_iff_eq.mpr c18
                  have c18b1 : ((Int.tmod (wrap64 (rd l1 x10_2)) 50) != 0) = false := bne_eq_false_iff_eq.mpr c18
                  clear c18
                  replace H := Option.bind_eq_some_iff.mp H
                  obtain ⟨⟨t212, t213, t216⟩, A190, H⟩ := H
                  replace H : (lodgerlaw03_QueueOrder.l0 k2 a0 l1 x7_2 x8_2 true (wrap64 (x10_2 + 1)) t212 t213 t216) = some r := H
                  have A19 := Aside0.mk A190
                  clear A190
                  have H' := Aside0.mk H
                  clear H
                  have p211 : 0 ≤ (x10_2 : Int) := of_decide_eq_true (by first | (with_reducible assumption) | assumption)
                  have q211 : x10_2 < (l1.length : Int) := of_decide_eq_true (by first | (with_reducible assumption) | assumption)
                  obtain ⟨ad211, e211, hx211_0⟩ := Kd.at_int HR1.out x10_2 p211 q211
                  cases e211
                  replace hx211_0 := (HB.out.cell (World.block_lt_of_cell? w _ hx211_0)).trans hx211_0
                  replace p211 := eq_true p211
                  replace q211 := eq_true q211
                  have hcz20_0 : wr.cell? ⟨gb204, 0, none⟩ = some (.int .i64 x205000_2) := (blk_cell BK204.out 0).trans rfl
                  have hcz20_1 : wr.cell? ⟨gb204, 1, none⟩ = some (u205001) := (blk_cell BK204.out 1).trans rfl
                  have hcz20_2 : wr.cell? ⟨gb204, 2, none⟩ = some (.bool x205002_2) := (blk_cell BK204.out 2).trans rfl
                  have hfz20_0 := blk_frozen BK204.out 0
                  have hfz20_1 := blk_frozen BK204.out 1
                  have hfz20_2 := blk_frozen BK204.out 2
                  obtain ⟨Ao21, co21, eo21⟩ := Kd.V_slice HO_205001.out
                  subst eo21
                  go_wp2_with (first | ((with_reducible refine gate_callee (f := 32) rfl ?_); refine goesL_ (some 49) rfl rfl Try.func32 (by kernel_rfl) rfl #[.agg #[.int .i64 x205000_2, .slice Ao21 x205001_2.length co21, .bool x205002_2]] rfl (by (try simp only [List.map_toArray, List.map_cons, List.map_nil]); first | done | rfl | (simp only [List.length_drop, List.length_take]; rfl)) ?_; (with_reducible refine (queue_Close.calls x205000_2 _ _ x205001_2 x205002_2 t212 t213 t216 _ ?side1 ?side2 A19.out).mono ?_); (case side1 => repeat (first | exact (Kd.V_reads' HO_205001.out).2.2 | (with_reducible refine Kd.C_alloc ?_ _) | (with_reducible refine Kd.C_drewN ?_ _) | (with_reducible refine Kd.C_drew ?_))); (case side2 => exact (Kd.V_reads' HO_205001.out).2.1); rintro e w22 ⟨v214, rfl, ho0, hb⟩; refine ⟨_, rfl, ?_⟩; have n0_ := Aside0.mk (Kd.R_elder' (by (with_reducible repeat (first | apply Kd.R_alloc | apply Kd.R_drewN | apply Kd.R_drew)); exact HO_7.out) (Kd.R_base ho0) hb); have n1_ := Aside0.mk (Kd.V_elder' (by (with_reducible repeat (first | apply Kd.V_alloc | apply Kd.V_drewN | apply Kd.V_drew)); exact HO_205001.out) (Kd.R_base ho0) hb); have n2_ := Aside0.mk (Kd.R_lower (Kd.R_new' ho0 (Kd.R_lt (by (with_reducible repeat (first | apply Kd.R_alloc | apply Kd.R_drewN | apply Kd.R_drew)); exact HO_7.out))) (below_size (by repeat (first | (with_reducible first | exact HB.out | apply below_alloc | apply pw_below_drewN | apply below_drew1 | refine below_set ?_ GE204.out) | exact HB.out)))); have n3_ := Aside0.mk (blk_below (g := gb204) (o := .cells #[.int .i64 x205000_2, .slice Ao21 x205001_2.length co21, .bool x205002_2] 40 (0, 0)) (by (with_reducible repeat (first | refine blk_drewN ?_ _ | refine blk_drew ?_ | refine blk_alloc ?_ _)); exact BK204.out) hb); have n4_ := Aside0.mk (below_step (by repeat (first | (with_reducible first | exact HB.out | apply below_alloc | apply pw_below_drewN | apply below_drew1 | refine below_set ?_ GE204.out) | exact HB.out)) hb); clear HO_7; clear HO_205001; clear BK204; clear HB; have HO_7 := n0_; have HO_205001 := n1_; have HO215 := n2_; have BK204 := n3_; have HB := n4_; clear n0_ n1_ n2_ n3_ n4_; (try clear hb); (try clear hb2); (try clear hk); (try clear hi); (try clear ho0); have hcz23_0 : w22.cell? ⟨gb204, 0, none⟩ = some (.int .i64 x205000_2) := (blk_cell BK204.out 0).trans rfl; have hcz23_1 : w22.cell? ⟨gb204, 1, none⟩ = some (.slice Ao21 x205001_2.length co21) := (blk_cell BK204.out 1).trans rfl; have hcz23_2 : w22.cell? ⟨gb204, 2, none⟩ = some (.bool x205002_2) := (blk_cell BK204.out 2).trans rfl; have hfz23_0 := blk_frozen BK204.out 0; have hfz23_1 := blk_frozen BK204.out 1; have hfz23_2 := blk_frozen BK204.out 2; obtain ⟨Ao24, co24, eo24⟩ := Kd.R_slice HO215.out; subst eo24))
                  go_roundg k2
                  case measure => have := HJ2.out; have := HK2.out; omega
                  case rel => exact ⟨(x7_2), (x8_2), (true), (wrap64 (x10_2 + 1)), (t212), (t213), (t216), (.slice Ao24 t213.length co24), (by first | rfl | (simp; done) | (simp [*]; done)), (by first | rfl | (simp; done) | (simp [*]; done)), (by first | rfl | (simp; done) | (simp [*]; done)), H', ⟨by have := HJ2.out; have := HK2.out; omega⟩, ⟨by (with_reducible repeat (first | apply Kd.R_alloc | apply Kd.R_drewN | apply Kd.R_drew)); exact Kd.R_mono (Kd.R_far (p := ⟨gb204, 2, none⟩) (Kd.R_far (p := ⟨gb204, 1, none⟩) (Kd.R_far (p := ⟨gb204, 0, none⟩) (Kd.R_types HO_7.out BK204.out (by decide)) (fun _ hk => hk.2) (.int .i64 t212)) (fun _ hk => hk.2) (.slice Ao24 t213.length co24)) (fun _ hk => hk.2) (.bool t216)) (fun _ hk => trivial)⟩, ⟨Kd.R_V (by (with_reducible repeat (first | apply Kd.R_alloc | apply Kd.R_drewN | apply Kd.R_drew)); exact Kd.R_mono (Kd.R_far (p := ⟨gb204, 2, none⟩) (Kd.R_far (p := ⟨gb204, 1, none⟩) (Kd.R_far (p := ⟨gb204, 0, none⟩) (Kd.R_types (Kd.R_types HO215.out BK204.out (by decide)) BK204.out (by decide)) (fun _ hk => hk.2) (.int .i64 t212)) (fun _ hk => hk.2) (.slice Ao24 t213.length co24)) (fun _ hk => hk.2) (.bool t216)) (fun _ hk => ⟨hk.1.1.2, hk.1.2⟩))⟩, ⟨by (with_reducible repeat (first | refine blk_drewN ?_ _ | refine blk_drew ?_ | refine blk_alloc ?_ _)); refine blk_put (cs := #[.int .i64 t212, .slice Ao24 t213.length co24, .bool x205002_2]) ?_ 2 _ rfl; (with_reducible repeat (first | refine blk_drewN ?_ _ | refine blk_drew ?_ | refine blk_alloc ?_ _)); refine blk_put (cs := #[.int .i64 t212, .slice Ao21 x205001_2.length co21, .bool x205002_2]) ?_ 1 _ rfl; (with_reducible repeat (first | refine blk_drewN ?_ _ | refine blk_drew ?_ | refine blk_alloc ?_ _)); refine blk_put (cs := #[.int .i64 x205000_2, .slice Ao21 x205001_2.length co21, .bool x205002_2]) ?_ 0 _ rfl; (with_reducible repeat (first | refine blk_drewN ?_ _ | refine blk_drew ?_ | refine blk_alloc ?_ _)); exact BK204.out⟩, ⟨by repeat (first | (with_reducible first | exact HB.out | apply below_alloc | apply pw_below_drewN | apply below_drew1 | refine below_set ?_ GE204.out) | exact HB.out)⟩⟩
                · rw [if_neg c18] at H
                  have c18b0 : ((Int.tmod (wrap64 (rd l1 x10_2)) 50) == 0) = false := beq_eq_false_iff_ne.mpr c18
                  have c18b1 : ((Int.tmod (wrap64 (rd l1 x10_2)) 50) != 0) = true := bne_iff_ne.mpr c18
                  by_cases c25 : (wrap64 (rd l1 x10_2)) > 0
                  · rw [if_pos c25] at H
                    have c25b0 : decide (0 < (wrap64 (rd l1 x10_2))) = true := decide_eq_true c25
                    clear c25
                    replace H := Option.bind_eq_some_iff.mp H
                    obtain ⟨⟨t217, t218, t221, t222⟩, A260, H⟩ := H
                    replace H : (if (x9_2 != (t222 == 12)) = true then (lodgerlaw03_QueueOrder.j2 k2 a0 l1 x7_2 x8_2 x9_2 x10_2 (wrap64 (rd l1 x10_2)) t222 true t217 t218 t221) else (if x9_2 = true then (lodgerlaw03_QueueOrder.j2 k2 a0 l1 x7_2 x8_2 x9_2 x10_2 (wrap64 (rd l1 x10_2)) t222 ((t222 == 0) != false) t217 t218 t221) else (if (((wrap64 ((x7_2.length : Int) - x8_2)) == (wrap64 (1 + (wrap64 (Int.tmod a0 64))))) != (t222 == 10)) = true then (lodgerlaw03_QueueOrder.j2 k2 a0 l1 x7_2 x8_2 x9_2 x10_2 (wrap64 (rd l1 x10_2)) t222 true t217 t218 t221) else (lodgerlaw03_QueueOrder.j2 k2 a0 l1 x7_2 x8_2 x9_2 x10_2 (wrap64 (rd l1 x10_2)) t222 ((t222 == 0) != (!((wrap64 ((x7_2.length : Int) - x8_2)) == (wrap64 (1 + (wrap64 (Int.tmod a0 64))))))) t217 t218 t221)))) = some r := H
                    have A26 := Aside0.mk A260
                    clear A260
                    have HC27 := Aside0.mk H
                    clear H
                    have p211 : 0 ≤ (x10_2 : Int) := of_decide_eq_true (by first | (with_reducible assumption) | assumption)
                    have q211 : x10_2 < (l1.length : Int) := of_decide_eq_true (by first | (with_reducible assumption) | assumption)
                    obtain ⟨ad211, e211, hx211_0⟩ := Kd.at_int HR1.out x10_2 p211 q211
                    cases e211
                    replace hx211_0 := (HB.out.cell (World.block_lt_of_cell? w _ hx211_0)).trans hx211_0
                    replace p211 := eq_true p211
                    replace q211 := eq_true q211
                    have hcz28_0 : wr.cell? ⟨gb204, 0, none⟩ = some (.int .i64 x205000_2) := (blk_cell BK204.out 0).trans rfl
                    have hcz28_1 : wr.cell? ⟨gb204, 1, none⟩ = some (u205001) := (blk_cell BK204.out 1).trans rfl
                    have hcz28_2 : wr.cell? ⟨gb204, 2, none⟩ = some (.bool x205002_2) := (blk_cell BK204.out 2).trans rfl
                    have hfz28_0 := blk_frozen BK204.out 0
                    have hfz28_1 := blk_frozen BK204.out 1
                    have hfz28_2 := blk_frozen BK204.out 2
                    obtain ⟨Ao29, co29, eo29⟩ := Kd.V_slice HO_205001.out
                    subst eo29
                    go_upto_region 17 with (first | ((with_reducible refine gate_callee (f := 28) rfl ?_); refine goesL_ (some 55) rfl rfl Try.func28 (by kernel_rfl) rfl #[.agg #[.int .i64 x205000_2, .slice Ao29 x205001_2.length co29, .bool x205002_2], .int .i64 (wrap64 (rd l1 x10_2))] rfl (by (try simp only [List.map_toArray, List.map_cons, List.map_nil]); first | done | rfl | (simp only [List.length_drop, List.length_take]; rfl)) ?_; (with_reducible refine (queue_Put.calls x205000_2 (fun k_ => (some k_ ≠ (u7 : Value).ownBlock ∧ k_ ≠ gb204)) _ _ x205001_2 x205002_2 (wrap64 (rd l1 x10_2)) t217 t218 t221 t222 _ ?side1 A26.out).mono ?_); (case side1 => exact HO_205001.out); rintro e w30 ⟨v219, rfl, ho0, hb⟩; refine ⟨_, rfl, ?_⟩; have n0_ := Aside0.mk (Kd.R_below (by (with_reducible repeat (first | apply Kd.R_alloc | apply Kd.R_drewN | apply Kd.R_drew)); exact HO_7.out) hb); have n1_ := Aside0.mk (Kd.V_below (by (with_reducible repeat (first | apply Kd.V_alloc | apply Kd.V_drewN | apply Kd.V_drew)); exact HO_205001.out) hb); have n2_ := Aside0.mk (Kd.V_lower (Kd.V_mono (ok' := fun k_ => some k_ ≠ (u7 : Value).ownBlock ∧ k_ ≠ gb204) ho0 (fun k_ hk_ => ⟨Or.elim hk_ (fun hs_ => hs_.1) (fun hn_ => (Kd.fresh' (Kd.R_lt (by (with_reducible repeat (first | apply Kd.R_alloc | apply Kd.R_drewN | apply Kd.R_drew)); exact HO_7.out)) k_ hn_)), Or.elim hk_ (fun hs_ => hs_.2) (fun hn_ => (Kd.freshB (g := gb204) (o := .cells #[.int .i64 x205000_2, .slice Ao29 x205001_2.length co29, .bool x205002_2] 40 (0, 0)) (by (with_reducible repeat (first | refine blk_drewN ?_ _ | refine blk_drew ?_ | refine blk_alloc ?_ _)); exact BK204.out) k_ hn_))⟩)) (below_size (by repeat (first | (with_reducible first | exact HB.out | apply below_alloc | apply pw_below_drewN | apply below_drew1 | refine below_set ?_ GE204.out) | exact HB.out)))); have n3_ := Aside0.mk (blk_below (g := gb204) (o := .cells #[.int .i64 x205000_2, .slice Ao29 x205001_2.length co29, .bool x205002_2] 40 (0, 0)) (by (with_reducible repeat (first | refine blk_drewN ?_ _ | refine blk_drew ?_ | refine blk_alloc ?_ _)); exact BK204.out) hb); have n4_ := Aside0.mk (below_step (by repeat (first | (with_reducible first | exact HB.out | apply below_alloc | apply pw_below_drewN | apply below_drew1 | refine below_set ?_ GE204.out) | exact HB.out)) hb); clear HO_7; clear HO_205001; clear BK204; clear HB; have HO_7 := n0_; have HO_205001 := n1_; have HO220 := n2_; have BK204 := n3_; have HB := n4_; clear n0_ n1_ n2_ n3_ n4_; (try clear hb); (try clear hb2); (try clear hk); (try clear hi); (try clear ho0)) | ((with_reducible refine gate_dst (N := 12) rfl ?_); (try (refine gate_guard (by rfl) ?_; dsimp only)); refine box_event ?hg (N := 12) ?hd (cs := #[.int .i64 0, .slice none 0 0, .bool false]) (t := 40) ?hr ?_; (case hd => rfl); (case hg => rfl); (case hr => first | (go_simp; done) | (go_simp; rfl)); intro gb223 hg w31 hbox hb; have n0_ := Aside0.mk (Kd.R_below (by (with_reducible repeat (first | apply Kd.R_alloc | apply Kd.R_drewN | apply Kd.R_drew)); exact HO_7.out) hb); have n1_ := Aside0.mk (Kd.V_below (Kd.V_elderB (by (with_reducible repeat (first | apply Kd.V_alloc | apply Kd.V_drewN | apply Kd.V_drew)); exact HO_205001.out) gb223 (Nat.le_of_eq hg.symm)) hb); have n2_ := Aside0.mk (Kd.V_below (Kd.V_elderB (by (with_reducible repeat (first | apply Kd.V_alloc | apply Kd.V_drewN | apply Kd.V_drew)); exact HO220.out) gb223 (Nat.le_of_eq hg.symm)) hb); have n3_ := Aside0.mk (blk_below (g := gb204) (o := .cells #[.int .i64 x205000_2, .slice Ao29 x205001_2.length co29, .bool x205002_2] 40 (0, 0)) (by (with_reducible repeat (first | refine blk_drewN ?_ _ | refine blk_drew ?_ | refine blk_alloc ?_ _)); exact BK204.out) hb); have n4_ := Aside0.mk (below_step (by repeat (first | (with_reducible first | exact HB.out | apply below_alloc | apply pw_below_drewN | apply below_drew1 | refine below_set ?_ GE204.out) | exact HB.out)) hb); have n5_ := Aside0.mk (hbox); have n6_ := Aside0.mk ((by rw [hg]; exact (below_size (by repeat (first | (with_reducible first | exact HB.out | apply below_alloc | apply pw_below_drewN | apply below_drew1 | refine below_set ?_ GE204.out) | exact HB.out))) : w.heap.size ≤ gb223)); have n7_ := Aside0.mk ((by rw [hg]; exact (below_size (by repeat (first | (with_reducible first | exact HB.out | apply below_alloc | apply pw_below_drewN | apply below_drew1 | refine below_set ?_ GE204.out) | exact HB.out))) : w.heap.size ≤ gb223)); have n8_ := Aside0.mk ((by rw [hg]; exact Nat.ne_of_lt (blk_lt (g := gb204) (o := .cells #[.int .i64 x205000_2, .slice Ao29 x205001_2.length co29, .bool x205002_2] 40 (0, 0)) (by (with_reducible repeat (first | refine blk_drewN ?_ _ | refine blk_drew ?_ | refine blk_alloc ?_ _)); exact BK204.out)) : gb204 ≠ gb223)); have n9_ := Aside0.mk ((by rw [hg]; exact Nat.ne_of_gt (blk_lt (g := gb204) (o := .cells #[.int .i64 x205000_2, .slice Ao29 x205001_2.length co29, .bool x205002_2] 40 (0, 0)) (by (with_reducible repeat (first | refine blk_drewN ?_ _ | refine blk_drew ?_ | refine blk_alloc ?_ _)); exact BK204.out)) : gb223 ≠ gb204)); clear HO_7; clear HO_205001; clear HO220; clear BK204; clear HB; have HO_7 := n0_; have HO_205001 := n1_; have HO220 := n2_; have BK204 := n3_; have HB := n4_; have BK223 := n5_; have GW223 := n6_; have GE223 := n7_; have NB204_223 := n8_; have NB223_204 := n9_; clear n0_ n1_ n2_ n3_ n4_ n5_ n6_ n7_ n8_ n9_; clear hb hbox hg; have hnb32 := NB223_204.out; have hnc32 := NB204_223.out; have hcz33_0 : w31.cell? ⟨gb223, 0, none⟩ = some (.int .i64 0) := (blk_cell BK223.out 0).trans rfl; have hcz33_1 : w31.cell? ⟨gb223, 1, none⟩ = some (.slice none 0 0) := (blk_cell BK223.out 1).trans rfl; have hcz33_2 : w31.cell? ⟨gb223, 2, none⟩ = some (.bool false) := (blk_cell BK223.out 2).trans rfl; have hfz33_0 := blk_frozen BK223.out 0; have hfz33_1 := blk_frozen BK223.out 1; have hfz33_2 := blk_frozen BK223.out 2; obtain ⟨Ao34, co34, eo34⟩ := Kd.V_slice HO220.out; subst eo34; obtain ⟨Ao35, co35, eo35⟩ := Kd.R_slice HO_7.out; subst eo35))
                    (try simp only [Act.put, List.setIfInBounds_toArray, List.set_cons_zero, List.set_cons_succ])
                    go_cut [91] (fun v91 wc => ∃ (kq : Nat) (x91_26 : Bool), v91 = .bool x91_26 ∧ Aside0 (lodgerlaw03_QueueOrder.j2 kq a0 l1 x7_2 x8_2 x9_2 x10_2 (wrap64 (rd l1 x10_2)) t222 x91_26 t217 t218 t221 = some r) ∧ Aside0 (kq ≤ k2) ∧ Aside0 (Kd.R (Kd.int .i64) 3 wc w.heap.size (fun _ => True) (.slice Ao35 x7_2.length co35) x7_2) ∧ Aside0 (Kd.V (Kd.int .i64) 3 wc w.heap.size (fun k_ => some k_ ≠ ((.slice Ao35 x7_2.length co35) : Value).ownBlock ∧ k_ ≠ gb204 ∧ k_ ≠ gb223) (.slice Ao29 x205001_2.length co29) x205001_2) ∧ Aside0 (Kd.V (Kd.int .i64) 3 wc w.heap.size (fun k_ => some k_ ≠ ((.slice Ao35 x7_2.length co35) : Value).ownBlock ∧ k_ ≠ gb204 ∧ k_ ≠ gb223) (.slice Ao34 t218.length co34) t218) ∧ Aside0 (wc.heap[gb204]? = some (.cells #[.int .i64 x205000_2, (.slice Ao29 x205001_2.length co29), .bool x205002_2] 40 (0, 0))) ∧ Aside0 (wc.heap[gb223]? = some (.cells #[.int .i64 t217, (.slice Ao34 t218.length co34), .bool t221] 40 (0, 0))) ∧ Aside0 (Below w.heap.size w wc))
                    case first =>
                      have H := HC27.out
                      clear HC27
                      by_cases c36 : (x9_2 != (t222 == 12)) = true
                      · rw [if_pos c36] at H
                        have c36b0 : (x9_2 != (t222 == 12)) = true := c36
                        (try (have c36b1 : decide (x9_2 = (t222 == 12)) = false := by simpa using c36))
                        (try (have c36b2 : (x9_2 == (t222 == 12)) = false := by simpa using c36))
                        (try (have c36b3 : ¬ (x9_2 = (t222 == 12)) := by simpa using c36))
                        clear c36
                        (first | rw [c36b0] | (simp only [i64_w, i32_w]; rw [c36b0]) | skip)
                        have H' := Aside0.mk H
                        clear H
                        go_wp2
                        go_meet
                        case rel => exact ⟨_, (true), (by first | rfl | (simp; done) | (simp [*]; done)), H', ⟨by have := HJ2.out; have := HK2.out; first | omega | exact Nat.le_refl _⟩, ⟨by (with_reducible repeat (first | apply Kd.R_alloc | apply Kd.R_drewN | apply Kd.R_drew)); exact Kd.R_mono (Kd.R_far (p := ⟨gb223, 2, none⟩) (Kd.R_far (p := ⟨gb223, 1, none⟩) (Kd.R_far (p := ⟨gb223, 0, none⟩) (Kd.R_types HO_7.out BK223.out (by decide)) (fun _ hk => hk.2) (.int .i64 t217)) (fun _ hk => hk.2) (.slice Ao34 t218.length co34)) (fun _ hk => hk.2) (.bool t221)) (fun _ hk => trivial)⟩, ⟨by (with_reducible repeat (first | apply Kd.V_alloc | apply Kd.V_drewN | apply Kd.V_drew)); exact Kd.V_mono (Kd.V_far (p := ⟨gb223, 2, none⟩) (Kd.V_far (p := ⟨gb223, 1, none⟩) (Kd.V_far (p := ⟨gb223, 0, none⟩) (Kd.V_mono HO_205001.out (fun k_ hk => (⟨hk, hk.2⟩ : _ ∧ k_ ≠ gb223))) (fun _ hk => hk.2) (.int .i64 t217)) (fun _ hk => hk.2) (.slice Ao34 t218.length co34)) (fun _ hk => hk.2) (.bool t221)) (fun _ hk => ⟨hk.1.1.1, ⟨hk.1.1.2, hk.1.2⟩⟩)⟩, ⟨by (with_reducible repeat (first | apply Kd.V_alloc | apply Kd.V_drewN | apply Kd.V_drew)); exact Kd.V_mono (Kd.V_far (p := ⟨gb223, 2, none⟩) (Kd.V_far (p := ⟨gb223, 1, none⟩) (Kd.V_far (p := ⟨gb223, 0, none⟩) (Kd.V_mono HO220.out (fun k_ hk => (⟨hk, hk.2⟩ : _ ∧ k_ ≠ gb223))) (fun _ hk => hk.2) (.int .i64 t217)) (fun _ hk => hk.2) (.slice Ao34 t218.length co34)) (fun _ hk => hk.2) (.bool t221)) (fun _ hk => ⟨hk.1.1.1, ⟨hk.1.1.2, hk.1.2⟩⟩)⟩, ⟨by (with_reducible repeat (first | refine blk_drewN ?_ _ | refine blk_drew ?_ | refine blk_alloc ?_ _)); refine blk_far ?_ NB204_223.out _; (with_reducible repeat (first | refine blk_drewN ?_ _ | refine blk_drew ?_ | refine blk_alloc ?_ _)); refine blk_far ?_ NB204_223.out _; (with_reducible repeat (first | refine blk_drewN ?_ _ | refine blk_drew ?_ | refine blk_alloc ?_ _)); refine blk_far ?_ NB204_223.out _; (with_reducible repeat (first | refine blk_drewN ?_ _ | refine blk_drew ?_ | refine blk_alloc ?_ _)); exact BK204.out⟩, ⟨by (with_reducible repeat (first | refine blk_drewN ?_ _ | refine blk_drew ?_ | refine blk_alloc ?_ _)); refine blk_put (cs := #[.int .i64 t217, .slice Ao34 t218.length co34, .bool false]) ?_ 2 _ rfl; (with_reducible repeat (first | refine blk_drewN ?_ _ | refine blk_drew ?_ | refine blk_alloc ?_ _)); refine blk_put (cs := #[.int .i64 t217, .slice none 0 0, .bool false]) ?_ 1 _ rfl; (with_reducible repeat (first | refine blk_drewN ?_ _ | refine blk_drew ?_ | refine blk_alloc ?_ _)); refine blk_put (cs := #[.int .i64 0, .slice none 0 0, .bool false]) ?_ 0 _ rfl; (with_reducible repeat (first | refine blk_drewN ?_ _ | refine blk_drew ?_ | refine blk_alloc ?_ _)); exact BK223.out⟩, ⟨by repeat (first | (with_reducible first | exact HB.out | apply below_alloc | apply pw_below_drewN | apply below_drew1 | refine below_set ?_ GE204.out | refine below_set ?_ GE223.out) | exact HB.out)⟩⟩
                      · rw [if_neg c36] at H
                        have c36b0 : (x9_2 != (t222 == 12)) = false := by simpa using c36
                        (try (have c36b1 : decide (x9_2 = (t222 == 12)) = true := by simpa using c36))
                        (try (have c36b2 : (x9_2 == (t222 == 12)) = true := by simpa using c36))
                        clear c36
                        (first | rw [c36b0] | (simp only [i64_w, i32_w]; rw [c36b0]) | skip)
                        by_cases c37 : x9_2 = true
                        · subst c37
                          have H1 : (lodgerlaw03_QueueOrder.j2 k2 a0 l1 x7_2 x8_2 true x10_2 (wrap64 (rd l1 x10_2)) t222 ((t222 == 0) != false) t217 t218 t221) = some r := by rw [if_pos rfl] at H; exact H
                          clear H
                          have H := H1
                          clear H1
                          have H' := Aside0.mk H
                          clear H
                          go_wp2
                          go_meet
                          case rel => exact ⟨_, (((t222 == 0) != false)), (by first | rfl | (simp; done) | (simp [*]; done)), H', ⟨by have := HJ2.out; have := HK2.out; first | omega | exact Nat.le_refl _⟩, ⟨by (with_reducible repeat (first | apply Kd.R_alloc | apply Kd.R_drewN | apply Kd.R_drew)); exact Kd.R_mono (Kd.R_far (p := ⟨gb223, 2, none⟩) (Kd.R_far (p := ⟨gb223, 1, none⟩) (Kd.R_far (p := ⟨gb223, 0, none⟩) (Kd.R_types HO_7.out BK223.out (by decide)) (fun _ hk => hk.2) (.int .i64 t217)) (fun _ hk => hk.2) (.slice Ao34 t218.length co34)) (fun _ hk => hk.2) (.bool t221)) (fun _ hk => trivial)⟩, ⟨by (with_reducible repeat (first | apply Kd.V_alloc | apply Kd.V_drewN | apply Kd.V_drew)); exact Kd.V_mono (Kd.V_far (p := ⟨gb223, 2, none⟩) (Kd.V_far (p := ⟨gb223, 1, none⟩) (Kd.V_far (p := ⟨gb223, 0, none⟩) (Kd.V_mono HO_205001.out (fun k_ hk => (⟨hk, hk.2⟩ : _ ∧ k_ ≠ gb223))) (fun _ hk => hk.2) (.int .i64 t217)) (fun _ hk => hk.2) (.slice Ao34 t218.length co34)) (fun _ hk => hk.2) (.bool t221)) (fun _ hk => ⟨hk.1.1.1, ⟨hk.1.1.2, hk.1.2⟩⟩)⟩, ⟨by (with_reducible repeat (first | apply Kd.V_alloc | apply Kd.V_drewN | apply Kd.V_drew)); exact Kd.V_mono (Kd.V_far (p := ⟨gb223, 2, none⟩) (Kd.V_far (p := ⟨gb223, 1, none⟩) (Kd.V_far (p := ⟨gb223, 0, none⟩) (Kd.V_mono HO220.out (fun k_ hk => (⟨hk, hk.2⟩ : _ ∧ k_ ≠ gb223))) (fun _ hk => hk.2) (.int .i64 t217)) (fun _ hk => hk.2) (.slice Ao34 t218.length co34)) (fun _ hk => hk.2) (.bool t221)) (fun _ hk => ⟨hk.1.1.1, ⟨hk.1.1.2, hk.1.2⟩⟩)⟩, ⟨by (with_reducible repeat (first | refine blk_drewN ?_ _ | refine blk_drew ?_ | refine blk_alloc ?_ _)); refine blk_far ?_ NB204_223.out _; (with_reducible repeat (first | refine blk_drewN ?_ _ | refine blk_drew ?_ | refine blk_alloc ?_ _)); refine blk_far ?_ NB204_223.out _; (with_reducible repeat (first | refine blk_drewN ?_ _ | refine blk_drew ?_ | refine blk_alloc ?_ _)); refine blk_far ?_ NB204_223.out _; (with_reducible repeat (first | refine blk_drewN ?_ _ | refine blk_drew ?_ | refine blk_alloc ?_ _)); exact BK204.out⟩, ⟨by (with_reducible repeat (first | refine blk_drewN ?_ _ | refine blk_drew ?_ | refine blk_alloc ?_ _)); refine blk_put (cs := #[.int .i64 t217, .slice Ao34 t218.length co34, .bool false]) ?_ 2 _ rfl; (with_reducible repeat (first | refine blk_drewN ?_ _ | refine blk_drew ?_ | refine blk_alloc ?_ _)); refine blk_put (cs := #[.int .i64 t217, .slice none 0 0, .bool false]) ?_ 1 _ rfl; (with_reducible repeat (first | refine blk_drewN ?_ _ | refine blk_drew ?_ | refine blk_alloc ?_ _)); refine blk_put (cs := #[.int .i64 0, .slice none 0 0, .bool false]) ?_ 0 _ rfl; (with_reducible repeat (first | refine blk_drewN ?_ _ | refine blk_drew ?_ | refine blk_alloc ?_ _)); exact BK223.out⟩, ⟨by repeat (first | (with_reducible first | exact HB.out | apply below_alloc | apply pw_below_drewN | apply below_drew1 | refine below_set ?_ GE204.out | refine below_set ?_ GE223.out) | exact HB.out)⟩⟩
                        · replace c37 := Bool.eq_false_iff.mpr c37
                          subst c37
                          have H1 : (if (((wrap64 ((x7_2.length : Int) - x8_2)) == (wrap64 (1 + (wrap64 (Int.tmod a0 64))))) != (t222 == 10)) = true then (lodgerlaw03_QueueOrder.j2 k2 a0 l1 x7_2 x8_2 false x10_2 (wrap64 (rd l1 x10_2)) t222 true t217 t218 t221) else (lodgerlaw03_QueueOrder.j2 k2 a0 l1 x7_2 x8_2 false x10_2 (wrap64 (rd l1 x10_2)) t222 ((t222 == 0) != (!((wrap64 ((x7_2.length : Int) - x8_2)) == (wrap64 (1 + (wrap64 (Int.tmod a0 64))))))) t217 t218 t221)) = some r := by rw [if_neg (show ¬ (false = true) by decide)] at H; exact H
                          clear H
                          have H := H1
                          clear H1
                          by_cases c38 : (((wrap64 ((x7_2.length : Int) - x8_2)) == (wrap64 (1 + (wrap64 (Int.tmod a0 64))))) != (t222 == 10)) = true
                          · rw [if_pos c38] at H
                            have c38b0 : (((wrap64 ((x7_2.length : Int) - x8_2)) == (wrap64 (1 + (wrap64 (Int.tmod a0 64))))) != (t222 == 10)) = true := c38
                            (try (have c38b1 : decide (((wrap64 ((x7_2.length : Int) - x8_2)) == (wrap64 (1 + (wrap64 (Int.tmod a0 64))))) = (t222 == 10)) = false := by simpa using c38))
                            (try (have c38b2 : (((wrap64 ((x7_2.length : Int) - x8_2)) == (wrap64 (1 + (wrap64 (Int.tmod a0 64))))) == (t222 == 10)) = false := by simpa using c38))
                            (try (have c38b3 : ¬ (((wrap64 ((x7_2.length : Int) - x8_2)) == (wrap64 (1 + (wrap64 (Int.tmod a0 64))))) = (t222 == 10)) := by simpa using c38))
                            clear c38
                            have H' := Aside0.mk H
                            clear H
                            go_wp2
                            go_meet
                            case rel => exact ⟨_, (true), (by first | rfl | (simp; done) | (simp [*]; done)), H', ⟨by have := HJ2.out; have := HK2.out; first | omega | exact Nat.le_refl _⟩, ⟨by (with_reducible repeat (first | apply Kd.R_alloc | apply Kd.R_drewN | apply Kd.R_drew)); exact Kd.R_mono (Kd.R_far (p := ⟨gb223, 2, none⟩) (Kd.R_far (p := ⟨gb223, 1, none⟩) (Kd.R_far (p := ⟨gb223, 0, none⟩) (Kd.R_types HO_7.out BK223.out (by decide)) (fun _ hk => hk.2) (.int .i64 t217)) (fun _ hk => hk.2) (.slice Ao34 t218.length co34)) (fun _ hk => hk.2) (.bool t221)) (fun _ hk => trivial)⟩, ⟨by (with_reducible repeat (first | apply Kd.V_alloc | apply Kd.V_drewN | apply Kd.V_drew)); exact Kd.V_mono (Kd.V_far (p := ⟨gb223, 2, none⟩) (Kd.V_far (p := ⟨gb223, 1, none⟩) (Kd.V_far (p := ⟨gb223, 0, none⟩) (Kd.V_mono HO_205001.out (fun k_ hk => (⟨hk, hk.2⟩ : _ ∧ k_ ≠ gb223))) (fun _ hk => hk.2) (.int .i64 t217)) (fun _ hk => hk.2) (.slice Ao34 t218.length co34)) (fun _ hk => hk.2) (.bool t221)) (fun _ hk => ⟨hk.1.1.1, ⟨hk.1.1.2, hk.1.2⟩⟩)⟩, ⟨by (with_reducible repeat (first | apply Kd.V_alloc | apply Kd.V_drewN | apply Kd.V_drew)); exact Kd.V_mono (Kd.V_far (p := ⟨gb223, 2, none⟩) (Kd.V_far (p := ⟨gb223, 1, none⟩) (Kd.V_far (p := ⟨gb223, 0, none⟩) (Kd.V_mono HO220.out (fun k_ hk => (⟨hk, hk.2⟩ : _ ∧ k_ ≠ gb223))) (fun _ hk => hk.2) (.int .i64 t217)) (fun _ hk => hk.2) (.slice Ao34 t218.length co34)) (fun _ hk => hk.2) (.bool t221)) (fun _ hk => ⟨hk.1.1.1, ⟨hk.1.1.2, hk.1.2⟩⟩)⟩, ⟨by (with_reducible repeat (first | refine blk_drewN ?_ _ | refine blk_drew ?_ | refine blk_alloc ?_ _)); refine blk_far ?_ NB204_223.out _; (with_reducible repeat (first | refine blk_drewN ?_ _ | refine blk_drew ?_ | refine blk_alloc ?_ _)); refine blk_far ?_ NB204_223.out _; (with_reducible repeat (first | refine blk_drewN ?_ _ | refine blk_drew ?_ | refine blk_alloc ?_ _)); refine blk_far ?_ NB204_223.out _; (with_reducible repeat (first | refine blk_drewN ?_ _ | refine blk_drew ?_ | refine blk_alloc ?_ _)); exact BK204.out⟩, ⟨by (with_reducible repeat (first | refine blk_drewN ?_ _ | refine blk_drew ?_ | refine blk_alloc ?_ _)); refine blk_put (cs := #[.int .i64 t217, .slice Ao34 t218.length co34, .bool false]) ?_ 2 _ rfl; (with_reducible repeat (first | refine blk_drewN ?_ _ | refine blk_drew ?_ | refine blk_alloc ?_ _)); refine blk_put (cs := #[.int .i64 t217, .slice none 0 0, .bool false]) ?_ 1 _ rfl; (with_reducible repeat (first | refine blk_drewN ?_ _ | refine blk_drew ?_ | refine blk_alloc ?_ _)); refine blk_put (cs := #[.int .i64 0, .slice none 0 0, .bool false]) ?_ 0 _ rfl; (with_reducible repeat (first | refine blk_drewN ?_ _ | refine blk_drew ?_ | refine blk_alloc ?_ _)); exact BK223.out⟩, ⟨by repeat (first | (with_reducible first | exact HB.out | apply below_alloc | apply pw_below_drewN | apply below_drew1 | refine below_set ?_ GE204.out | refine below_set ?_ GE223.out) | exact HB.out)⟩⟩
                          · rw [if_neg c38] at H
                            have c38b0 : (((wrap64 ((x7_2.length : Int) - x8_2)) == (wrap64 (1 + (wrap64 (Int.tmod a0 64))))) != (t222 == 10)) = false := by simpa using c38
                            (try (have c38b1 : decide (((wrap64 ((x7_2.length : Int) - x8_2)) == (wrap64 (1 + (wrap64 (Int.tmod a0 64))))) = (t222 == 10)) = true := by simpa using c38))
                            (try (have c38b2 : (((wrap64 ((x7_2.length : Int) - x8_2)) == (wrap64 (1 + (wrap64 (Int.tmod a0 64))))) == (t222 == 10)) = true := by simpa using c38))
                            clear c38
                            have H' := Aside0.mk H
                            clear H
                            go_wp2
                            go_meet
                            case rel => exact ⟨_, (((t222 == 0) != (!((wrap64 ((x7_2.length : Int) - x8_2)) == (wrap64 (1 + (wrap64 (Int.tmod a0 64)))))))), (by first | rfl | (simp; done) | (simp [*]; done)), H', ⟨by have := HJ2.out; have := HK2.out; first | omega | exact Nat.le_refl _⟩, ⟨by (with_reducible repeat (first | apply Kd.R_alloc | apply Kd.R_drewN | apply Kd.R_drew)); exact Kd.R_mono (Kd.R_far (p := ⟨gb223, 2, none⟩) (Kd.R_far (p := ⟨gb223, 1, none⟩) (Kd.R_far (p := ⟨gb223, 0, none⟩) (Kd.R_types HO_7.out BK223.out (by decide)) (fun _ hk => hk.2) (.int .i64 t217)) (fun _ hk => hk.2) (.slice Ao34 t218.length co34)) (fun _ hk => hk.2) (.bool t221)) (fun _ hk => trivial)⟩, ⟨by (with_reducible repeat (first | apply Kd.V_alloc | apply Kd.V_drewN | apply Kd.V_drew)); exact Kd.V_mono (Kd.V_far (p := ⟨gb223, 2, none⟩) (Kd.V_far (p := ⟨gb223, 1, none⟩) (Kd.V_far (p := ⟨gb223, 0, none⟩) (Kd.V_mono HO_205001.out (fun k_ hk => (⟨hk, hk.2⟩ : _ ∧ k_ ≠ gb223))) (fun _ hk => hk.2) (.int .i64 t217)) (fun _ hk => hk.2) (.slice Ao34 t218.length co34)) (fun _ hk => hk.2) (.bool t221)) (fun _ hk => ⟨hk.1.1.1, ⟨hk.1.1.2, hk.1.2⟩⟩)⟩, ⟨by (with_reducible repeat (first | apply Kd.V_alloc | apply Kd.V_drewN | apply Kd.V_drew)); exact Kd.V_mono (Kd.V_far (p := ⟨gb223, 2, none⟩) (Kd.V_far (p := ⟨gb223, 1, none⟩) (Kd.V_far (p := ⟨gb223, 0, none⟩) (Kd.V_mono HO220.out (fun k_ hk => (⟨hk, hk.2⟩ : _ ∧ k_ ≠ gb223))) (fun _ hk => hk.2) (.int .i64 t217)) (fun _ hk => hk.2) (.slice Ao34 t218.length co34)) (fun _ hk => hk.2) (.bool t221)) (fun _ hk => ⟨hk.1.1.1, ⟨hk.1.1.2, hk.1.2⟩⟩)⟩, ⟨by (with_reducible repeat (first | refine blk_drewN ?_ _ | refine blk_drew ?_ | refine blk_alloc ?_ _)); refine blk_far ?_ NB204_223.out _; (with_reducible repeat (first | refine blk_drewN ?_ _ | refine blk_drew ?_ | refine blk_alloc ?_ _)); refine blk_far ?_ NB204_223.out _; (with_reducible repeat (first | refine blk_drewN ?_ _ | refine blk_drew ?_ | refine blk_alloc ?_ _)); refine blk_far ?_ NB204_223.out _; (with_reducible repeat (first | refine blk_drewN ?_ _ | refine blk_drew ?_ | refine blk_alloc ?_ _)); exact BK204.out⟩, ⟨by (with_reducible repeat (first | refine blk_drewN ?_ _ | refine blk_drew ?_ | refine blk_alloc ?_ _)); refine blk_put (cs := #[.int .i64 t217, .slice Ao34 t218.length co34, .bool false]) ?_ 2 _ rfl; (with_reducible repeat (first | refine blk_drewN ?_ _ | refine blk_drew ?_ | refine blk_alloc ?_ _)); refine blk_put (cs := #[.int .i64 t217, .slice none 0 0, .bool false]) ?_ 1 _ rfl; (with_reducible repeat (first | refine blk_drewN ?_ _ | refine blk_drew ?_ | refine blk_alloc ?_ _)); refine blk_put (cs := #[.int .i64 0, .slice none 0 0, .bool false]) ?_ 0 _ rfl; (with_reducible repeat (first | refine blk_drewN ?_ _ | refine blk_drew ?_ | refine blk_alloc ?_ _)); exact BK223.out⟩, ⟨by repeat (first | (with_reducible first | exact HB.out | apply below_alloc | apply pw_below_drewN | apply below_drew1 | refine below_set ?_ GE204.out | refine below_set ?_ GE223.out) | exact HB.out)⟩⟩
                    case rest =>
                      clear HC27
                      try clear c1
                      try clear c2
                      try clear p2
                      try clear q2
                      try clear hx2
                      try clear c3
                      try clear c5
                      try clear p6
                      try clear c8
                      try clear c10
                      try clear c16
                      try clear c16b0
                      try clear c17
                      try clear c17b0
                      try clear c18
                      try clear c18b0
                      try clear c18b1
                      try clear p21
                      try clear q21
                      try clear hx21
                      try clear c23
                      try clear c25
                      try clear c25b0
                      try clear c26
                      try clear c28
                      try clear c32
                      try clear c36
                      try clear c36b0
                      try clear c36b1
                      try clear c36b2
                      try clear c37
                      try clear c38
                      try clear c38b0
                      try clear c38b1
                      try clear c38b2
                      try clear hcz14_0
                      try clear hcz14_1
                      try clear hcz14_2
                      try clear hcz20_0
                      try clear hcz20_1
                      try clear hcz20_2
                      try clear hcz23_0
                      try clear hcz23_1
                      try clear hcz23_2
                      try clear hcz28_0
                      try clear hcz28_1
                      try clear hcz28_2
                      try clear hcz33_0
                      try clear hcz33_1
                      try clear hcz33_2
                      try clear hfz14_0
                      try clear hfz14_1
                      try clear hfz14_2
                      try clear hfz20_0
                      try clear hfz20_1
                      try clear hfz20_2
                      try clear hfz23_0
                      try clear hfz23_1
                      try clear hfz23_2
                      try clear hfz28_0
                      try clear hfz28_1
                      try clear hfz28_2
                      try clear hfz33_0
                      try clear hfz33_1
                      try clear hfz33_2
                      try clear hx211_0
                      try clear p2
                      try clear p211
                      try clear p6
                      try clear q211
                      obtain ⟨kq, x91_26, rfl, HA, HJ26, HO_7, HO_205001, HO_224001, BK204, BK223, HB⟩ := hcut
                      cases kq with
                      | zero => exact absurd HA.out (by simp [lodgerlaw03_QueueOrder.j2])
                      | succ kj26 =>
                        have H := HA.out
                        clear HA
                        simp only [lodgerlaw03_QueueOrder.j2] at H
                        by_cases c39 : x91_26 = true
                        · subst c39
                          have H1 : (some false) = some r := by rw [if_pos rfl] at H; exact H
                          rw [hr_.out] at H1
                          exact absurd (Option.some.inj H1) (by decide)
                        · replace c39 := Bool.eq_false_iff.mpr c39
                          subst c39
                          have H1 : (if t222 = 0 then (if x7_2.length < 17592186044416 then (lodgerlaw03_QueueOrder.l0 kj26 a0 l1 (x7_2 ++ [(wrap64 (rd l1 x10_2))]) x8_2 x9_2 (wrap64 (x10_2 + 1)) t217 t218 t221) else (none)) else (lodgerlaw03_QueueOrder.l0 kj26 a0 l1 x7_2 x8_2 x9_2 (wrap64 (x10_2 + 1)) t217 t218 t221)) = some r := by rw [if_neg (show ¬ (false = true) by decide)] at H; exact H
                          clear H
                          have H := H1
                          clear H1
                          by_cases c40 : t222 = 0
                          · rw [if_pos c40] at H
                            have c40b0 : (t222 == 0) = true := beq_iff_eq.mpr c40
                            have c40b1 : (t222 != 0) = false := bne_eq_false_iff_eq.mpr c40
                            clear c40
                            by_cases c41 : x7_2.length < 17592186044416
                            · rw [if_pos c41] at H
                              have LMc41 := Aside0.mk c41
                              clear c41
                              obtain ⟨y224, hy224⟩ : ∃ y_ : List Int, y_ = (x7_2 ++ [(wrap64 (rd l1 x10_2))]) := ⟨_, rfl⟩
                              replace H : (lodgerlaw03_QueueOrder.l0 kj26 a0 l1 y224 x8_2 x9_2 (wrap64 (x10_2 + 1)) t217 t218 t221) = some r := by first | (rw [hy224]; with_reducible exact H) | (have H2_ := (Option.bind_some _ _).symm.trans H; rw [hy224]; with_reducible exact H2_) | (have H2_ := (Option.bind_some _ _).symm.trans H; with_reducible exact H2_) | with_reducible exact H | (rw [hy224]; exact H) | exact H
                              have Ny224 := Aside0.mk hy224
                              clear hy224
                              have H' := Aside0.mk H
                              clear H
                              go_wp2_with (first | ((with_reducible refine gate_builtin (b := .append) (xs := #[.tmp 94, .tmp 96]) rfl ?_); (try (refine gate_guard (by rfl) ?_; dsimp only)); at_builtin; refine Kd.R_append (Kd.int .i64) (w0 := w) w.heap.size rfl (.tmp 94) (.tmp 96) 38 3 (.int .i64 0) 8 rfl Try.underlying38 info3 rfl (by decide) (by omega) (.slice Ao35 x7_2.length co35) x7_2 (wrap64 (rd l1 x10_2)) [.int .i64 (wrap64 (rd l1 x10_2))] (fun _ => True) (fun _ => False) rfl rfl ?aP (fun _ hk => hk.elim) ?aF ?aO ?aB ?aS ?aL ?_; (case aP => exact rfl); (case aB => exact (by repeat (first | (with_reducible first | exact HB.out | apply below_alloc | apply pw_below_drewN | apply below_drew1 | refine below_set ?_ GE204.out | refine below_set ?_ GE223.out) | exact HB.out))); (case aF => exact (fun _ _ => trivial)); (case aO => exact (by (with_reducible repeat (first | apply Kd.R_alloc | apply Kd.R_drewN | apply Kd.R_drew)); exact HO_7.out)); (case aS => exact (below_size (by repeat (first | (with_reducible first | exact HB.out | apply below_alloc | apply pw_below_drewN | apply below_drew1 | refine below_set ?_ GE204.out | refine below_set ?_ GE223.out) | exact HB.out)))); (case aL => have := LMc41.out; omega); intro v225 w42 ho hb hg hat; rw [← Ny224.out] at ho; have n0_ := Aside0.mk (Kd.V_afterv (ok := (fun k_ => k_ ≠ gb204 ∧ k_ ≠ gb223)) (by (with_reducible repeat (first | apply Kd.V_alloc | apply Kd.V_drewN | apply Kd.V_drew)); exact Kd.V_mono HO_205001.out (fun _ hk => ⟨⟨hk.2.1, hk.2.2⟩, hk.1⟩)) hg hat); have n1_ := Aside0.mk (Kd.V_afterv (ok := (fun k_ => k_ ≠ gb204 ∧ k_ ≠ gb223)) (by (with_reducible repeat (first | apply Kd.V_alloc | apply Kd.V_drewN | apply Kd.V_drew)); exact Kd.V_mono HO_224001.out (fun _ hk => ⟨⟨hk.2.1, hk.2.2⟩, hk.1⟩)) hg hat); have n2_ := Aside0.mk (blk_grown (g := gb204) (o := .cells #[.int .i64 x205000_2, .slice Ao29 x205001_2.length co29, .bool x205002_2] 40 (0, 0)) (by (with_reducible repeat (first | refine blk_drewN ?_ _ | refine blk_drew ?_ | refine blk_alloc ?_ _)); exact BK204.out) hg (Kd.R_ne HO_7.out BK204.out (by decide))); have n3_ := Aside0.mk (blk_grown (g := gb223) (o := .cells #[.int .i64 t217, .slice Ao34 t218.length co34, .bool t221] 40 (0, 0)) (by (with_reducible repeat (first | refine blk_drewN ?_ _ | refine blk_drew ?_ | refine blk_alloc ?_ _)); exact BK223.out) hg (Kd.R_ne HO_7.out BK223.out (by decide))); have n4_ := Aside0.mk (hb); have n5_ := Aside0.mk (ho); clear HO_205001; clear HO_224001; clear BK204; clear BK223; clear HB; clear HO_7; have HO_205001 := n0_; have HO_224001 := n1_; have BK204 := n2_; have BK223 := n3_; have HB := n4_; have HO226 := n5_; clear n0_ n1_ n2_ n3_ n4_ n5_; clear ho hb hg hat; have hnb43 := NB223_204.out; have hnc43 := NB204_223.out; have hcz44_0 : w42.cell? ⟨gb223, 0, none⟩ = some (.int .i64 t217) := (blk_cell BK223.out 0).trans rfl; have hcz44_1 : w42.cell? ⟨gb223, 1, none⟩ = some (.slice Ao34 t218.length co34) := (blk_cell BK223.out 1).trans rfl; have hcz44_2 : w42.cell? ⟨gb223, 2, none⟩ = some (.bool t221) := (blk_cell BK223.out 2).trans rfl; have hfz44_0 := blk_frozen BK223.out 0; have hfz44_1 := blk_frozen BK223.out 1; have hfz44_2 := blk_frozen BK223.out 2; have hcz45_0 : w42.cell? ⟨gb204, 0, none⟩ = some (.int .i64 x205000_2) := (blk_cell BK204.out 0).trans rfl; have hcz45_1 : w42.cell? ⟨gb204, 1, none⟩ = some (.slice Ao29 x205001_2.length co29) := (blk_cell BK204.out 1).trans rfl; have hcz45_2 : w42.cell? ⟨gb204, 2, none⟩ = some (.bool x205002_2) := (blk_cell BK204.out 2).trans rfl; have hfz45_0 := blk_frozen BK204.out 0; have hfz45_1 := blk_frozen BK204.out 1; have hfz45_2 := blk_frozen BK204.out 2))
                              go_roundg kj26
                              case measure => have := HJ2.out; have := HK2.out; have := HJ26.out; omega
                              case rel => exact ⟨(y224), (x8_2), (x9_2), (wrap64 (x10_2 + 1)), (t217), (t218), (t221), (.slice Ao34 t218.length co34), (by first | rfl | (simp; done) | (simp [*]; done)), (by first | rfl | (simp; done) | (simp [*]; done)), (by first | rfl | (simp; done) | (simp [*]; done)), H', ⟨by have := HJ2.out; have := HK2.out; have := HJ26.out; omega⟩, ⟨by (with_reducible repeat (first | apply Kd.R_alloc | apply Kd.R_drewN | apply Kd.R_drew)); exact Kd.R_mono (Kd.R_far (p := ⟨gb204, 2, none⟩) (Kd.R_far (p := ⟨gb204, 1, none⟩) (Kd.R_far (p := ⟨gb204, 0, none⟩) (Kd.R_types HO226.out BK204.out (by decide)) (fun _ hk => hk.2) (.int .i64 t217)) (fun _ hk => hk.2) (.slice Ao34 t218.length co34)) (fun _ hk => hk.2) (.bool t221)) (fun _ hk => trivial)⟩, ⟨by (with_reducible repeat (first | apply Kd.V_alloc | apply Kd.V_drewN | apply Kd.V_drew)); exact Kd.V_mono (Kd.V_far (p := ⟨gb204, 2, none⟩) (Kd.V_far (p := ⟨gb204, 1, none⟩) (Kd.V_far (p := ⟨gb204, 0, none⟩) (Kd.V_mono HO_224001.out (fun k_ hk => (⟨hk, hk.1.1⟩ : _ ∧ k_ ≠ gb204))) (fun _ hk => hk.2) (.int .i64 t217)) (fun _ hk => hk.2) (.slice Ao34 t218.length co34)) (fun _ hk => hk.2) (.bool t221)) (fun _ hk => ⟨hk.1.2, hk.1.1.1⟩)⟩, ⟨by (with_reducible repeat (first | refine blk_drewN ?_ _ | refine blk_drew ?_ | refine blk_alloc ?_ _)); refine blk_put (cs := #[.int .i64 t217, .slice Ao34 t218.length co34, .bool x205002_2]) ?_ 2 _ rfl; (with_reducible repeat (first | refine blk_drewN ?_ _ | refine blk_drew ?_ | refine blk_alloc ?_ _)); refine blk_put (cs := #[.int .i64 t217, .slice Ao29 x205001_2.length co29, .bool x205002_2]) ?_ 1 _ rfl; (with_reducible repeat (first | refine blk_drewN ?_ _ | refine blk_drew ?_ | refine blk_alloc ?_ _)); refine blk_put (cs := #[.int .i64 x205000_2, .slice Ao29 x205001_2.length co29, .bool x205002_2]) ?_ 0 _ rfl; (with_reducible repeat (first | refine blk_drewN ?_ _ | refine blk_drew ?_ | refine blk_alloc ?_ _)); exact BK204.out⟩, ⟨by repeat (first | (with_reducible first | exact HB.out | apply below_alloc | apply pw_below_drewN | apply below_drew1 | refine below_set ?_ GE204.out | refine below_set ?_ GE223.out) | exact HB.out)⟩⟩
                            · rw [if_neg c41] at H
                              exact absurd H (by simp)
                          · rw [if_neg c40] at H
                            have c40b0 : (t222 == 0) = false := beq_eq_false_iff_ne.mpr c40
                            have c40b1 : (t222 != 0) = true := bne_iff_ne.mpr c40
                            have H' := Aside0.mk H
                            clear H
                            have hnb46 := NB223_204.out
                            have hnc46 := NB204_223.out
                            have hcz47_0 : wc.cell? ⟨gb223, 0, none⟩ = some (.int .i64 t217) := (blk_cell BK223.out 0).trans rfl
                            have hcz47_1 : wc.cell? ⟨gb223, 1, none⟩ = some (.slice Ao34 t218.length co34) := (blk_cell BK223.out 1).trans rfl
                            have hcz47_2 : wc.cell? ⟨gb223, 2, none⟩ = some (.bool t221) := (blk_cell BK223.out 2).trans rfl
                            have hfz47_0 := blk_frozen BK223.out 0
                            have hfz47_1 := blk_frozen BK223.out 1
                            have hfz47_2 := blk_frozen BK223.out 2
                            have hcz48_0 : wc.cell? ⟨gb204, 0, none⟩ = some (.int .i64 x205000_2) := (blk_cell BK204.out 0).trans rfl
                            have hcz48_1 : wc.cell? ⟨gb204, 1, none⟩ = some (.slice Ao29 x205001_2.length co29) := (blk_cell BK204.out 1).trans rfl
                            have hcz48_2 : wc.cell? ⟨gb204, 2, none⟩ = some (.bool x205002_2) := (blk_cell BK204.out 2).trans rfl
                            have hfz48_0 := blk_frozen BK204.out 0
                            have hfz48_1 := blk_frozen BK204.out 1
                            have hfz48_2 := blk_frozen BK204.out 2
                            go_wp2
                            go_roundg kj26
                            case measure => have := HJ2.out; have := HK2.out; have := HJ26.out; omega
                            case rel => exact ⟨(x7_2), (x8_2), (x9_2), (wrap64 (x10_2 + 1)), (t217), (t218), (t221), (.slice Ao34 t218.length co34), (by first | rfl | (simp; done) | (simp [*]; done)), (by first | rfl | (simp; done) | (simp [*]; done)), (by first | rfl | (simp; done) | (simp [*]; done)), H', ⟨by have := HJ2.out; have := HK2.out; have := HJ26.out; omega⟩, ⟨by (with_reducible repeat (first | apply Kd.R_alloc | apply Kd.R_drewN | apply Kd.R_drew)); exact Kd.R_mono (Kd.R_far (p := ⟨gb204, 2, none⟩) (Kd.R_far (p := ⟨gb204, 1, none⟩) (Kd.R_far (p := ⟨gb204, 0, none⟩) (Kd.R_types HO_7.out BK204.out (by decide)) (fun _ hk => hk.2) (.int .i64 t217)) (fun _ hk => hk.2) (.slice Ao34 t218.length co34)) (fun _ hk => hk.2) (.bool t221)) (fun _ hk => trivial)⟩, ⟨by (with_reducible repeat (first | apply Kd.V_alloc | apply Kd.V_drewN | apply Kd.V_drew)); exact Kd.V_mono (Kd.V_far (p := ⟨gb204, 2, none⟩) (Kd.V_far (p := ⟨gb204, 1, none⟩) (Kd.V_far (p := ⟨gb204, 0, none⟩) (Kd.V_mono HO_224001.out (fun k_ hk => (⟨hk, hk.2.1⟩ : _ ∧ k_ ≠ gb204))) (fun _ hk => hk.2) (.int .i64 t217)) (fun _ hk => hk.2) (.slice Ao34 t218.length co34)) (fun _ hk => hk.2) (.bool t221)) (fun _ hk => ⟨hk.1.1, hk.1.2.1⟩)⟩, ⟨by (with_reducible repeat (first | refine blk_drewN ?_ _ | refine blk_drew ?_ | refine blk_alloc ?_ _)); refine blk_put (cs := #[.int .i64 t217, .slice Ao34 t218.length co34, .bool x205002_2]) ?_ 2 _ rfl; (with_reducible repeat (first | refine blk_drewN ?_ _ | refine blk_drew ?_ | refine blk_alloc ?_ _)); refine blk_put (cs := #[.int .i64 t217, .slice Ao29 x205001_2.length co29, .bool x205002_2]) ?_ 1 _ rfl; (with_reducible repeat (first | refine blk_drewN ?_ _ | refine blk_drew ?_ | refine blk_alloc ?_ _)); refine blk_put (cs := #[.int .i64 x205000_2, .slice Ao29 x205001_2.length co29, .bool x205002_2]) ?_ 0 _ rfl; (with_reducible repeat (first | refine blk_drewN ?_ _ | refine blk_drew ?_ | refine blk_alloc ?_ _)); exact BK204.out⟩, ⟨by repeat (first | (with_reducible first | exact HB.out | apply below_alloc | apply pw_below_drewN | apply below_drew1 | refine below_set ?_ GE204.out | refine below_set ?_ GE223.out) | exact HB.out)⟩⟩
                  · rw [if_neg c25] at H
                    have c25b0 : decide (0 < (wrap64 (rd l1 x10_2))) = false := decide_eq_false c25
                    clear c25
                    replace H := Option.bind_eq_some_iff.mp H
                    obtain ⟨⟨t227, t228, t231, t232, t233⟩, A490, H⟩ := H
                    replace H : (if (t233 != (decide (x8_2 < (x7_2.length : Int)))) = true then (lodgerlaw03_QueueOrder.j3 k2 a0 l1 x7_2 x8_2 x9_2 x10_2 t233 true t227 t228 t231) else (if t233 = true then (if 0 ≤ x8_2 then (if x8_2 < (x7_2.length : Int) then (lodgerlaw03_QueueOrder.j3 k2 a0 l1 x7_2 x8_2 x9_2 x10_2 t233 (t232 != (rd x7_2 x8_2)) t227 t228 t231) else (none)) else (none)) else (lodgerlaw03_QueueOrder.j3 k2 a0 l1 x7_2 x8_2 x9_2 x10_2 t233 false t227 t228 t231))) = some r := H
                    have A49 := Aside0.mk A490
                    clear A490
                    have HC50 := Aside0.mk H
                    clear H
                    have p211 : 0 ≤ (x10_2 : Int) := of_decide_eq_true (by first | (with_reducible assumption) | assumption)
                    have q211 : x10_2 < (l1.length : Int) := of_decide_eq_true (by first | (with_reducible assumption) | assumption)
                    obtain ⟨ad211, e211, hx211_0⟩ := Kd.at_int HR1.out x10_2 p211 q211
                    cases e211
                    replace hx211_0 := (HB.out.cell (World.block_lt_of_cell? w _ hx211_0)).trans hx211_0
                    replace p211 := eq_true p211
                    replace q211 := eq_true q211
                    have hcz51_0 : wr.cell? ⟨gb204, 0, none⟩ = some (.int .i64 x205000_2) := (blk_cell BK204.out 0).trans rfl
                    have hcz51_1 : wr.cell? ⟨gb204, 1, none⟩ = some (u205001) := (blk_cell BK204.out 1).trans rfl
                    have hcz51_2 : wr.cell? ⟨gb204, 2, none⟩ = some (.bool x205002_2) := (blk_cell BK204.out 2).trans rfl
                    have hfz51_0 := blk_frozen BK204.out 0
                    have hfz51_1 := blk_frozen BK204.out 1
                    have hfz51_2 := blk_frozen BK204.out 2
                    obtain ⟨Ao52, co52, eo52⟩ := Kd.V_slice HO_205001.out
                    subst eo52
                    go_upto_region 23 with (first | ((with_reducible refine gate_callee (f := 30) rfl ?_); refine goesL_ (some 101) rfl rfl Try.func30 (by kernel_rfl) rfl #[.agg #[.int .i64 x205000_2, .slice Ao52 x205001_2.length co52, .bool x205002_2]] rfl (by (try simp only [List.map_toArray, List.map_cons, List.map_nil]); first | done | rfl | (simp only [List.length_drop, List.length_take]; rfl)) ?_; (with_reducible refine (queue_Take.calls x205000_2 (fun k_ => (some k_ ≠ (u7 : Value).ownBlock ∧ k_ ≠ gb204)) _ _ x205001_2 x205002_2 t227 t228 t231 t232 t233 _ ?side1 A49.out).mono ?_); (case side1 => exact HO_205001.out); rintro e w53 ⟨v229, rfl, ho0, hb⟩; refine ⟨_, rfl, ?_⟩; have n0_ := Aside0.mk (Kd.R_below (by (with_reducible repeat (first | apply Kd.R_alloc | apply Kd.R_drewN | apply Kd.R_drew)); exact HO_7.out) hb); have n1_ := Aside0.mk (Kd.V_below (by (with_reducible repeat (first | apply Kd.V_alloc | apply Kd.V_drewN | apply Kd.V_drew)); exact HO_205001.out) hb); have n2_ := Aside0.mk (Kd.V_lower (Kd.V_mono (ok' := fun k_ => some k_ ≠ (u7 : Value).ownBlock ∧ k_ ≠ gb204) ho0 (fun k_ hk_ => ⟨Or.elim hk_ (fun hs_ => hs_.1) (fun hn_ => (Kd.fresh' (Kd.R_lt (by (with_reducible repeat (first | apply Kd.R_alloc | apply Kd.R_drewN | apply Kd.R_drew)); exact HO_7.out)) k_ hn_)), Or.elim hk_ (fun hs_ => hs_.2) (fun hn_ => (Kd.freshB (g := gb204) (o := .cells #[.int .i64 x205000_2, .slice Ao52 x205001_2.length co52, .bool x205002_2] 40 (0, 0)) (by (with_reducible repeat (first | refine blk_drewN ?_ _ | refine blk_drew ?_ | refine blk_alloc ?_ _)); exact BK204.out) k_ hn_))⟩)) (below_size (by repeat (first | (with_reducible first | exact HB.out | apply below_alloc | apply pw_below_drewN | apply below_drew1 | refine below_set ?_ GE204.out) | exact HB.out)))); have n3_ := Aside0.mk (blk_below (g := gb204) (o := .cells #[.int .i64 x205000_2, .slice Ao52 x205001_2.length co52, .bool x205002_2] 40 (0, 0)) (by (with_reducible repeat (first | refine blk_drewN ?_ _ | refine blk_drew ?_ | refine blk_alloc ?_ _)); exact BK204.out) hb); have n4_ := Aside0.mk (below_step (by repeat (first | (with_reducible first | exact HB.out | apply below_alloc | apply pw_below_drewN | apply below_drew1 | refine below_set ?_ GE204.out) | exact HB.out)) hb); clear HO_7; clear HO_205001; clear BK204; clear HB; have HO_7 := n0_; have HO_205001 := n1_; have HO230 := n2_; have BK204 := n3_; have HB := n4_; clear n0_ n1_ n2_ n3_ n4_; (try clear hb); (try clear hb2); (try clear hk); (try clear hi); (try clear ho0)) | ((with_reducible refine gate_dst (N := 15) rfl ?_); (try (refine gate_guard (by rfl) ?_; dsimp only)); refine box_event ?hg (N := 15) ?hd (cs := #[.int .i64 0, .slice none 0 0, .bool false]) (t := 40) ?hr ?_; (case hd => rfl); (case hg => rfl); (case hr => first | (go_simp; done) | (go_simp; rfl)); intro gb234 hg w54 hbox hb; have n0_ := Aside0.mk (Kd.R_below (by (with_reducible repeat (first | apply Kd.R_alloc | apply Kd.R_drewN | apply Kd.R_drew)); exact HO_7.out) hb); have n1_ := Aside0.mk (Kd.V_below (Kd.V_elderB (by (with_reducible repeat (first | apply Kd.V_alloc | apply Kd.V_drewN | apply Kd.V_drew)); exact HO_205001.out) gb234 (Nat.le_of_eq hg.symm)) hb); have n2_ := Aside0.mk (Kd.V_below (Kd.V_elderB (by (with_reducible repeat (first | apply Kd.V_alloc | apply Kd.V_drewN | apply Kd.V_drew)); exact HO230.out) gb234 (Nat.le_of_eq hg.symm)) hb); have n3_ := Aside0.mk (blk_below (g := gb204) (o := .cells #[.int .i64 x205000_2, .slice Ao52 x205001_2.length co52, .bool x205002_2] 40 (0, 0)) (by (with_reducible repeat (first | refine blk_drewN ?_ _ | refine blk_drew ?_ | refine blk_alloc ?_ _)); exact BK204.out) hb); have n4_ := Aside0.mk (below_step (by repeat (first | (with_reducible first | exact HB.out | apply below_alloc | apply pw_below_drewN | apply below_drew1 | refine below_set ?_ GE204.out) | exact HB.out)) hb); have n5_ := Aside0.mk (hbox); have n6_ := Aside0.mk ((by rw [hg]; exact (below_size (by repeat (first | (with_reducible first | exact HB.out | apply below_alloc | apply pw_below_drewN | apply below_drew1 | refine below_set ?_ GE204.out) | exact HB.out))) : w.heap.size ≤ gb234)); have n7_ := Aside0.mk ((by rw [hg]; exact (below_size (by repeat (first | (with_reducible first | exact HB.out | apply below_alloc | apply pw_below_drewN | apply below_drew1 | refine below_set ?_ GE204.out) | exact HB.out))) : w.heap.size ≤ gb234)); have n8_ := Aside0.mk ((by rw [hg]; exact Nat.ne_of_lt (blk_lt (g := gb204) (o := .cells #[.int .i64 x205000_2, .slice Ao52 x205001_2.length co52, .bool x205002_2] 40 (0, 0)) (by (with_reducible repeat (first | refine blk_drewN ?_ _ | refine blk_drew ?_ | refine blk_alloc ?_ _)); exact BK204.out)) : gb204 ≠ gb234)); have n9_ := Aside0.mk ((by rw [hg]; exact Nat.ne_of_gt (blk_lt (g := gb204) (o := .cells #[.int .i64 x205000_2, .slice Ao52 x205001_2.length co52, .bool x205002_2] 40 (0, 0)) (by (with_reducible repeat (first | refine blk_drewN ?_ _ | refine blk_drew ?_ | refine blk_alloc ?_ _)); exact BK204.out)) : gb234 ≠ gb204)); clear HO_7; clear HO_205001; clear HO230; clear BK204; clear HB; have HO_7 := n0_; have HO_205001 := n1_; have HO230 := n2_; have BK204 := n3_; have HB := n4_; have BK234 := n5_; have GW234 := n6_; have GE234 := n7_; have NB204_234 := n8_; have NB234_204 := n9_; clear n0_ n1_ n2_ n3_ n4_ n5_ n6_ n7_ n8_ n9_; clear hb hbox hg; have hnb55 := NB234_204.out; have hnc55 := NB204_234.out; have hcz56_0 : w54.cell? ⟨gb234, 0, none⟩ = some (.int .i64 0) := (blk_cell BK234.out 0).trans rfl; have hcz56_1 : w54.cell? ⟨gb234, 1, none⟩ = some (.slice none 0 0) := (blk_cell BK234.out 1).trans rfl; have hcz56_2 : w54.cell? ⟨gb234, 2, none⟩ = some (.bool false) := (blk_cell BK234.out 2).trans rfl; have hfz56_0 := blk_frozen BK234.out 0; have hfz56_1 := blk_frozen BK234.out 1; have hfz56_2 := blk_frozen BK234.out 2; obtain ⟨Ao57, co57, eo57⟩ := Kd.V_slice HO230.out; subst eo57))
                    (try simp only [Act.put, List.setIfInBounds_toArray, List.set_cons_zero, List.set_cons_succ])
                    go_cut [121] (fun v121 wc => ∃ (kq : Nat) (x121_49 : Bool), v121 = .bool x121_49 ∧ Aside0 (lodgerlaw03_QueueOrder.j3 kq a0 l1 x7_2 x8_2 x9_2 x10_2 t233 x121_49 t227 t228 t231 = some r) ∧ Aside0 (kq ≤ k2) ∧ Aside0 (Kd.R (Kd.int .i64) 3 wc w.heap.size (fun _ => True) u7 x7_2) ∧ Aside0 (Kd.V (Kd.int .i64) 3 wc w.heap.size (fun k_ => some k_ ≠ (u7 : Value).ownBlock ∧ k_ ≠ gb204 ∧ k_ ≠ gb234) (.slice Ao52 x205001_2.length co52) x205001_2) ∧ Aside0 (Kd.V (Kd.int .i64) 3 wc w.heap.size (fun k_ => some k_ ≠ (u7 : Value).ownBlock ∧ k_ ≠ gb204 ∧ k_ ≠ gb234) (.slice Ao57 t228.length co57) t228) ∧ Aside0 (wc.heap[gb204]? = some (.cells #[.int .i64 x205000_2, (.slice Ao52 x205001_2.length co52), .bool x205002_2] 40 (0, 0))) ∧ Aside0 (wc.heap[gb234]? = some (.cells #[.int .i64 t227, (.slice Ao57 t228.length co57), .bool t231] 40 (0, 0))) ∧ Aside0 (Below w.heap.size w wc))
                    case first =>
                      have H := HC50.out
                      clear HC50
                      by_cases c58 : (t233 != (decide (x8_2 < (x7_2.length : Int)))) = true
                      · rw [if_pos c58] at H
                        have c58b0 : (t233 != (decide (x8_2 < (x7_2.length : Int)))) = true := c58
                        (try (have c58b1 : decide (t233 = (decide (x8_2 < (x7_2.length : Int)))) = false := by simpa using c58))
                        (try (have c58b2 : (t233 == (decide (x8_2 < (x7_2.length : Int)))) = false := by simpa using c58))
                        (try (have c58b3 : ¬ (t233 = (decide (x8_2 < (x7_2.length : Int)))) := by simpa using c58))
                        clear c58
                        (first | rw [c58b0] | (simp only [i64_w, i32_w]; rw [c58b0]) | skip)
                        have H' := Aside0.mk H
                        clear H
                        obtain ⟨Ao59, co59, eo59⟩ := Kd.R_slice HO_7.out
                        subst eo59
                        go_wp2
                        go_meet
                        case rel => exact ⟨_, (true), (by first | rfl | (simp; done) | (simp [*]; done)), H', ⟨by have := HJ2.out; have := HK2.out; first | omega | exact Nat.le_refl _⟩, ⟨by (with_reducible repeat (first | apply Kd.R_alloc | apply Kd.R_drewN | apply Kd.R_drew)); exact Kd.R_mono (Kd.R_far (p := ⟨gb234, 2, none⟩) (Kd.R_far (p := ⟨gb234, 1, none⟩) (Kd.R_far (p := ⟨gb234, 0, none⟩) (Kd.R_types HO_7.out BK234.out (by decide)) (fun _ hk => hk.2) (.int .i64 t227)) (fun _ hk => hk.2) (.slice Ao57 t228.length co57)) (fun _ hk => hk.2) (.bool t231)) (fun _ hk => trivial)⟩, ⟨by (with_reducible repeat (first | apply Kd.V_alloc | apply Kd.V_drewN | apply Kd.V_drew)); exact Kd.V_mono (Kd.V_far (p := ⟨gb234, 2, none⟩) (Kd.V_far (p := ⟨gb234, 1, none⟩) (Kd.V_far (p := ⟨gb234, 0, none⟩) (Kd.V_mono HO_205001.out (fun k_ hk => (⟨hk, hk.2⟩ : _ ∧ k_ ≠ gb234))) (fun _ hk => hk.2) (.int .i64 t227)) (fun _ hk => hk.2) (.slice Ao57 t228.length co57)) (fun _ hk => hk.2) (.bool t231)) (fun _ hk => ⟨hk.1.1.1, ⟨hk.1.1.2, hk.1.2⟩⟩)⟩, ⟨by (with_reducible repeat (first | apply Kd.V_alloc | apply Kd.V_drewN | apply Kd.V_drew)); exact Kd.V_mono (Kd.V_far (p := ⟨gb234, 2, none⟩) (Kd.V_far (p := ⟨gb234, 1, none⟩) (Kd.V_far (p := ⟨gb234, 0, none⟩) (Kd.V_mono HO230.out (fun k_ hk => (⟨hk, hk.2⟩ : _ ∧ k_ ≠ gb234))) (fun _ hk => hk.2) (.int .i64 t227)) (fun _ hk => hk.2) (.slice Ao57 t228.length co57)) (fun _ hk => hk.2) (.bool t231)) (fun _ hk => ⟨hk.1.1.1, ⟨hk.1.1.2, hk.1.2⟩⟩)⟩, ⟨by (with_reducible repeat (first | refine blk_drewN ?_ _ | refine blk_drew ?_ | refine blk_alloc ?_ _)); refine blk_far ?_ NB204_234.out _; (with_reducible repeat (first | refine blk_drewN ?_ _ | refine blk_drew ?_ | refine blk_alloc ?_ _)); refine blk_far ?_ NB204_234.out _; (with_reducible repeat (first | refine blk_drewN ?_ _ | refine blk_drew ?_ | refine blk_alloc ?_ _)); refine blk_far ?_ NB204_234.out _; (with_reducible repeat (first | refine blk_drewN ?_ _ | refine blk_drew ?_ | refine blk_alloc ?_ _)); exact BK204.out⟩, ⟨by (with_reducible repeat (first | refine blk_drewN ?_ _ | refine blk_drew ?_ | refine blk_alloc ?_ _)); refine blk_put (cs := #[.int .i64 t227, .slice Ao57 t228.length co57, .bool false]) ?_ 2 _ rfl; (with_reducible repeat (first | refine blk_drewN ?_ _ | refine blk_drew ?_ | refine blk_alloc ?_ _)); refine blk_put (cs := #[.int .i64 t227, .slice none 0 0, .bool false]) ?_ 1 _ rfl; (with_reducible repeat (first | refine blk_drewN ?_ _ | refine blk_drew ?_ | refine blk_alloc ?_ _)); refine blk_put (cs := #[.int .i64 0, .slice none 0 0, .bool false]) ?_ 0 _ rfl; (with_reducible repeat (first | refine blk_drewN ?_ _ | refine blk_drew ?_ | refine blk_alloc ?_ _)); exact BK234.out⟩, ⟨by repeat (first | (with_reducible first | exact HB.out | apply below_alloc | apply pw_below_drewN | apply below_drew1 | refine below_set ?_ GE204.out | refine below_set ?_ GE234.out) | exact HB.out)⟩⟩
                      · rw [if_neg c58] at H
                        have c58b0 : (t233 != (decide (x8_2 < (x7_2.length : Int)))) = false := by simpa using c58
                        (try (have c58b1 : decide (t233 = (decide (x8_2 < (x7_2.length : Int)))) = true := by simpa using c58))
                        (try (have c58b2 : (t233 == (decide (x8_2 < (x7_2.length : Int)))) = true := by simpa using c58))
                        clear c58
                        (first | rw [c58b0] | (simp only [i64_w, i32_w]; rw [c58b0]) | skip)
                        by_cases c60 : t233 = true
                        · subst c60
                          have H1 : (if 0 ≤ x8_2 then (if x8_2 < (x7_2.length : Int) then (lodgerlaw03_QueueOrder.j3 k2 a0 l1 x7_2 x8_2 x9_2 x10_2 true (t232 != (rd x7_2 x8_2)) t227 t228 t231) else (none)) else (none)) = some r := by rw [if_pos rfl] at H; exact H
                          clear H
                          have H := H1
                          clear H1
                          by_cases c61 : 0 ≤ x8_2
                          · rw [if_pos c61] at H
                            have c61b0 : decide (0 ≤ x8_2) = true := decide_eq_true c61
                            clear c61
                            by_cases c62 : x8_2 < (x7_2.length : Int)
                            · rw [if_pos c62] at H
                              have c62b0 : decide (x8_2 < (x7_2.length : Int)) = true := decide_eq_true c62
                              clear c62
                              have H' := Aside0.mk H
                              clear H
                              obtain ⟨Ao63, co63, eo63⟩ := Kd.R_slice HO_7.out
                              subst eo63
                              have p235 : 0 ≤ (x8_2 : Int) := of_decide_eq_true (by first | (with_reducible assumption) | assumption)
                              have q235 : x8_2 < (x7_2.length : Int) := of_decide_eq_true (by first | (with_reducible assumption) | assumption)
                              obtain ⟨ad235, e235, hx235_0⟩ := Kd.at_int (Kd.R_reads' HO_7.out).2.2 x8_2 p235 q235
                              cases e235
                              have hn235_0 : ad235.block ≠ gb234 := Kd.own_blk (Kd.R_ne HO_7.out BK234.out (by decide))
                              have hn235_1 : ad235.block ≠ gb234 := Kd.own_blk (Kd.R_ne HO_7.out BK234.out (by decide))
                              have hn235_2 : ad235.block ≠ gb234 := Kd.own_blk (Kd.R_ne HO_7.out BK234.out (by decide))
                              replace hx235_0 := (cell_far (p := ⟨gb234, 0, none⟩) (by first | (rw [add_block]; exact hn235_0) | (show (Addr.add _ _).block ≠ _; rw [add_block]; exact hn235_0) | exact hn235_0) (.int .i64 t227)).trans hx235_0
                              replace hx235_0 := (cell_far (p := ⟨gb234, 1, none⟩) (by first | (rw [add_block]; exact hn235_1) | (show (Addr.add _ _).block ≠ _; rw [add_block]; exact hn235_1) | exact hn235_1) (.slice Ao57 t228.length co57)).trans hx235_0
                              replace hx235_0 := (cell_far (p := ⟨gb234, 2, none⟩) (by first | (rw [add_block]; exact hn235_2) | (show (Addr.add _ _).block ≠ _; rw [add_block]; exact hn235_2) | exact hn235_2) (.bool t231)).trans hx235_0
                              clear hn235_0
                              clear hn235_1
                              clear hn235_2
                              replace p235 := eq_true p235
                              replace q235 := eq_true q235
                              go_wp2
                              go_meet
                              case rel => exact ⟨_, ((t232 != (rd x7_2 x8_2))), (by first | rfl | (simp; done) | (simp [*]; done)), H', ⟨by have := HJ2.out; have := HK2.out; first | omega | exact Nat.le_refl _⟩, ⟨by (with_reducible repeat (first | apply Kd.R_alloc | apply Kd.R_drewN | apply Kd.R_drew)); exact Kd.R_mono (Kd.R_far (p := ⟨gb234, 2, none⟩) (Kd.R_far (p := ⟨gb234, 1, none⟩) (Kd.R_far (p := ⟨gb234, 0, none⟩) (Kd.R_types HO_7.out BK234.out (by decide)) (fun _ hk => hk.2) (.int .i64 t227)) (fun _ hk => hk.2) (.slice Ao57 t228.length co57)) (fun _ hk => hk.2) (.bool t231)) (fun _ hk => trivial)⟩, ⟨by (with_reducible repeat (first | apply Kd.V_alloc | apply Kd.V_drewN | apply Kd.V_drew)); exact Kd.V_mono (Kd.V_far (p := ⟨gb234, 2, none⟩) (Kd.V_far (p := ⟨gb234, 1, none⟩) (Kd.V_far (p := ⟨gb234, 0, none⟩) (Kd.V_mono HO_205001.out (fun k_ hk => (⟨hk, hk.2⟩ : _ ∧ k_ ≠ gb234))) (fun _ hk => hk.2) (.int .i64 t227)) (fun _ hk => hk.2) (.slice Ao57 t228.length co57)) (fun _ hk => hk.2) (.bool t231)) (fun _ hk => ⟨hk.1.1.1, ⟨hk.1.1.2, hk.1.2⟩⟩)⟩, ⟨by (with_reducible repeat (first | apply Kd.V_alloc | apply Kd.V_drewN | apply Kd.V_drew)); exact Kd.V_mono (Kd.V_far (p := ⟨gb234, 2, none⟩) (Kd.V_far (p := ⟨gb234, 1, none⟩) (Kd.V_far (p := ⟨gb234, 0, none⟩) (Kd.V_mono HO230.out (fun k_ hk => (⟨hk, hk.2⟩ : _ ∧ k_ ≠ gb234))) (fun _ hk => hk.2) (.int .i64 t227)) (fun _ hk => hk.2) (.slice Ao57 t228.length co57)) (fun _ hk => hk.2) (.bool t231)) (fun _ hk => ⟨hk.1.1.1, ⟨hk.1.1.2, hk.1.2⟩⟩)⟩, ⟨by (with_reducible repeat (first | refine blk_drewN ?_ _ | refine blk_drew ?_ | refine blk_alloc ?_ _)); refine blk_far ?_ NB204_234.out _; (with_reducible repeat (first | refine blk_drewN ?_ _ | refine blk_drew ?_ | refine blk_alloc ?_ _)); refine blk_far ?_ NB204_234.out _; (with_reducible repeat (first | refine blk_drewN ?_ _ | refine blk_drew ?_ | refine blk_alloc ?_ _)); refine blk_far ?_ NB204_234.out _; (with_reducible repeat (first | refine blk_drewN ?_ _ | refine blk_drew ?_ | refine blk_alloc ?_ _)); exact BK204.out⟩, ⟨by (with_reducible repeat (first | refine blk_drewN ?_ _ | refine blk_drew ?_ | refine blk_alloc ?_ _)); refine blk_put (cs := #[.int .i64 t227, .slice Ao57 t228.length co57, .bool false]) ?_ 2 _ rfl; (with_reducible repeat (first | refine blk_drewN ?_ _ | refine blk_drew ?_ | refine blk_alloc ?_ _)); refine blk_put (cs := #[.int .i64 t227, .slice none 0 0, .bool false]) ?_ 1 _ rfl; (with_reducible repeat (first | refine blk_drewN ?_ _ | refine blk_drew ?_ | refine blk_alloc ?_ _)); refine blk_put (cs := #[.int .i64 0, .slice none 0 0, .bool false]) ?_ 0 _ rfl; (with_reducible repeat (first | refine blk_drewN ?_ _ | refine blk_drew ?_ | refine blk_alloc ?_ _)); exact BK234.out⟩, ⟨by repeat (first | (with_reducible first | exact HB.out | apply below_alloc | apply pw_below_drewN | apply below_drew1 | refine below_set ?_ GE204.out | refine below_set ?_ GE234.out) | exact HB.out)⟩⟩
                            · rw [if_neg c62] at H
                              exact absurd H (by simp)
                          · rw [if_neg c61] at H
                            exact absurd H (by simp)
                        · replace c60 := Bool.eq_false_iff.mpr c60
                          subst c60
                          have H1 : (lodgerlaw03_QueueOrder.j3 k2 a0 l1 x7_2 x8_2 x9_2 x10_2 false false t227 t228 t231) = some r := by rw [if_neg (show ¬ (false = true) by decide)] at H; exact H
                          clear H
                          have H := H1
                          clear H1
                          have H' := Aside0.mk H
                          clear H
                          obtain ⟨Ao64, co64, eo64⟩ := Kd.R_slice HO_7.out
                          subst eo64
                          go_wp2
                          go_meet
                          case rel => exact ⟨_, (false), (by first | rfl | (simp; done) | (simp [*]; done)), H', ⟨by have := HJ2.out; have := HK2.out; first | omega | exact Nat.le_refl _⟩, ⟨by (with_reducible repeat (first | apply Kd.R_alloc | apply Kd.R_drewN | apply Kd.R_drew)); exact Kd.R_mono (Kd.R_far (p := ⟨gb234, 2, none⟩) (Kd.R_far (p := ⟨gb234, 1, none⟩) (Kd.R_far (p := ⟨gb234, 0, none⟩) (Kd.R_types HO_7.out BK234.out (by decide)) (fun _ hk => hk.2) (.int .i64 t227)) (fun _ hk => hk.2) (.slice Ao57 t228.length co57)) (fun _ hk => hk.2) (.bool t231)) (fun _ hk => trivial)⟩, ⟨by (with_reducible repeat (first | apply Kd.V_alloc | apply Kd.V_drewN | apply Kd.V_drew)); exact Kd.V_mono (Kd.V_far (p := ⟨gb234, 2, none⟩) (Kd.V_far (p := ⟨gb234, 1, none⟩) (Kd.V_far (p := ⟨gb234, 0, none⟩) (Kd.V_mono HO_205001.out (fun k_ hk => (⟨hk, hk.2⟩ : _ ∧ k_ ≠ gb234))) (fun _ hk => hk.2) (.int .i64 t227)) (fun _ hk => hk.2) (.slice Ao57 t228.length co57)) (fun _ hk => hk.2) (.bool t231)) (fun _ hk => ⟨hk.1.1.1, ⟨hk.1.1.2, hk.1.2⟩⟩)⟩, ⟨by (with_reducible repeat (first | apply Kd.V_alloc | apply Kd.V_drewN | apply Kd.V_drew)); exact Kd.V_mono (Kd.V_far (p := ⟨gb234, 2, none⟩) (Kd.V_far (p := ⟨gb234, 1, none⟩) (Kd.V_far (p := ⟨gb234, 0, none⟩) (Kd.V_mono HO230.out (fun k_ hk => (⟨hk, hk.2⟩ : _ ∧ k_ ≠ gb234))) (fun _ hk => hk.2) (.int .i64 t227)) (fun _ hk => hk.2) (.slice Ao57 t228.length co57)) (fun _ hk => hk.2) (.bool t231)) (fun _ hk => ⟨hk.1.1.1, ⟨hk.1.1.2, hk.1.2⟩⟩)⟩, ⟨by (with_reducible repeat (first | refine blk_drewN ?_ _ | refine blk_drew ?_ | refine blk_alloc ?_ _)); refine blk_far ?_ NB204_234.out _; (with_reducible repeat (first | refine blk_drewN ?_ _ | refine blk_drew ?_ | refine blk_alloc ?_ _)); refine blk_far ?_ NB204_234.out _; (with_reducible repeat (first | refine blk_drewN ?_ _ | refine blk_drew ?_ | refine blk_alloc ?_ _)); refine blk_far ?_ NB204_234.out _; (with_reducible repeat (first | refine blk_drewN ?_ _ | refine blk_drew ?_ | refine blk_alloc ?_ _)); exact BK204.out⟩, ⟨by (with_reducible repeat (first | refine blk_drewN ?_ _ | refine blk_drew ?_ | refine blk_alloc ?_ _)); refine blk_put (cs := #[.int .i64 t227, .slice Ao57 t228.length co57, .bool false]) ?_ 2 _ rfl; (with_reducible repeat (first | refine blk_drewN ?_ _ | refine blk_drew ?_ | refine blk_alloc ?_ _)); refine blk_put (cs := #[.int .i64 t227, .slice none 0 0, .bool false]) ?_ 1 _ rfl; (with_reducible repeat (first | refine blk_drewN ?_ _ | refine blk_drew ?_ | refine blk_alloc ?_ _)); refine blk_put (cs := #[.int .i64 0, .slice none 0 0, .bool false]) ?_ 0 _ rfl; (with_reducible repeat (first | refine blk_drewN ?_ _ | refine blk_drew ?_ | refine blk_alloc ?_ _)); exact BK234.out⟩, ⟨by repeat (first | (with_reducible first | exact HB.out | apply below_alloc | apply pw_below_drewN | apply below_drew1 | refine below_set ?_ GE204.out | refine below_set ?_ GE234.out) | exact HB.out)⟩⟩
                    case rest =>
                      clear HC50
                      try clear c1
                      try clear c2
                      try clear p2
                      try clear q2
                      try clear hx2
                      try clear c3
                      try clear c4
                      try clear c5
                      try clear c6
                      try clear p6
                      try clear c8
                      try clear c10
                      try clear c16
                      try clear c16b0
                      try clear c17
                      try clear c17b0
                      try clear c18
                      try clear c18b0
                      try clear c18b1
                      try clear p21
                      try clear q21
                      try clear hx21
                      try clear c23
                      try clear p23
                      try clear q23
                      try clear hx23
                      try clear c25
                      try clear c25b0
                      try clear c26
                      try clear c28
                      try clear c30
                      try clear c32
                      try clear c36
                      try clear c36b0
                      try clear c36b1
                      try clear c36b2
                      try clear c37
                      try clear c38
                      try clear c38b0
                      try clear c38b1
                      try clear c38b2
                      try clear c39
                      try clear c40
                      try clear c40b0
                      try clear c40b1
                      try clear c41
                      try clear c43
                      try clear c46
                      try clear c55
                      try clear c58
                      try clear c58b0
                      try clear c58b1
                      try clear c58b2
                      try clear c60
                      try clear c61
                      try clear c61b0
                      try clear c62
                      try clear c62b0
                      try clear p64
                      try clear hcz14_0
                      try clear hcz14_1
                      try clear hcz14_2
                      try clear hcz20_0
                      try clear hcz20_1
                      try clear hcz20_2
                      try clear hcz23_0
                      try clear hcz23_1
                      try clear hcz23_2
                      try clear hcz28_0
                      try clear hcz28_1
                      try clear hcz28_2
                      try clear hcz33_0
                      try clear hcz33_1
                      try clear hcz33_2
                      try clear hcz44_0
                      try clear hcz44_1
                      try clear hcz44_2
                      try clear hcz45_0
                      try clear hcz45_1
                      try clear hcz45_2
                      try clear hcz47_0
                      try clear hcz47_1
                      try clear hcz47_2
                      try clear hcz48_0
                      try clear hcz48_1
                      try clear hcz48_2
                      try clear hcz51_0
                      try clear hcz51_1
                      try clear hcz51_2
                      try clear hcz56_0
                      try clear hcz56_1
                      try clear hcz56_2
                      try clear hfz14_0
                      try clear hfz14_1
                      try clear hfz14_2
                      try clear hfz20_0
                      try clear hfz20_1
                      try clear hfz20_2
                      try clear hfz23_0
                      try clear hfz23_1
                      try clear hfz23_2
                      try clear hfz28_0
                      try clear hfz28_1
                      try clear hfz28_2
                      try clear hfz33_0
                      try clear hfz33_1
                      try clear hfz33_2
                      try clear hfz44_0
                      try clear hfz44_1
                      try clear hfz44_2
                      try clear hfz45_0
                      try clear hfz45_1
                      try clear hfz45_2
                      try clear hfz47_0
                      try clear hfz47_1
                      try clear hfz47_2
                      try clear hfz48_0
                      try clear hfz48_1
                      try clear hfz48_2
                      try clear hfz51_0
                      try clear hfz51_1
                      try clear hfz51_2
                      try clear hfz56_0
                      try clear hfz56_1
                      try clear hfz56_2
                      try clear hx211_0
                      try clear hx235_0
                      try clear p2
                      try clear p21
                      try clear p211
                      try clear p235
                      try clear p6
                      try clear q2
                      try clear q21
                      try clear q211
                      try clear q235
                      obtain ⟨kq, x121_49, rfl, HA, HJ49, HO_7, HO_205001, HO_235001, BK204, BK234, HB⟩ := hcut
                      cases kq with
                      | zero => exact absurd HA.out (by simp [lodgerlaw03_QueueOrder.j3])
                      | succ kj49 =>
                        have H := HA.out
                        clear HA
                        simp only [lodgerlaw03_QueueOrder.j3] at H
                        by_cases c65 : x121_49 = true
                        · subst c65
                          have H1 : (some false) = some r := by rw [if_pos rfl] at H; exact H
                          rw [hr_.out] at H1
                          exact absurd (Option.some.inj H1) (by decide)
                        · replace c65 := Bool.eq_false_iff.mpr c65
                          subst c65
                          have H1 : (if t233 = true then ((queue_Ends.f t227 t228 t231).bind fun t236 => (if x9_2 = true then (if (t236 != ((wrap64 (x8_2 + 1)) == (x7_2.length : Int))) = true then (some false) else (lodgerlaw03_QueueOrder.l0 kj49 a0 l1 x7_2 (wrap64 (x8_2 + 1)) x9_2 (wrap64 (x10_2 + 1)) t227 t228 t231)) else (if (t236 != false) = true then (some false) else (lodgerlaw03_QueueOrder.l0 kj49 a0 l1 x7_2 (wrap64 (x8_2 + 1)) x9_2 (wrap64 (x10_2 + 1)) t227 t228 t231)))) else ((queue_Ends.f t227 t228 t231).bind fun t237 => (if x9_2 = true then (if (t237 != (x8_2 == (x7_2.length : Int))) = true then (some false) else (lodgerlaw03_QueueOrder.l0 kj49 a0 l1 x7_2 x8_2 x9_2 (wrap64 (x10_2 + 1)) t227 t228 t231)) else (if (t237 != false) = true then (some false) else (lodgerlaw03_QueueOrder.l0 kj49 a0 l1 x7_2 x8_2 x9_2 (wrap64 (x10_2 + 1)) t227 t228 t231))))) = some r := by rw [if_neg (show ¬ (false = true) by decide)] at H; exact H
                          clear H
                          have H := H1
                          clear H1
                          by_cases c66 : t233 = true
                          · subst c66
                            have H1 : ((queue_Ends.f t227 t228 t231).bind fun t236 => (if x9_2 = true then (if (t236 != ((wrap64 (x8_2 + 1)) == (x7_2.length : Int))) = true then (some false) else (lodgerlaw03_QueueOrder.l0 kj49 a0 l1 x7_2 (wrap64 (x8_2 + 1)) x9_2 (wrap64 (x10_2 + 1)) t227 t228 t231)) else (if (t236 != false) = true then (some false) else (lodgerlaw03_QueueOrder.l0 kj49 a0 l1 x7_2 (wrap64 (x8_2 + 1)) x9_2 (wrap64 (x10_2 + 1)) t227 t228 t231)))) = some r := by rw [if_pos rfl] at H; exact H
                            clear H
                            have H := H1
                            clear H1
                            replace H := Option.bind_eq_some_iff.mp H
                            obtain ⟨t236, A670, H⟩ := H
                            replace H : (if x9_2 = true then (if (t236 != ((wrap64 (x8_2 + 1)) == (x7_2.length : Int))) = true then (some false) else (lodgerlaw03_QueueOrder.l0 kj49 a0 l1 x7_2 (wrap64 (x8_2 + 1)) x9_2 (wrap64 (x10_2 + 1)) t227 t228 t231)) else (if (t236 != false) = true then (some false) else (lodgerlaw03_QueueOrder.l0 kj49 a0 l1 x7_2 (wrap64 (x8_2 + 1)) x9_2 (wrap64 (x10_2 + 1)) t227 t228 t231))) = some r := H
                            have A67 := Aside0.mk A670
                            clear A670
                            by_cases c68 : x9_2 = true
                            · subst c68
                              have H1 : (if (t236 != ((wrap64 (x8_2 + 1)) == (x7_2.length : Int))) = true then (some false) else (lodgerlaw03_QueueOrder.l0 kj49 a0 l1 x7_2 (wrap64 (x8_2 + 1)) true (wrap64 (x10_2 + 1)) t227 t228 t231)) = some r := by rw [if_pos rfl] at H; exact H
                              clear H
                              have H := H1
                              clear H1
                              by_cases c69 : (t236 != ((wrap64 (x8_2 + 1)) == (x7_2.length : Int))) = true
                              · rw [if_pos c69] at H
                                rw [hr_.out] at H
                                exact absurd (Option.some.inj H) (by decide)
                              · rw [if_neg c69] at H
                                have c69b0 : (t236 != ((wrap64 (x8_2 + 1)) == (x7_2.length : Int))) = false := by simpa using c69
                                (try (have c69b1 : decide (t236 = ((wrap64 (x8_2 + 1)) == (x7_2.length : Int))) = true := by simpa using c69))
                                (try (have c69b2 : (t236 == ((wrap64 (x8_2 + 1)) == (x7_2.length : Int))) = true := by simpa using c69))
                                clear c69
                                have H' := Aside0.mk H
                                clear H
                                have hnb75 := NB234_204.out
                                have hnc75 := NB204_234.out
                                have hcz76_0 : wc.cell? ⟨gb234, 0, none⟩ = some (.int .i64 t227) := (blk_cell BK234.out 0).trans rfl
                                have hcz76_1 : wc.cell? ⟨gb234, 1, none⟩ = some (.slice Ao57 t228.length co57) := (blk_cell BK234.out 1).trans rfl
                                have hcz76_2 : wc.cell? ⟨gb234, 2, none⟩ = some (.bool t231) := (blk_cell BK234.out 2).trans rfl
                                have hfz76_0 := blk_frozen BK234.out 0
                                have hfz76_1 := blk_frozen BK234.out 1
                                have hfz76_2 := blk_frozen BK234.out 2
                                have hcz77_0 : wc.cell? ⟨gb204, 0, none⟩ = some (.int .i64 x205000_2) := (blk_cell BK204.out 0).trans rfl
                                have hcz77_1 : wc.cell? ⟨gb204, 1, none⟩ = some (.slice Ao52 x205001_2.length co52) := (blk_cell BK204.out 1).trans rfl
                                have hcz77_2 : wc.cell? ⟨gb204, 2, none⟩ = some (.bool x205002_2) := (blk_cell BK204.out 2).trans rfl
                                have hfz77_0 := blk_frozen BK204.out 0
                                have hfz77_1 := blk_frozen BK204.out 1
                                have hfz77_2 := blk_frozen BK204.out 2
                                go_wp2_with (first | ((with_reducible refine gate_callee (f := 33) rfl ?_); refine goesL_ (some 127) rfl rfl Try.func33 (by kernel_rfl) rfl #[.agg #[.int .i64 t227, .slice Ao57 t228.length co57, .bool t231]] rfl (by (try simp only [List.map_toArray, List.map_cons, List.map_nil]); first | done | rfl | (simp only [List.length_drop, List.length_take]; rfl)) ?_; (with_reducible refine (queue_Ends.calls t227 _ _ t228 t231 t236 _ ?side1 ?side2 A67.out).mono ?_); (case side1 => refine (Kd.V_reads' (e := 3) (base := w.heap.size) (ok := fun k_ => (some k_ ≠ (u7 : Value).ownBlock ∧ (k_ ≠ gb204 ∧ k_ ≠ gb234))) (n := t228.length) (c := co57) ?_).2.2; exact (by (with_reducible repeat (first | apply Kd.V_alloc | apply Kd.V_drewN | apply Kd.V_drew)); exact (Kd.V_mono (Kd.V_far (p := ⟨gb204, 2, none⟩) (Kd.V_far (p := ⟨gb204, 1, none⟩) (Kd.V_far (p := ⟨gb204, 0, none⟩) (Kd.V_mono HO_235001.out (fun k_ hk => (⟨hk, hk.2.1⟩ : _ ∧ k_ ≠ gb204))) (fun _ hk => hk.2) (.int .i64 t227)) (fun _ hk => hk.2) (.slice Ao57 t228.length co57)) (fun _ hk => hk.2) (.bool t231)) (fun _ h_ => h_.1)))); (case side2 => exact (Kd.V_reads' HO_235001.out).2.1); rintro e w78 ⟨rfl, hb⟩; refine ⟨_, rfl, ?_⟩; have n0_ := Aside0.mk (Kd.R_below (by (with_reducible repeat (first | apply Kd.R_alloc | apply Kd.R_drewN | apply Kd.R_drew)); exact (Kd.R_mono (Kd.R_far (p := ⟨gb204, 2, none⟩) (Kd.R_far (p := ⟨gb204, 1, none⟩) (Kd.R_far (p := ⟨gb204, 0, none⟩) (Kd.R_types HO_7.out BK204.out (by decide)) (fun _ hk => hk.2) (.int .i64 t227)) (fun _ hk => hk.2) (.slice Ao57 t228.length co57)) (fun _ hk => hk.2) (.bool t231)) (fun _ h_ => h_.1))) hb); have n1_ := Aside0.mk (Kd.V_below (by (with_reducible repeat (first | apply Kd.V_alloc | apply Kd.V_drewN | apply Kd.V_drew)); exact (Kd.V_mono (Kd.V_far (p := ⟨gb204, 2, none⟩) (Kd.V_far (p := ⟨gb204, 1, none⟩) (Kd.V_far (p := ⟨gb204, 0, none⟩) (Kd.V_mono HO_205001.out (fun k_ hk => (⟨hk, hk.2.1⟩ : _ ∧ k_ ≠ gb204))) (fun _ hk => hk.2) (.int .i64 t227)) (fun _ hk => hk.2) (.slice Ao57 t228.length co57)) (fun _ hk => hk.2) (.bool t231)) (fun _ h_ => h_.1))) hb); have n2_ := Aside0.mk (Kd.V_below (by (with_reducible repeat (first | apply Kd.V_alloc | apply Kd.V_drewN | apply Kd.V_drew)); exact (Kd.V_mono (Kd.V_far (p := ⟨gb204, 2, none⟩) (Kd.V_far (p := ⟨gb204, 1, none⟩) (Kd.V_far (p := ⟨gb204, 0, none⟩) (Kd.V_mono HO_235001.out (fun k_ hk => (⟨hk, hk.2.1⟩ : _ ∧ k_ ≠ gb204))) (fun _ hk => hk.2) (.int .i64 t227)) (fun _ hk => hk.2) (.slice Ao57 t228.length co57)) (fun _ hk => hk.2) (.bool t231)) (fun _ h_ => h_.1))) hb); have n3_ := Aside0.mk (blk_below (g := gb204) (o := .cells #[.int .i64 t227, .slice Ao57 t228.length co57, .bool t231] 40 (0, 0)) (by (with_reducible repeat (first | refine blk_drewN ?_ _ | refine blk_drew ?_ | refine blk_alloc ?_ _)); refine blk_put (cs := #[.int .i64 t227, .slice Ao57 t228.length co57, .bool x205002_2]) ?_ 2 _ rfl; (with_reducible repeat (first | refine blk_drewN ?_ _ | refine blk_drew ?_ | refine blk_alloc ?_ _)); refine blk_put (cs := #[.int .i64 t227, .slice Ao52 x205001_2.length co52, .bool x205002_2]) ?_ 1 _ rfl; (with_reducible repeat (first | refine blk_drewN ?_ _ | refine blk_drew ?_ | refine blk_alloc ?_ _)); refine blk_put (cs := #[.int .i64 x205000_2, .slice Ao52 x205001_2.length co52, .bool x205002_2]) ?_ 0 _ rfl; (with_reducible repeat (first | refine blk_drewN ?_ _ | refine blk_drew ?_ | refine blk_alloc ?_ _)); exact BK204.out) hb); have n4_ := Aside0.mk (blk_below (g := gb234) (o := .cells #[.int .i64 t227, .slice Ao57 t228.length co57, .bool t231] 40 (0, 0)) (by (with_reducible repeat (first | refine blk_drewN ?_ _ | refine blk_drew ?_ | refine blk_alloc ?_ _)); refine blk_far ?_ NB234_204.out _; (with_reducible repeat (first | refine blk_drewN ?_ _ | refine blk_drew ?_ | refine blk_alloc ?_ _)); refine blk_far ?_ NB234_204.out _; (with_reducible repeat (first | refine blk_drewN ?_ _ | refine blk_drew ?_ | refine blk_alloc ?_ _)); refine blk_far ?_ NB234_204.out _; (with_reducible repeat (first | refine blk_drewN ?_ _ | refine blk_drew ?_ | refine blk_alloc ?_ _)); exact BK234.out) hb); have n5_ := Aside0.mk (below_step (by repeat (first | (with_reducible first | exact HB.out | apply below_alloc | apply pw_below_drewN | apply below_drew1 | refine below_set ?_ GE204.out | refine below_set ?_ GE234.out) | exact HB.out)) hb); clear HO_7; clear HO_205001; clear HO_235001; clear BK204; clear BK234; clear HB; have HO_7 := n0_; have HO_205001 := n1_; have HO_235001 := n2_; have BK204 := n3_; have BK234 := n4_; have HB := n5_; clear n0_ n1_ n2_ n3_ n4_ n5_; (try clear hb); (try clear hb2); (try clear hk); (try clear hi); obtain ⟨Ao79, co79, eo79⟩ := Kd.R_slice HO_7.out; subst eo79))
                                go_roundg kj49
                                case measure => have := HJ2.out; have := HK2.out; have := HJ49.out; omega
                                case rel => exact ⟨(x7_2), (wrap64 (x8_2 + 1)), (true), (wrap64 (x10_2 + 1)), (t227), (t228), (t231), (.slice Ao57 t228.length co57), (by first | rfl | (simp; done) | (simp [*]; done)), (by first | rfl | (simp; done) | (simp [*]; done)), (by first | rfl | (simp; done) | (simp [*]; done)), H', ⟨by have := HJ2.out; have := HK2.out; have := HJ49.out; omega⟩, ⟨by (with_reducible repeat (first | apply Kd.R_alloc | apply Kd.R_drewN | apply Kd.R_drew)); exact HO_7.out⟩, ⟨by (with_reducible repeat (first | apply Kd.V_alloc | apply Kd.V_drewN | apply Kd.V_drew)); exact Kd.V_mono HO_235001.out (fun _ hk => ⟨hk.1, hk.2.1⟩)⟩, ⟨by (with_reducible repeat (first | refine blk_drewN ?_ _ | refine blk_drew ?_ | refine blk_alloc ?_ _)); exact BK204.out⟩, ⟨by repeat (first | (with_reducible first | exact HB.out | apply below_alloc | apply pw_below_drewN | apply below_drew1 | refine below_set ?_ GE204.out | refine below_set ?_ GE234.out) | exact HB.out)⟩⟩
                            · replace c68 := Bool.eq_false_iff.mpr c68
                              subst c68
                              have H1 : (if (t236 != false) = true then (some false) else (lodgerlaw03_QueueOrder.l0 kj49 a0 l1 x7_2 (wrap64 (x8_2 + 1)) false (wrap64 (x10_2 + 1)) t227 t228 t231)) = some r := by rw [if_neg (show ¬ (false = true) by decide)] at H; exact H
                              clear H
                              have H := H1
                              clear H1
                              by_cases c80 : (t236 != false) = true
                              · rw [if_pos c80] at H
                                rw [hr_.out] at H
                                exact absurd (Option.some.inj H) (by decide)
                              · rw [if_neg c80] at H
                                have c80b0 : (t236 != false) = false := by simpa using c80
                                have z_c80b0 : t236 = false := by revert c80b0; generalize t236 = z_; cases z_ <;> decide
                                (try (have c80b1 : decide (t236 = false) = true := by simpa using c80))
                                (try (have c80b2 : (t236 == false) = true := by simpa using c80))
                                clear c80
                                have H' := Aside0.mk H
                                clear H
                                have hnb85 := NB234_204.out
                                have hnc85 := NB204_234.out
                                have hcz86_0 : wc.cell? ⟨gb234, 0, none⟩ = some (.int .i64 t227) := (blk_cell BK234.out 0).trans rfl
                                have hcz86_1 : wc.cell? ⟨gb234, 1, none⟩ = some (.slice Ao57 t228.length co57) := (blk_cell BK234.out 1).trans rfl
                                have hcz86_2 : wc.cell? ⟨gb234, 2, none⟩ = some (.bool t231) := (blk_cell BK234.out 2).trans rfl
                                have hfz86_0 := blk_frozen BK234.out 0
                                have hfz86_1 := blk_frozen BK234.out 1
                                have hfz86_2 := blk_frozen BK234.out 2
                                have hcz87_0 : wc.cell? ⟨gb204, 0, none⟩ = some (.int .i64 x205000_2) := (blk_cell BK204.out 0).trans rfl
                                have hcz87_1 : wc.cell? ⟨gb204, 1, none⟩ = some (.slice Ao52 x205001_2.length co52) := (blk_cell BK204.out 1).trans rfl
                                have hcz87_2 : wc.cell? ⟨gb204, 2, none⟩ = some (.bool x205002_2) := (blk_cell BK204.out 2).trans rfl
                                have hfz87_0 := blk_frozen BK204.out 0
                                have hfz87_1 := blk_frozen BK204.out 1
                                have hfz87_2 := blk_frozen BK204.out 2
                                go_wp2_with (first | ((with_reducible refine gate_callee (f := 33) rfl ?_); refine goesL_ (some 127) rfl rfl Try.func33 (by kernel_rfl) rfl #[.agg #[.int .i64 t227, .slice Ao57 t228.length co57, .bool t231]] rfl (by (try simp only [List.map_toArray, List.map_cons, List.map_nil]); first | done | rfl | (simp only [List.length_drop, List.length_take]; rfl)) ?_; (with_reducible refine (queue_Ends.calls t227 _ _ t228 t231 t236 _ ?side1 ?side2 A67.out).mono ?_); (case side1 => refine (Kd.V_reads' (e := 3) (base := w.heap.size) (ok := fun k_ => (some k_ ≠ (u7 : Value).ownBlock ∧ (k_ ≠ gb204 ∧ k_ ≠ gb234))) (n := t228.length) (c := co57) ?_).2.2; exact (by (with_reducible repeat (first | apply Kd.V_alloc | apply Kd.V_drewN | apply Kd.V_drew)); exact (Kd.V_mono (Kd.V_far (p := ⟨gb204, 2, none⟩) (Kd.V_far (p := ⟨gb204, 1, none⟩) (Kd.V_far (p := ⟨gb204, 0, none⟩) (Kd.V_mono HO_235001.out (fun k_ hk => (⟨hk, hk.2.1⟩ : _ ∧ k_ ≠ gb204))) (fun _ hk => hk.2) (.int .i64 t227)) (fun _ hk => hk.2) (.slice Ao57 t228.length co57)) (fun _ hk => hk.2) (.bool t231)) (fun _ h_ => h_.1)))); (case side2 => exact (Kd.V_reads' HO_235001.out).2.1); rintro e w88 ⟨rfl, hb⟩; refine ⟨_, rfl, ?_⟩; have n0_ := Aside0.mk (Kd.R_below (by (with_reducible repeat (first | apply Kd.R_alloc | apply Kd.R_drewN | apply Kd.R_drew)); exact (Kd.R_mono (Kd.R_far (p := ⟨gb204, 2, none⟩) (Kd.R_far (p := ⟨gb204, 1, none⟩) (Kd.R_far (p := ⟨gb204, 0, none⟩) (Kd.R_types HO_7.out BK204.out (by decide)) (fun _ hk => hk.2) (.int .i64 t227)) (fun _ hk => hk.2) (.slice Ao57 t228.length co57)) (fun _ hk => hk.2) (.bool t231)) (fun _ h_ => h_.1))) hb); have n1_ := Aside0.mk (Kd.V_below (by (with_reducible repeat (first | apply Kd.V_alloc | apply Kd.V_drewN | apply Kd.V_drew)); exact (Kd.V_mono (Kd.V_far (p := ⟨gb204, 2, none⟩) (Kd.V_far (p := ⟨gb204, 1, none⟩) (Kd.V_far (p := ⟨gb204, 0, none⟩) (Kd.V_mono HO_205001.out (fun k_ hk => (⟨hk, hk.2.1⟩ : _ ∧ k_ ≠ gb204))) (fun _ hk => hk.2) (.int .i64 t227)) (fun _ hk => hk.2) (.slice Ao57 t228.length co57)) (fun _ hk => hk.2) (.bool t231)) (fun _ h_ => h_.1))) hb); have n2_ := Aside0.mk (Kd.V_below (by (with_reducible repeat (first | apply Kd.V_alloc | apply Kd.V_drewN | apply Kd.V_drew)); exact (Kd.V_mono (Kd.V_far (p := ⟨gb204, 2, none⟩) (Kd.V_far (p := ⟨gb204, 1, none⟩) (Kd.V_far (p := ⟨gb204, 0, none⟩) (Kd.V_mono HO_235001.out (fun k_ hk => (⟨hk, hk.2.1⟩ : _ ∧ k_ ≠ gb204))) (fun _ hk => hk.2) (.int .i64 t227)) (fun _ hk => hk.2) (.slice Ao57 t228.length co57)) (fun _ hk => hk.2) (.bool t231)) (fun _ h_ => h_.1))) hb); have n3_ := Aside0.mk (blk_below (g := gb204) (o := .cells #[.int .i64 t227, .slice Ao57 t228.length co57, .bool t231] 40 (0, 0)) (by (with_reducible repeat (first | refine blk_drewN ?_ _ | refine blk_drew ?_ | refine blk_alloc ?_ _)); refine blk_put (cs := #[.int .i64 t227, .slice Ao57 t228.length co57, .bool x205002_2]) ?_ 2 _ rfl; (with_reducible repeat (first | refine blk_drewN ?_ _ | refine blk_drew ?_ | refine blk_alloc ?_ _)); refine blk_put (cs := #[.int .i64 t227, .slice Ao52 x205001_2.length co52, .bool x205002_2]) ?_ 1 _ rfl; (with_reducible repeat (first | refine blk_drewN ?_ _ | refine blk_drew ?_ | refine blk_alloc ?_ _)); refine blk_put (cs := #[.int .i64 x205000_2, .slice Ao52 x205001_2.length co52, .bool x205002_2]) ?_ 0 _ rfl; (with_reducible repeat (first | refine blk_drewN ?_ _ | refine blk_drew ?_ | refine blk_alloc ?_ _)); exact BK204.out) hb); have n4_ := Aside0.mk (blk_below (g := gb234) (o := .cells #[.int .i64 t227, .slice Ao57 t228.length co57, .bool t231] 40 (0, 0)) (by (with_reducible repeat (first | refine blk_drewN ?_ _ | refine blk_drew ?_ | refine blk_alloc ?_ _)); refine blk_far ?_ NB234_204.out _; (with_reducible repeat (first | refine blk_drewN ?_ _ | refine blk_drew ?_ | refine blk_alloc ?_ _)); refine blk_far ?_ NB234_204.out _; (with_reducible repeat (first | refine blk_drewN ?_ _ | refine blk_drew ?_ | refine blk_alloc ?_ _)); refine blk_far ?_ NB234_204.out _; (with_reducible repeat (first | refine blk_drewN ?_ _ | refine blk_drew ?_ | refine blk_alloc ?_ _)); exact BK234.out) hb); have n5_ := Aside0.mk (below_step (by repeat (first | (with_reducible first | exact HB.out | apply below_alloc | apply pw_below_drewN | apply below_drew1 | refine below_set ?_ GE204.out | refine below_set ?_ GE234.out) | exact HB.out)) hb); clear HO_7; clear HO_205001; clear HO_235001; clear BK204; clear BK234; clear HB; have HO_7 := n0_; have HO_205001 := n1_; have HO_235001 := n2_; have BK204 := n3_; have BK234 := n4_; have HB := n5_; clear n0_ n1_ n2_ n3_ n4_ n5_; (try clear hb); (try clear hb2); (try clear hk); (try clear hi)))
                                go_roundg kj49
                                case measure => have := HJ2.out; have := HK2.out; have := HJ49.out; omega
                                case rel => exact ⟨(x7_2), (wrap64 (x8_2 + 1)), (false), (wrap64 (x10_2 + 1)), (t227), (t228), (t231), (.slice Ao57 t228.length co57), (by first | rfl | (simp; done) | (simp [*]; done)), (by first | rfl | (simp; done) | (simp [*]; done)), (by first | rfl | (simp; done) | (simp [*]; done)), H', ⟨by have := HJ2.out; have := HK2.out; have := HJ49.out; omega⟩, ⟨by (with_reducible repeat (first | apply Kd.R_alloc | apply Kd.R_drewN | apply Kd.R_drew)); exact HO_7.out⟩, ⟨by (with_reducible repeat (first | apply Kd.V_alloc | apply Kd.V_drewN | apply Kd.V_drew)); exact Kd.V_mono HO_235001.out (fun _ hk => ⟨hk.1, hk.2.1⟩)⟩, ⟨by (with_reducible repeat (first | refine blk_drewN ?_ _ | refine blk_drew ?_ | refine blk_alloc ?_ _)); exact BK204.out⟩, ⟨by repeat (first | (with_reducible first | exact HB.out | apply below_alloc | apply pw_below_drewN | apply below_drew1 | refine below_set ?_ GE204.out | refine below_set ?_ GE234.out) | exact HB.out)⟩⟩
                          · replace c66 := Bool.eq_false_iff.mpr c66
                            subst c66
                            have H1 : ((queue_Ends.f t227 t228 t231).bind fun t237 => (if x9_2 = true then (if (t237 != (x8_2 == (x7_2.length : Int))) = true then (some false) else (lodgerlaw03_QueueOrder.l0 kj49 a0 l1 x7_2 x8_2 x9_2 (wrap64 (x10_2 + 1)) t227 t228 t231)) else (if (t237 != false) = true then (some false) else (lodgerlaw03_QueueOrder.l0 kj49 a0 l1 x7_2 x8_2 x9_2 (wrap64 (x10_2 + 1)) t227 t228 t231)))) = some r := by rw [if_neg (show ¬ (false = true) by decide)] at H; exact H
                            clear H
                            have H := H1
                            clear H1
                            replace H := Option.bind_eq_some_iff.mp H
                            obtain ⟨t237, A890, H⟩ := H
                            replace H : (if x9_2 = true then (if (t237 != (x8_2 == (x7_2.length : Int))) = true then (some false) else (lodgerlaw03_QueueOrder.l0 kj49 a0 l1 x7_2 x8_2 x9_2 (wrap64 (x10_2 + 1)) t227 t228 t231)) else (if (t237 != false) = true then (some false) else (lodgerlaw03_QueueOrder.l0 kj49 a0 l1 x7_2 x8_2 x9_2 (wrap64 (x10_2 + 1)) t227 t228 t231))) = some r := H
                            have A89 := Aside0.mk A890
                            clear A890
                            by_cases c90 : x9_2 = true
                            · subst c90
                              have H1 : (if (t237 != (x8_2 == (x7_2.length : Int))) = true then (some false) else (lodgerlaw03_QueueOrder.l0 kj49 a0 l1 x7_2 x8_2 true (wrap64 (x10_2 + 1)) t227 t228 t231)) = some r := by rw [if_pos rfl] at H; exact H
                              clear H
                              have H := H1
                              clear H1
                              by_cases c91 : (t237 != (x8_2 == (x7_2.length : Int))) = true
                              · rw [if_pos c91] at H
                                rw [hr_.out] at H
                                exact absurd (Option.some.inj H) (by decide)
                              · rw [if_neg c91] at H
                                have c91b0 : (t237 != (x8_2 == (x7_2.length : Int))) = false := by simpa using c91
                                (try (have c91b1 : decide (t237 = (x8_2 == (x7_2.length : Int))) = true := by simpa using c91))
                                (try (have c91b2 : (t237 == (x8_2 == (x7_2.length : Int))) = true := by simpa using c91))
                                clear c91
                                have H' := Aside0.mk H
                                clear H
                                have hnb97 := NB234_204.out
                                have hnc97 := NB204_234.out
                                have hcz98_0 : wc.cell? ⟨gb234, 0, none⟩ = some (.int .i64 t227) := (blk_cell BK234.out 0).trans rfl
                                have hcz98_1 : wc.cell? ⟨gb234, 1, none⟩ = some (.slice Ao57 t228.length co57) := (blk_cell BK234.out 1).trans rfl
                                have hcz98_2 : wc.cell? ⟨gb234, 2, none⟩ = some (.bool t231) := (blk_cell BK234.out 2).trans rfl
                                have hfz98_0 := blk_frozen BK234.out 0
                                have hfz98_1 := blk_frozen BK234.out 1
                                have hfz98_2 := blk_frozen BK234.out 2
                                have hcz99_0 : wc.cell? ⟨gb204, 0, none⟩ = some (.int .i64 x205000_2) := (blk_cell BK204.out 0).trans rfl
                                have hcz99_1 : wc.cell? ⟨gb204, 1, none⟩ = some (.slice Ao52 x205001_2.length co52) := (blk_cell BK204.out 1).trans rfl
                                have hcz99_2 : wc.cell? ⟨gb204, 2, none⟩ = some (.bool x205002_2) := (blk_cell BK204.out 2).trans rfl
                                have hfz99_0 := blk_frozen BK204.out 0
                                have hfz99_1 := blk_frozen BK204.out 1
                                have hfz99_2 := blk_frozen BK204.out 2
                                go_wp2_with (first | ((with_reducible refine gate_callee (f := 33) rfl ?_); refine goesL_ (some 127) rfl rfl Try.func33 (by kernel_rfl) rfl #[.agg #[.int .i64 t227, .slice Ao57 t228.length co57, .bool t231]] rfl (by (try simp only [List.map_toArray, List.map_cons, List.map_nil]); first | done | rfl | (simp only [List.length_drop, List.length_take]; rfl)) ?_; (with_reducible refine (queue_Ends.calls t227 _ _ t228 t231 t237 _ ?side1 ?side2 A89.out).mono ?_); (case side1 => refine (Kd.V_reads' (e := 3) (base := w.heap.size) (ok := fun k_ => (some k_ ≠ (u7 : Value).ownBlock ∧ (k_ ≠ gb204 ∧ k_ ≠ gb234))) (n := t228.length) (c := co57) ?_).2.2; exact (by (with_reducible repeat (first | apply Kd.V_alloc | apply Kd.V_drewN | apply Kd.V_drew)); exact (Kd.V_mono (Kd.V_far (p := ⟨gb204, 2, none⟩) (Kd.V_far (p := ⟨gb204, 1, none⟩) (Kd.V_far (p := ⟨gb204, 0, none⟩) (Kd.V_mono HO_235001.out (fun k_ hk => (⟨hk, hk.2.1⟩ : _ ∧ k_ ≠ gb204))) (fun _ hk => hk.2) (.int .i64 t227)) (fun _ hk => hk.2) (.slice Ao57 t228.length co57)) (fun _ hk => hk.2) (.bool t231)) (fun _ h_ => h_.1)))); (case side2 => exact (Kd.V_reads' HO_235001.out).2.1); rintro e w100 ⟨rfl, hb⟩; refine ⟨_, rfl, ?_⟩; have n0_ := Aside0.mk (Kd.R_below (by (with_reducible repeat (first | apply Kd.R_alloc | apply Kd.R_drewN | apply Kd.R_drew)); exact (Kd.R_mono (Kd.R_far (p := ⟨gb204, 2, none⟩) (Kd.R_far (p := ⟨gb204, 1, none⟩) (Kd.R_far (p := ⟨gb204, 0, none⟩) (Kd.R_types HO_7.out BK204.out (by decide)) (fun _ hk => hk.2) (.int .i64 t227)) (fun _ hk => hk.2) (.slice Ao57 t228.length co57)) (fun _ hk => hk.2) (.bool t231)) (fun _ h_ => h_.1))) hb); have n1_ := Aside0.mk (Kd.V_below (by (with_reducible repeat (first | apply Kd.V_alloc | apply Kd.V_drewN | apply Kd.V_drew)); exact (Kd.V_mono (Kd.V_far (p := ⟨gb204, 2, none⟩) (Kd.V_far (p := ⟨gb204, 1, none⟩) (Kd.V_far (p := ⟨gb204, 0, none⟩) (Kd.V_mono HO_205001.out (fun k_ hk => (⟨hk, hk.2.1⟩ : _ ∧ k_ ≠ gb204))) (fun _ hk => hk.2) (.int .i64 t227)) (fun _ hk => hk.2) (.slice Ao57 t228.length co57)) (fun _ hk => hk.2) (.bool t231)) (fun _ h_ => h_.1))) hb); have n2_ := Aside0.mk (Kd.V_below (by (with_reducible repeat (first | apply Kd.V_alloc | apply Kd.V_drewN | apply Kd.V_drew)); exact (Kd.V_mono (Kd.V_far (p := ⟨gb204, 2, none⟩) (Kd.V_far (p := ⟨gb204, 1, none⟩) (Kd.V_far (p := ⟨gb204, 0, none⟩) (Kd.V_mono HO_235001.out (fun k_ hk => (⟨hk, hk.2.1⟩ : _ ∧ k_ ≠ gb204))) (fun _ hk => hk.2) (.int .i64 t227)) (fun _ hk => hk.2) (.slice Ao57 t228.length co57)) (fun _ hk => hk.2) (.bool t231)) (fun _ h_ => h_.1))) hb); have n3_ := Aside0.mk (blk_below (g := gb204) (o := .cells #[.int .i64 t227, .slice Ao57 t228.length co57, .bool t231] 40 (0, 0)) (by (with_reducible repeat (first | refine blk_drewN ?_ _ | refine blk_drew ?_ | refine blk_alloc ?_ _)); refine blk_put (cs := #[.int .i64 t227, .slice Ao57 t228.length co57, .bool x205002_2]) ?_ 2 _ rfl; (with_reducible repeat (first | refine blk_drewN ?_ _ | refine blk_drew ?_ | refine blk_alloc ?_ _)); refine blk_put (cs := #[.int .i64 t227, .slice Ao52 x205001_2.length co52, .bool x205002_2]) ?_ 1 _ rfl; (with_reducible repeat (first | refine blk_drewN ?_ _ | refine blk_drew ?_ | refine blk_alloc ?_ _)); refine blk_put (cs := #[.int .i64 x205000_2, .slice Ao52 x205001_2.length co52, .bool x205002_2]) ?_ 0 _ rfl; (with_reducible repeat (first | refine blk_drewN ?_ _ | refine blk_drew ?_ | refine blk_alloc ?_ _)); exact BK204.out) hb); have n4_ := Aside0.mk (blk_below (g := gb234) (o := .cells #[.int .i64 t227, .slice Ao57 t228.length co57, .bool t231] 40 (0, 0)) (by (with_reducible repeat (first | refine blk_drewN ?_ _ | refine blk_drew ?_ | refine blk_alloc ?_ _)); refine blk_far ?_ NB234_204.out _; (with_reducible repeat (first | refine blk_drewN ?_ _ | refine blk_drew ?_ | refine blk_alloc ?_ _)); refine blk_far ?_ NB234_204.out _; (with_reducible repeat (first | refine blk_drewN ?_ _ | refine blk_drew ?_ | refine blk_alloc ?_ _)); refine blk_far ?_ NB234_204.out _; (with_reducible repeat (first | refine blk_drewN ?_ _ | refine blk_drew ?_ | refine blk_alloc ?_ _)); exact BK234.out) hb); have n5_ := Aside0.mk (below_step (by repeat (first | (with_reducible first | exact HB.out | apply below_alloc | apply pw_below_drewN | apply below_drew1 | refine below_set ?_ GE204.out | refine below_set ?_ GE234.out) | exact HB.out)) hb); clear HO_7; clear HO_205001; clear HO_235001; clear BK204; clear BK234; clear HB; have HO_7 := n0_; have HO_205001 := n1_; have HO_235001 := n2_; have BK204 := n3_; have BK234 := n4_; have HB := n5_; clear n0_ n1_ n2_ n3_ n4_ n5_; (try clear hb); (try clear hb2); (try clear hk); (try clear hi); obtain ⟨Ao101, co101, eo101⟩ := Kd.R_slice HO_7.out; subst eo101))
                                go_roundg kj49
                                case measure => have := HJ2.out; have := HK2.out; have := HJ49.out; omega
                                case rel => exact ⟨(x7_2), (x8_2), (true), (wrap64 (x10_2 + 1)), (t227), (t228), (t231), (.slice Ao57 t228.length co57), (by first | rfl | (simp; done) | (simp [*]; done)), (by first | rfl | (simp; done) | (simp [*]; done)), (by first | rfl | (simp; done) | (simp [*]; done)), H', ⟨by have := HJ2.out; have := HK2.out; have := HJ49.out; omega⟩, ⟨by (with_reducible repeat (first | apply Kd.R_alloc | apply Kd.R_drewN | apply Kd.R_drew)); exact HO_7.out⟩, ⟨by (with_reducible repeat (first | apply Kd.V_alloc | apply Kd.V_drewN | apply Kd.V_drew)); exact Kd.V_mono HO_235001.out (fun _ hk => ⟨hk.1, hk.2.1⟩)⟩, ⟨by (with_reducible repeat (first | refine blk_drewN ?_ _ | refine blk_drew ?_ | refine blk_alloc ?_ _)); exact BK204.out⟩, ⟨by repeat (first | (with_reducible first | exact HB.out | apply below_alloc | apply pw_below_drewN | apply below_drew1 | refine below_set ?_ GE204.out | refine below_set ?_ GE234.out) | exact HB.out)⟩⟩
                            · replace c90 := Bool.eq_false_iff.mpr c90
                              subst c90
                              have H1 : (if (t237 != false) = true then (some false) else (lodgerlaw03_QueueOrder.l0 kj49 a0 l1 x7_2 x8_2 false (wrap64 (x10_2 + 1)) t227 t228 t231)) = some r := by rw [if_neg (show ¬ (false = true) by decide)] at H; exact H
                              clear H
                              have H := H1
                              clear H1
                              by_cases c102 : (t237 != false) = true
                              · rw [if_pos c102] at H
                                rw [hr_.out] at H
                                exact absurd (Option.some.inj H) (by decide)
                              · rw [if_neg c102] at H
                                have c102b0 : (t237 != false) = false := by simpa using c102
                                have z_c102b0 : t237 = false := by revert c102b0; generalize t237 = z_; cases z_ <;> decide
                                (try (have c102b1 : decide (t237 = false) = true := by simpa using c102))
                                (try (have c102b2 : (t237 == false) = true := by simpa using c102))
                                clear c102
                                have H' := Aside0.mk H
                                clear H
                                have hnb107 := NB234_204.out
                                have hnc107 := NB204_234.out
                                have hcz108_0 : wc.cell? ⟨gb234, 0, none⟩ = some (.int .i64 t227) := (blk_cell BK234.out 0).trans rfl
                                have hcz108_1 : wc.cell? ⟨gb234, 1, none⟩ = some (.slice Ao57 t228.length co57) := (blk_cell BK234.out 1).trans rfl
                                have hcz108_2 : wc.cell? ⟨gb234, 2, none⟩ = some (.bool t231) := (blk_cell BK234.out 2).trans rfl
                                have hfz108_0 := blk_frozen BK234.out 0
                                have hfz108_1 := blk_frozen BK234.out 1
                                have hfz108_2 := blk_frozen BK234.out 2
                                have hcz109_0 : wc.cell? ⟨gb204, 0, none⟩ = some (.int .i64 x205000_2) := (blk_cell BK204.out 0).trans rfl
                                have hcz109_1 : wc.cell? ⟨gb204, 1, none⟩ = some (.slice Ao52 x205001_2.length co52) := (blk_cell BK204.out 1).trans rfl
                                have hcz109_2 : wc.cell? ⟨gb204, 2, none⟩ = some (.bool x205002_2) := (blk_cell BK204.out 2).trans rfl
                                have hfz109_0 := blk_frozen BK204.out 0
                                have hfz109_1 := blk_frozen BK204.out 1
                                have hfz109_2 := blk_frozen BK204.out 2
                                go_wp2_with (first | ((with_reducible refine gate_callee (f := 33) rfl ?_); refine goesL_ (some 127) rfl rfl Try.func33 (by kernel_rfl) rfl #[.agg #[.int .i64 t227, .slice Ao57 t228.length co57, .bool t231]] rfl (by (try simp only [List.map_toArray, List.map_cons, List.map_nil]); first | done | rfl | (simp only [List.length_drop, List.length_take]; rfl)) ?_; (with_reducible refine (queue_Ends.calls t227 _ _ t228 t231 t237 _ ?side1 ?side2 A89.out).mono ?_); (case side1 => refine (Kd.V_reads' (e := 3) (base := w.heap.size) (ok := fun k_ => (some k_ ≠ (u7 : Value).ownBlock ∧ (k_ ≠ gb204 ∧ k_ ≠ gb234))) (n := t228.length) (c := co57) ?_).2.2; exact (by (with_reducible repeat (first | apply Kd.V_alloc | apply Kd.V_drewN | apply Kd.V_drew)); exact (Kd.V_mono (Kd.V_far (p := ⟨gb204, 2, none⟩) (Kd.V_far (p := ⟨gb204, 1, none⟩) (Kd.V_far (p := ⟨gb204, 0, none⟩) (Kd.V_mono HO_235001.out (fun k_ hk => (⟨hk, hk.2.1⟩ : _ ∧ k_ ≠ gb204))) (fun _ hk => hk.2) (.int .i64 t227)) (fun _ hk => hk.2) (.slice Ao57 t228.length co57)) (fun _ hk => hk.2) (.bool t231)) (fun _ h_ => h_.1)))); (case side2 => exact (Kd.V_reads' HO_235001.out).2.1); rintro e w110 ⟨rfl, hb⟩; refine ⟨_, rfl, ?_⟩; have n0_ := Aside0.mk (Kd.R_below (by (with_reducible repeat (first | apply Kd.R_alloc | apply Kd.R_drewN | apply Kd.R_drew)); exact (Kd.R_mono (Kd.R_far (p := ⟨gb204, 2, none⟩) (Kd.R_far (p := ⟨gb204, 1, none⟩) (Kd.R_far (p := ⟨gb204, 0, none⟩) (Kd.R_types HO_7.out BK204.out (by decide)) (fun _ hk => hk.2) (.int .i64 t227)) (fun _ hk => hk.2) (.slice Ao57 t228.length co57)) (fun _ hk => hk.2) (.bool t231)) (fun _ h_ => h_.1))) hb); have n1_ := Aside0.mk (Kd.V_below (by (with_reducible repeat (first | apply Kd.V_alloc | apply Kd.V_drewN | apply Kd.V_drew)); exact (Kd.V_mono (Kd.V_far (p := ⟨gb204, 2, none⟩) (Kd.V_far (p := ⟨gb204, 1, none⟩) (Kd.V_far (p := ⟨gb204, 0, none⟩) (Kd.V_mono HO_205001.out (fun k_ hk => (⟨hk, hk.2.1⟩ : _ ∧ k_ ≠ gb204))) (fun _ hk => hk.2) (.int .i64 t227)) (fun _ hk => hk.2) (.slice Ao57 t228.length co57)) (fun _ hk => hk.2) (.bool t231)) (fun _ h_ => h_.1))) hb); have n2_ := Aside0.mk (Kd.V_below (by (with_reducible repeat (first | apply Kd.V_alloc | apply Kd.V_drewN | apply Kd.V_drew)); exact (Kd.V_mono (Kd.V_far (p := ⟨gb204, 2, none⟩) (Kd.V_far (p := ⟨gb204, 1, none⟩) (Kd.V_far (p := ⟨gb204, 0, none⟩) (Kd.V_mono HO_235001.out (fun k_ hk => (⟨hk, hk.2.1⟩ : _ ∧ k_ ≠ gb204))) (fun _ hk => hk.2) (.int .i64 t227)) (fun _ hk => hk.2) (.slice Ao57 t228.length co57)) (fun _ hk => hk.2) (.bool t231)) (fun _ h_ => h_.1))) hb); have n3_ := Aside0.mk (blk_below (g := gb204) (o := .cells #[.int .i64 t227, .slice Ao57 t228.length co57, .bool t231] 40 (0, 0)) (by (with_reducible repeat (first | refine blk_drewN ?_ _ | refine blk_drew ?_ | refine blk_alloc ?_ _)); refine blk_put (cs := #[.int .i64 t227, .slice Ao57 t228.length co57, .bool x205002_2]) ?_ 2 _ rfl; (with_reducible repeat (first | refine blk_drewN ?_ _ | refine blk_drew ?_ | refine blk_alloc ?_ _)); refine blk_put (cs := #[.int .i64 t227, .slice Ao52 x205001_2.length co52, .bool x205002_2]) ?_ 1 _ rfl; (with_reducible repeat (first | refine blk_drewN ?_ _ | refine blk_drew ?_ | refine blk_alloc ?_ _)); refine blk_put (cs := #[.int .i64 x205000_2, .slice Ao52 x205001_2.length co52, .bool x205002_2]) ?_ 0 _ rfl; (with_reducible repeat (first | refine blk_drewN ?_ _ | refine blk_drew ?_ | refine blk_alloc ?_ _)); exact BK204.out) hb); have n4_ := Aside0.mk (blk_below (g := gb234) (o := .cells #[.int .i64 t227, .slice Ao57 t228.length co57, .bool t231] 40 (0, 0)) (by (with_reducible repeat (first | refine blk_drewN ?_ _ | refine blk_drew ?_ | refine blk_alloc ?_ _)); refine blk_far ?_ NB234_204.out _; (with_reducible repeat (first | refine blk_drewN ?_ _ | refine blk_drew ?_ | refine blk_alloc ?_ _)); refine blk_far ?_ NB234_204.out _; (with_reducible repeat (first | refine blk_drewN ?_ _ | refine blk_drew ?_ | refine blk_alloc ?_ _)); refine blk_far ?_ NB234_204.out _; (with_reducible repeat (first | refine blk_drewN ?_ _ | refine blk_drew ?_ | refine blk_alloc ?_ _)); exact BK234.out) hb); have n5_ := Aside0.mk (below_step (by repeat (first | (with_reducible first | exact HB.out | apply below_alloc | apply pw_below_drewN | apply below_drew1 | refine below_set ?_ GE204.out | refine below_set ?_ GE234.out) | exact HB.out)) hb); clear HO_7; clear HO_205001; clear HO_235001; clear BK204; clear BK234; clear HB; have HO_7 := n0_; have HO_205001 := n1_; have HO_235001 := n2_; have BK204 := n3_; have BK234 := n4_; have HB := n5_; clear n0_ n1_ n2_ n3_ n4_ n5_; (try clear hb); (try clear hb2); (try clear hk); (try clear hi)))
                                go_roundg kj49
                                case measure => have := HJ2.out; have := HK2.out; have := HJ49.out; omega
                                case rel => exact ⟨(x7_2), (x8_2), (false), (wrap64 (x10_2 + 1)), (t227), (t228), (t231), (.slice Ao57 t228.length co57), (by first | rfl | (simp; done) | (simp [*]; done)), (by first | rfl | (simp; done) | (simp [*]; done)), (by first | rfl | (simp; done) | (simp [*]; done)), H', ⟨by have := HJ2.out; have := HK2.out; have := HJ49.out; omega⟩, ⟨by (with_reducible repeat (first | apply Kd.R_alloc | apply Kd.R_drewN | apply Kd.R_drew)); exact HO_7.out⟩, ⟨by (with_reducible repeat (first | apply Kd.V_alloc | apply Kd.V_drewN | apply Kd.V_drew)); exact Kd.V_mono HO_235001.out (fun _ hk => ⟨hk.1, hk.2.1⟩)⟩, ⟨by (with_reducible repeat (first | refine blk_drewN ?_ _ | refine blk_drew ?_ | refine blk_alloc ?_ _)); exact BK204.out⟩, ⟨by repeat (first | (with_reducible first | exact HB.out | apply below_alloc | apply pw_below_drewN | apply below_drew1 | refine below_set ?_ GE204.out | refine below_set ?_ GE234.out) | exact HB.out)⟩⟩
              · rw [if_neg c17] at H
                exact absurd H (by simp)
            · rw [if_neg c16] at H
              have c16b0 : decide (x10_2 < (l1.length : Int)) = false := decide_eq_false c16
              clear c16
              by_cases c111 : 0 ≤ x8_2
              · rw [if_pos c111] at H
                have c111b0 := eq_true c111
                have c111b1 : decide (0 ≤ x8_2) = true := decide_eq_true c111
                clear c111
                by_cases c112 : x8_2 ≤ (x7_2.length : Int)
                · rw [if_pos c112] at H
                  have c112b0 := eq_true c112
                  have c112b1 : decide (x8_2 ≤ (x7_2.length : Int)) = true := decide_eq_true c112
                  clear c112
                  obtain ⟨y205, hy205⟩ : ∃ y_ : List Int, y_ = (x7_2.drop (x8_2 : Int).toNat) := ⟨_, rfl⟩
                  replace H : ((lodgerref03_Ints.f k2 x205001_2 y205).bind fun t209 => (if t209 = true then ((queue_May.f x205000_2 x205001_2 x205002_2).bind fun t210 => (some t210)) else (some false))) = some r := by first | (rw [hy205]; with_reducible exact H) | (have H2_ := (Option.bind_some _ _).symm.trans H; rw [hy205]; with_reducible exact H2_) | (have H2_ := (Option.bind_some _ _).symm.trans H; with_reducible exact H2_) | with_reducible exact H | (rw [hy205]; exact H) | exact H
                  have Ny205 := Aside0.mk hy205
                  clear hy205
                  replace H := Option.bind_eq_some_iff.mp H
                  obtain ⟨t209, A1130, H⟩ := H
                  replace H : (if t209 = true then ((queue_May.f x205000_2 x205001_2 x205002_2).bind fun t210 => (some t210)) else (some false)) = some r := H
                  have A113 := Aside0.mk A1130
                  clear A1130
                  by_cases c114 : t209 = true
                  · subst c114
                    have H1 : ((queue_May.f x205000_2 x205001_2 x205002_2).bind fun t210 => (some t210)) = some r := by rw [if_pos rfl] at H; exact H
                    clear H
                    have H := H1
                    clear H1
                    replace H := Option.bind_eq_some_iff.mp H
                    obtain ⟨t210, A1150, H⟩ := H
                    replace H : (some t210) = some r := H
                    have A115 := Aside0.mk A1150
                    clear A1150
                    first | (exfalso; rw [hr_.out] at H; exact absurd (Option.some.inj H) (by decide)) | (try clear hr_)
                    all_goals
                      obtain rfl := Option.some.inj H
                      try go_wp2
                      have n0_ := Aside0.mk (Kd.R_drew HO_7.out)
                      have n1_ := Aside0.mk (Kd.V_drew HO_205001.out)
                      have n2_ := Aside0.mk (blk_drew BK204.out)
                      have n3_ := Aside0.mk (below_drew1 HB.out)
                      clear HO_7
                      clear HO_205001
                      clear BK204
                      clear HB
                      have HO_7 := n0_
                      have HO_205001 := n1_
                      have BK204 := n2_
                      have HB := n3_
                      clear n0_ n1_ n2_ n3_
                      obtain ⟨Ao118, co118, eo118⟩ := Kd.R_slice HO_7.out
                      (first | subst eo118 | (injection eo118 with f1_ f2_ f3_; have f4_ := f1_.symm; have f5_ := f3_.symm; clear f1_ f2_ f3_; subst f4_; subst f5_))
                      have q117 : (x8_2 : Int) ≤ ((x7_2.length : Int) : Int) := of_decide_eq_true (by first | (with_reducible assumption) | assumption)
                      obtain ⟨i0117, hi0117, _, hsz117, _⟩ := info_parts info3
                      have hroom117 : x7_2.length ≤ co118 := (Kd.R_reads' HO_7.out).2.1
                      have hC117 : Kd.C (Kd.int .i64) _ Ao118 x7_2.length x7_2 := (Kd.R_reads' HO_7.out).2.2
                      have q0117 : (0 : Int) ≤ (x8_2 : Int) := of_decide_eq_true (by first | (with_reducible assumption) | assumption)
                      have hcut117 := cut_from (P := Try.prog) 38 3 .i64 Try.underlying38 hi0117 1 hsz117 Ao118 x7_2.length co118 x8_2 q0117 q117
                      have hr117 := Kd.C_drop (m := (x8_2 : Int).toNat) (c := co118) hC117 (by omega) hroom117
                      obtain ⟨A117, hA117⟩ : ∃ A1, A1 = (if co118 = (x8_2 : Int).toNat then Ao118 else (Ao118 : Option Addr).map (·.add ((x8_2 : Int).toNat * 1))) := ⟨_, rfl⟩
                      obtain ⟨c117, hc117⟩ : ∃ c1, c1 = co118 - (x8_2 : Int).toNat := ⟨_, rfl⟩
                      have hy117 : y205.length = x7_2.length - (x8_2 : Int).toNat := (by rw [Ny205.out, List.length_drop] <;> omega)
                      rw [show (x7_2).drop (x8_2 : Int).toNat = y205 from Ny205.out.symm] at hr117
                      replace hr117 : Kd.C (Kd.int .i64) _ A117 y205.length y205 := (by rw [hA117]; exact hr117)
                      rw [← hy117, ← hA117, ← hc117] at hcut117
                      have HR208 := Aside0.mk hr117
                      have HC208 := Aside0.mk (show y205.length ≤ c117 from by rw [hy117, hc117]; exact Nat.sub_le_sub_right hroom117 _)
                      clear hr117 hC117 hroom117 hi0117 hsz117 hc117
                      have KY117 := Aside0.mk hy117
                      have KA117 := Aside0.mk hA117
                      clear hy117 hA117
                      have KL117 := Aside0.mk (show (x8_2 : Int).toNat ≤ x7_2.length from by omega)
                      replace q117 := eq_true q117
                      obtain ⟨Ao119, co119, eo119⟩ := Kd.V_slice HO_205001.out
                      (first | subst eo119 | (injection eo119 with f1_ f2_ f3_; have f4_ := f1_.symm; have f5_ := f3_.symm; clear f1_ f2_ f3_; subst f4_; subst f5_))
                      refine start_ (n := 11) (S := fun w' => w'.cell? ⟨gb204, 0, none⟩ = some (.int .i64 x205000_2) ∧ w'.cell? ⟨gb204, 1, none⟩ = some (.slice Ao119 x205001_2.length co119) ∧ w'.cell? ⟨gb204, 2, none⟩ = some (.bool x205002_2)) (ds := []) #[false, false, false, false, false, false, false, false, false, false, false] (by kernel_rfl) rfl rfl ⟨(blk_cell BK204.out 0).trans rfl, (blk_cell BK204.out 1).trans rfl, (blk_cell BK204.out 2).trans rfl⟩ (fun hHeld => ?_); refine with_tabW lodgerlaw03_QueueOrder.tab30 lodgerlaw03_QueueOrder.bits30 (fun HT_ HW_ => ?_)
                      generalize wr.drew = w116 at HO_7 HO_205001 BK204 HB HR208 hHeld ⊢
                      refine pure_ (i := 0) (N := some 136) (v := ?_) (a' := ?_) #[true, false, false, false, false, false, false, false, false, false, false] rfl rfl (any_of HT_.out (by kernel_rfl)) (fun _ _ _ h => h) (Or.inl ⟨by rfl, ?_⟩) ?_ ?_
                      rotate_left
                      · intro w'
                        go_simp
                        with_reducible rfl
                      rotate_left
                      · simp only [Act.put, List.setIfInBounds_toArray, List.set_cons_zero, List.set_cons_succ, i64_w, i32_w]
                        rfl
                      refine pure_ (i := 2) (N := some 138) (v := ?_) (a' := ?_) #[true, false, true, false, false, false, false, false, false, false, false] rfl rfl (any_of HT_.out (by kernel_rfl)) (fun _ _ _ h => h) (Or.inl ⟨by rfl, ?_⟩) ?_ ?_
                      rotate_left
                      · intro w'
                        go_simp
                        with_reducible rfl
                      rotate_left
                      · simp only [Act.put, List.setIfInBounds_toArray, List.set_cons_zero, List.set_cons_succ, i64_w, i32_w]
                        rfl
                      refine pure_ (i := 3) (N := some 139) (v := ?_) (a' := ?_) #[true, false, true, true, false, false, false, false, false, false, false] rfl rfl (any_of HT_.out (by kernel_rfl)) (fun _ _ _ h => h) (Or.inl ⟨by rfl, ?_⟩) ?_ ?_
                      rotate_left
                      · intro w'
                        go_simp
                        with_reducible rfl
                      rotate_left
                      · simp only [Act.put, List.setIfInBounds_toArray, List.set_cons_zero, List.set_cons_succ, i64_w, i32_w]
                        rfl
                      refine pure_ (i := 4) (N := some 140) (v := ?_) (a' := ?_) #[true, false, true, true, true, false, false, false, false, false, false] rfl rfl (any_of HT_.out (by kernel_rfl)) (fun _ _ _ h => h) (Or.inl ⟨by rfl, ?_⟩) ?_ ?_
                      rotate_left
                      · intro w'
                        go_simp
                        with_reducible rfl
                      rotate_left
                      · simp only [Act.put, List.setIfInBounds_toArray, List.set_cons_zero, List.set_cons_succ, i64_w, i32_w]
                        rfl
                      refine take_ (i := 1) (N := some 137) (v := ?_) (a' := ?_) #[true, true, true, true, true, false, false, false, false, false, false] rfl rfl (take_ofW HT_.out HW_.out (by kernel_rfl)) (fun _ _ _ h => h) (Or.inl ⟨by rfl, ?_⟩) hHeld ?_ ?_
                      rotate_left
                      · rintro w' ⟨s0, s1, s2⟩
                        go_simp
                        with_reducible rfl
                      rotate_left
                      · simp only [Act.put, List.setIfInBounds_toArray, List.set_cons_zero, List.set_cons_succ, i64_w, i32_w]
                        rfl
                      refine one_ (i := 5) (N := some 141) #[true, true, true, true, true, true, false, false, false, false, false] rfl rfl (one_of HT_.out (by kernel_rfl)) (by decide) (fun K hK => ?_)
                      refine goes_ Try.func34 (by kernel_rfl) rfl #[.slice Ao119 x205001_2.length co119, .slice A117 y205.length c117] (by rfl) rfl rfl (by (try simp only [List.map_toArray, List.map_cons, List.map_nil]); first | done | rfl | (simp only [List.length_drop, List.length_take]; rfl)) ?_
                      with_reducible refine (lodgerref03_Ints.calls k2 _ _ x205001_2 _ _ y205 true _ ?side1 ?side2 ?side3 ?side4 A113.out).mono ?_
                      (case side1 => repeat (first | exact (Kd.V_reads' HO_205001.out).2.2 | (with_reducible refine Kd.C_alloc ?_ _) | (with_reducible refine Kd.C_drewN ?_ _) | (with_reducible refine Kd.C_drew ?_)))
                      (case side2 => exact (Kd.V_reads' HO_205001.out).2.1)
                      (case side3 => repeat (first | exact (by repeat (first | (with_reducible exact HR208.out) | (with_reducible refine Kd.C_alloc ?_ _) | (with_reducible refine Kd.C_drewN ?_ _) | (with_reducible refine Kd.C_drew ?_) | exact HR208.out)) | (with_reducible refine Kd.C_alloc ?_ _) | (with_reducible refine Kd.C_drewN ?_ _) | (with_reducible refine Kd.C_drew ?_)))
                      (case side4 => exact HC208.out)
                      rintro e w' ⟨rfl, ⟨nd, rfl⟩⟩
                      refine ⟨_, rfl, ?_⟩
                      refine hK.out _ _ ⟨(blk_cell BK204.out 0).trans rfl, (blk_cell BK204.out 1).trans rfl, (blk_cell BK204.out 2).trans rfl⟩ (fun hHeld => ?_)
                      clear hK K
                      refine norm_ (a' := ?_) ?_ ?_
                      rotate_left
                      · show Act.put _ (some 141) _ = _
                        simp only [Act.put, List.setIfInBounds_toArray, List.set_cons_zero, List.set_cons_succ, i64_w, i32_w]
                        rfl
                      refine pure_ (i := 6) (N := some 142) (v := ?_) (a' := ?_) #[true, true, true, true, true, true, true, false, false, false, false] rfl rfl (any_of HT_.out (by kernel_rfl)) (fun _ _ _ h => h) (Or.inl ⟨by rfl, ?_⟩) ?_ ?_
                      rotate_left
                      · intro w'
                        go_simp
                        with_reducible rfl
                      rotate_left
                      · simp only [Act.put, List.setIfInBounds_toArray, List.set_cons_zero, List.set_cons_succ, i64_w, i32_w]
                        rfl
                      refine take_ (i := 7) (N := some 143) (v := ?_) (a' := ?_) #[true, true, true, true, true, true, true, true, false, false, false] rfl rfl (take_ofW HT_.out HW_.out (by kernel_rfl)) (fun _ _ _ h => h) (Or.inl ⟨by rfl, ?_⟩) hHeld ?_ ?_
                      rotate_left
                      · rintro w' ⟨s0, s1, s2⟩
                        go_simp
                        with_reducible rfl
                      rotate_left
                      · simp only [Act.put, List.setIfInBounds_toArray, List.set_cons_zero, List.set_cons_succ, i64_w, i32_w]
                        rfl
                      refine one_ (i := 8) (N := some 144) #[true, true, true, true, true, true, true, true, true, false, false] rfl rfl (one_of HT_.out (by kernel_rfl)) (by decide) (fun K hK => ?_)
                      refine goes_ Try.func24 (by kernel_rfl) rfl #[.agg #[.int .i64 x205000_2, .slice Ao119 x205001_2.length co119, .bool x205002_2]] (by rfl) rfl rfl (by (try simp only [List.map_toArray, List.map_cons, List.map_nil]); first | done | rfl | (simp only [List.length_drop, List.length_take]; rfl)) ?_
                      with_reducible refine (queue_May.calls x205000_2 _ _ x205001_2 x205002_2 t210 _ ?side1 ?side2 A115.out).mono ?_
                      (case side1 => repeat (first | exact (Kd.V_reads' HO_205001.out).2.2 | (with_reducible refine Kd.C_alloc ?_ _) | (with_reducible refine Kd.C_drewN ?_ _) | (with_reducible refine Kd.C_drew ?_)))
                      (case side2 => exact (Kd.V_reads' HO_205001.out).2.1)
                      rintro e w120 ⟨rfl, hb⟩
                      refine ⟨_, rfl, ?_⟩
                      have n0_ := Aside0.mk (Kd.R_below (by (with_reducible repeat (first | apply Kd.R_alloc | apply Kd.R_drewN | apply Kd.R_drew)); exact HO_7.out) hb)
                      have n1_ := Aside0.mk (Kd.V_below (by (with_reducible repeat (first | apply Kd.V_alloc | apply Kd.V_drewN | apply Kd.V_drew)); exact HO_205001.out) hb)
                      have n2_ := Aside0.mk (blk_below (g := gb204) (o := .cells #[.int .i64 x205000_2, .slice Ao119 x205001_2.length co119, .bool x205002_2] 40 (0, 0)) (by (with_reducible repeat (first | refine blk_drewN ?_ _ | refine blk_drew ?_ | refine blk_alloc ?_ _)); exact BK204.out) hb)
                      have n3_ := Aside0.mk (Kd.C_below (by repeat (first | (with_reducible exact HR208.out) | (with_reducible refine Kd.C_alloc ?_ _) | (with_reducible refine Kd.C_drewN ?_ _) | (with_reducible refine Kd.C_drew ?_) | exact HR208.out)) hb)
                      have n4_ := Aside0.mk (below_step (by repeat (first | (with_reducible first | exact HB.out | apply below_alloc | apply pw_below_drewN | apply below_drew1 | refine below_set ?_ GE204.out) | exact HB.out)) hb)
                      clear HO_7
                      clear HO_205001
                      clear BK204
                      clear HR208
                      clear HB
                      have HO_7 := n0_
                      have HO_205001 := n1_
                      have BK204 := n2_
                      have HR208 := n3_
                      have HB := n4_
                      clear n0_ n1_ n2_ n3_ n4_
                      (try clear hb)
                      (try clear hb2)
                      (try clear hk)
                      (try clear hi)
                      refine hK.out _ _ ⟨(blk_cell BK204.out 0).trans rfl, (blk_cell BK204.out 1).trans rfl, (blk_cell BK204.out 2).trans rfl⟩ (fun hHeld => ?_)
                      clear hK K
                      refine norm_ (a' := ?_) ?_ ?_
                      rotate_left
                      · show Act.put _ (some 144) _ = _
                        simp only [Act.put, List.setIfInBounds_toArray, List.set_cons_zero, List.set_cons_succ, i64_w, i32_w]
                        rfl
                      refine pure_ (i := 9) (N := some 145) (v := ?_) (a' := ?_) #[true, true, true, true, true, true, true, true, true, true, false] rfl rfl (any_of HT_.out (by kernel_rfl)) (fun _ _ _ h => h) (Or.inl ⟨by rfl, ?_⟩) ?_ ?_
                      rotate_left
                      · intro w'
                        go_simp
                        with_reducible rfl
                      rotate_left
                      · simp only [Act.put, List.setIfInBounds_toArray, List.set_cons_zero, List.set_cons_succ, i64_w, i32_w]
                        rfl
                      refine pure_ (i := 10) (N := some 4) (v := ?_) (a' := ?_) #[true, true, true, true, true, true, true, true, true, true, true] rfl rfl (any_of HT_.out (by kernel_rfl)) (fun _ _ _ h => h) (Or.inl ⟨by rfl, ?_⟩) ?_ ?_
                      rotate_left
                      · intro w'
                        go_simp
                        with_reducible rfl
                      rotate_left
                      · simp only [Act.put, List.setIfInBounds_toArray, List.set_cons_zero, List.set_cons_succ, i64_w, i32_w]
                        rfl
                      refine done_ (done_of HT_.out (by kernel_rfl)) ?_
                      try go_wp2
                      go_ret
                      exact ⟨by first | rfl | (simp [errW_none, errW_some] <;> rfl) | (simp [*, errW_none, errW_some] <;> rfl), by repeat (first | (with_reducible first | exact HB.out | apply below_alloc | apply pw_below_drewN | apply below_drew1 | refine below_set ?_ GE204.out) | exact HB.out)⟩
                  · replace c114 := Bool.eq_false_iff.mpr c114
                    subst c114
                    have H1 : (some false) = some r := by rw [if_neg (show ¬ (false = true) by decide)] at H; exact H
                    rw [hr_.out] at H1
                    exact absurd (Option.some.inj H1) (by decide)
                · rw [if_neg c112] at H
                  exact absurd H (by simp)
              · rw [if_neg c111] at H
                exact absurd H (by simp)

/-- THE ONE PURE STATEMENT of lodgerlaw03_QueueOrder: yours. -/
def lodgerlaw03_QueueOrder.Pure : Prop := ∀ (a0 : Int) (l1 : List Int), (Lit.int .u8 a0).wf = true → l1.length ≤ maxLen → l1.length * 2 ≤ 140737488351232 → (∀ x ∈ l1, (Lit.int .i16 x).wf = true) → ∃ k, lodgerlaw03_QueueOrder.f k a0 l1 = some true
theorem lodgerlaw03_QueueOrder.walk (P : lodgerlaw03_QueueOrder.Pure) (a0 : Int) (a1 : Option Addr) (len1 cap1 : Nat) (z1 : List Int) (w : World) (w0 : (Lit.int .u8 a0).wf = true) (w1 : (a1 = none ∧ len1 = 0 ∧ cap1 = 0 ∧ z1 = []) ∨ ∃ x, a1 = some x ∧ len1 ≤ cap1 ∧ cap1 ≤ maxLen ∧ z1.length = cap1 ∧ (∀ i, i < z1.length → w.cell? (x.add i) = some (.int .i16 (z1.getD i 0))) ∧ ∀ n ∈ z1, (Lit.int .i16 n).wf = true) (y1 : len1 * 2 ≤ 140737488351232) :
    Calls Try.prog 10 #[.int .u8 a0, .slice a1 len1 cap1] w fun e w' => e = .returned (.bool true) ∧ Below w.heap.size w w' := by
  obtain ⟨l1, rfl, hr1, hm1, hw1, hc1⟩ := ReadsInt.ofRowC w1
  obtain ⟨k, h⟩ := P a0 l1 w0 hm1 y1 hw1
  refine (lodgerlaw03_QueueOrder.calls k a0 _ _ l1 true w (Kd.C_of_reads (d := (0 : Int)) (h1 := fun _ => rfl) hr1) hc1 rfl h).mono ?_
  rintro e w' ⟨rfl, hd⟩
  exact ⟨rfl, hd⟩

end Go.Proofs.Ytpkomlobikmkkaa.PQueueOrder
