/- The walk of SpecKeeps, part of it: what the Go functions answer; no condition. -/
import Derived.Test.YtkiimboedgnoiaaDoorQSpecKeepsx0
import Derived.Test.YtkiimboedgnoiaaDoorQSpecKeepsx1
import Derived.Test.YtkiimboedgnoiaaDoorQSpecKeepsx5
import Derived.Test.YtkiimboedgnoiaaDoorQSpecKeepsx6
import Derived.Test.YtkiimboedgnoiaaDoorQSpecKeepsx7
import Derived.Test.YtkiimboedgnoiaaDoorQSpecKeepsx8
import Derived.Test.YtkiimboedgnoiaaDoorQSpecKeepsx9
import Derived.Test.YtkiimboedgnoiaaDoorQSpecKeepsx11
namespace Go.Proofs.YtkiimboedgnoiaaDoor.PSpecKeeps
open Go.RowKit Go.Proofs.YtkiimboedgnoiaaDoorW.PrintWords Go.Proofs.YtkiimboedgnoiaaDoorW.PrintLast Go.Proofs.YtkiimboedgnoiaaDoorW.PrintMore
attribute [local go_sem] max2_int min2_int max_two min_two max_three min_three max_four min_four   -- for this text's walks alone
set_option linter.unusedVariables false
set_option linter.unusedSimpArgs false

/-! ### lodgerref11_Fits: function 10 -/
def lodgerref11_Fits.f (k : Nat) (a0_0 : Int) (a0_1 : Int) (l0_2 : List Int) (a0_3 : Int) (a0_4 : Int) (a0_5 : Int) (a0_6 : Int) (l1 : List Int) : Option (Bool) := (lodgerref05_May.f k a0_0 a0_1 l0_2 a0_3 a0_4 a0_5 a0_6).bind fun t513 => (if t513 = true then ((lodgerref05_Many.f k a0_0 a0_1).bind fun t514 => (if t514 ≤ 256 then (if (l1.length : Int) ≤ 300 then ((lodgerref09_May.f k a0_0 a0_1 l0_2 a0_3 a0_4 a0_5 a0_6 l1).bind fun t515 => (some t515)) else (some false)) else (some false))) else (some false))
theorem lodgerref11_Fits.mono : ∀ a0 a1 a2 a3 a4 a5 a6 a7 k, LeO (lodgerref11_Fits.f k a0 a1 a2 a3 a4 a5 a6 a7) (lodgerref11_Fits.f (k + 1) a0 a1 a2 a3 a4 a5 a6 a7) := by
 intro a0 a1 a2 a3 a4 a5 a6 a7 k
 unfold lodgerref11_Fits.f
 repeat' first
   | (with_reducible exact lodgerref05_Many.mono _ _ _)
   | (with_reducible exact lodgerref05_May.mono _ _ _ _ _ _ _ _)
   | (with_reducible exact lodgerref09_May.mono _ _ _ _ _ _ _ _ _)
   | (with_reducible exact LeO.refl _)
   | (with_reducible exact LeO.none _)
   | (with_reducible refine LeO.ite ?_ ?_)
   | (with_reducible refine LeO.bind ?_ (fun _ => ?_))
   | exact lodgerref05_Many.mono _ _ _
   | exact lodgerref05_May.mono _ _ _ _ _ _ _ _
   | exact lodgerref09_May.mono _ _ _ _ _ _ _ _ _
   | exact LeO.none _
   | refine LeO.ite ?_ ?_
   | refine LeO.bind ?_ (fun _ => ?_)
set_option maxHeartbeats 8000000 in
set_option maxRecDepth 100000 in
theorem lodgerref11_Fits.calls (k : Nat) (a0_0 : Int) (a0_1 : Int) (A0_2 : Option Addr) (c0_2 : Nat) (l0_2 : List Int) (a0_3 : Int) (a0_4 : Int) (a0_5 : Int) (a0_6 : Int) (A1 : Option Addr) (c1 : Nat) (l1 : List Int) (r : Bool) (w : World) (hr0_2 : Kd.C (Kd.int .i64) w A0_2 l0_2.length l0_2) (hc0_2 : l0_2.length ≤ c0_2) (hr1 : Kd.C (Kd.int .i64) w A1 l1.length l1) (hc1 : l1.length ≤ c1) (h : lodgerref11_Fits.f k a0_0 a0_1 l0_2 a0_3 a0_4 a0_5 a0_6 l1 = some r) :
  Calls Tryd.prog 10 #[.agg #[.int .u32 a0_0, .int .i64 a0_1, .slice A0_2 l0_2.length c0_2, .int .i64 a0_3, .int .i64 a0_4, .int .i64 a0_5, .int .i64 a0_6], .slice A1 l1.length c1] w fun e w' => e = .returned (.bool r) ∧ Below w.heap.size w w' := by
 have hu27 := Tryd.underlying27
 have hu24 := Tryd.underlying24
 have HR0_2 := Aside0.mk hr0_2
 have HC0_2 := Aside0.mk hc0_2
 clear hr0_2 hc0_2
 have HR1 := Aside0.mk hr1
 have HC1 := Aside0.mk hc1
 clear hr1 hc1
 have HB := Aside0.mk (Below.refl w.heap.size w)
 have H : ((lodgerref05_May.f k a0_0 a0_1 l0_2 a0_3 a0_4 a0_5 a0_6).bind fun t513 => (if t513 = true then ((lodgerref05_Many.f k a0_0 a0_1).bind fun t514 => (if t514 ≤ 256 then (if (l1.length : Int) ≤ 300 then ((lodgerref09_May.f k a0_0 a0_1 l0_2 a0_3 a0_4 a0_5 a0_6 l1).bind fun t515 => (some t515)) else (some false)) else (some false))) else (some false))) = some r := h
 clear h
 replace H := Option.bind_eq_some_iff.mp H
 obtain ⟨t513, A30, H⟩ := H
 replace H : (if t513 = true then ((lodgerref05_Many.f k a0_0 a0_1).bind fun t514 => (if t514 ≤ 256 then (if (l1.length : Int) ≤ 300 then ((lodgerref09_May.f k a0_0 a0_1 l0_2 a0_3 a0_4 a0_5 a0_6 l1).bind fun t515 => (some t515)) else (some false)) else (some false))) else (some false)) = some r := H
 have A3 := Aside0.mk A30
 clear A30
 by_cases c4 : t513 = true
 ·subst c4
  have H1 : ((lodgerref05_Many.f k a0_0 a0_1).bind fun t514 => (if t514 ≤ 256 then (if (l1.length : Int) ≤ 300 then ((lodgerref09_May.f k a0_0 a0_1 l0_2 a0_3 a0_4 a0_5 a0_6 l1).bind fun t515 => (some t515)) else (some false)) else (some false))) = some r := by rw [if_pos rfl] at H; exact H
  clear H
  have H := H1
  clear H1
  replace H := Option.bind_eq_some_iff.mp H
  obtain ⟨t514, A50, H⟩ := H
  replace H : (if t514 ≤ 256 then (if (l1.length : Int) ≤ 300 then ((lodgerref09_May.f k a0_0 a0_1 l0_2 a0_3 a0_4 a0_5 a0_6 l1).bind fun t515 => (some t515)) else (some false)) else (some false)) = some r := H
  have A5 := Aside0.mk A50
  clear A50
  by_cases c6 : t514 ≤ 256
  ·rw [if_pos c6] at H
   have c6b0 : decide (t514 ≤ 256) = true := decide_eq_true c6
   clear c6
   by_cases c7 : (l1.length : Int) ≤ 300
   ·rw [if_pos c7] at H
    have c7b0 : decide ((l1.length : Int) ≤ 300) = true := decide_eq_true c7
    have c7b1 : decide (l1.length ≤ 300) = true := decide_eq_true (by omega)
    clear c7
    replace H := Option.bind_eq_some_iff.mp H
    obtain ⟨t515, A80, H⟩ := H
    replace H : (some t515) = some r := H
    have A8 := Aside0.mk A80
    clear A80
    obtain rfl := Option.some.inj H
    go_enter Tryd.func10, Tryd.ntmps10
    go_wp2_with (first | ((with_reducible refine gate_dst (N := 2) rfl ?_); (try (refine gate_guard (by rfl) ?_; dsimp only)); refine box_event ?hg (N := 2) ?hd (cs := #[.int .u32 a0_0, .int .i64 a0_1, .slice A0_2 l0_2.length c0_2, .int .i64 a0_3, .int .i64 a0_4, .int .i64 a0_5, .int .i64 a0_6]) (t := 27) ?hr ?_; (case hd => rfl); (case hg => rfl); (case hr => first | (go_simp; done) | (go_simp; rfl)); intro gb512 hg w9 hbox hb; have n0_ := Aside0.mk (below_step (hB_ HB) hb); have n1_ := Aside0.mk (hbox); have n2_ := gG_ (w := w) hg HB; have n3_ := gG_ (w := w) hg HB; clear HB; have HB := n0_; have BK512 := n1_; have GW512 := n2_; have GE512 := n3_; clear n0_ n1_ n2_ n3_; clear hb hbox hg; obtain ⟨hcz10_0, hcz10_1, hcz10_2, hcz10_3, hcz10_4, hcz10_5, hcz10_6, hfz10_0, hfz10_1, hfz10_2, hfz10_3, hfz10_4, hfz10_5, hfz10_6⟩ := cz7_ (w := w9) BK512) | ((with_reducible refine gate_callee (f := 29) rfl ?_); refine goesL_ (some 6) rfl rfl Tryd.func29 (by kernel_rfl) rfl #[.agg #[.int .u32 a0_0, .int .i64 a0_1, .slice A0_2 l0_2.length c0_2, .int .i64 a0_3, .int .i64 a0_4, .int .i64 a0_5, .int .i64 a0_6]] rfl am_ ?_; (with_reducible refine (lodgerref05_May.calls k a0_0 a0_1 _ _ l0_2 a0_3 a0_4 a0_5 a0_6 true _ ?side1 ?side2 A3.out).mono ?_); (case side1 => exact cC_ HR0_2 HB); (case side2 => exact HC0_2.out); rintro e w11 ⟨rfl, hb⟩; refine ⟨_, rfl, ?_⟩; have n0_ := bB_ BK512 hb; have n1_ := Aside0.mk (below_step (hB_ HB) hb); clear BK512; clear HB; have BK512 := n0_; have HB := n1_; clear n0_ n1_; (try clear hb); (try clear hb2); (try clear hk); (try clear hi); obtain ⟨hcz12_0, hcz12_1, hcz12_2, hcz12_3, hcz12_4, hcz12_5, hcz12_6, hfz12_0, hfz12_1, hfz12_2, hfz12_3, hfz12_4, hfz12_5, hfz12_6⟩ := cz7_ (w := w11) BK512) | (go_at_call 30; (with_reducible refine (lodgerref05_Many.calls k a0_0 a0_1 t514 _ A5.out).mono ?_); rintro e w13 ⟨rfl, hb⟩; have n0_ := bB_ BK512 hb; have n1_ := Aside0.mk (below_step (hB_ HB) hb); clear BK512; clear HB; have BK512 := n0_; have HB := n1_; clear n0_ n1_; (try clear hb); (try clear hb2); (try clear hk); (try clear hi); obtain ⟨hcz14_0, hcz14_1, hcz14_2, hcz14_3, hcz14_4, hcz14_5, hcz14_6, hfz14_0, hfz14_1, hfz14_2, hfz14_3, hfz14_4, hfz14_5, hfz14_6⟩ := cz7_ (w := w13) BK512) | (go_at_call 20; (with_reducible refine (lodgerref09_May.calls k a0_0 a0_1 _ _ l0_2 a0_3 a0_4 a0_5 a0_6 _ _ l1 t515 _ ?side1 ?side2 ?side3 ?side4 A8.out).mono ?_); (case side1 => exact cC_ HR0_2 HB); (case side2 => exact HC0_2.out); (case side3 => exact cC_ HR1 HB); (case side4 => exact HC1.out); rintro e w15 ⟨rfl, hb⟩; have n0_ := bB_ BK512 hb; have n1_ := Aside0.mk (below_step (hB_ HB) hb); clear BK512; clear HB; have BK512 := n0_; have HB := n1_; clear n0_ n1_; (try clear hb); (try clear hb2); (try clear hk); (try clear hi)))
    go_ret
    exact ⟨er_, by repeat (first | (with_reducible first | exact HB.out | apply below_alloc | apply pw_below_drewN | apply below_drew1 | refine below_set ?_ GE512.out) | exact HB.out)⟩
   ·rw [if_neg c7] at H
    have c7b0 : decide ((l1.length : Int) ≤ 300) = false := decide_eq_false c7
    have c7b1 : decide (l1.length ≤ 300) = false := decide_eq_false (by omega)
    clear c7
    obtain rfl := Option.some.inj H
    go_enter Tryd.func10, Tryd.ntmps10
    go_wp2_with (first | ((with_reducible refine gate_dst (N := 2) rfl ?_); (try (refine gate_guard (by rfl) ?_; dsimp only)); refine box_event ?hg (N := 2) ?hd (cs := #[.int .u32 a0_0, .int .i64 a0_1, .slice A0_2 l0_2.length c0_2, .int .i64 a0_3, .int .i64 a0_4, .int .i64 a0_5, .int .i64 a0_6]) (t := 27) ?hr ?_; (case hd => rfl); (case hg => rfl); (case hr => first | (go_simp; done) | (go_simp; rfl)); intro gb512 hg w16 hbox hb; have n0_ := Aside0.mk (below_step (hB_ HB) hb); have n1_ := Aside0.mk (hbox); have n2_ := gG_ (w := w) hg HB; have n3_ := gG_ (w := w) hg HB; clear HB; have HB := n0_; have BK512 := n1_; have GW512 := n2_; have GE512 := n3_; clear n0_ n1_ n2_ n3_; clear hb hbox hg; obtain ⟨hcz17_0, hcz17_1, hcz17_2, hcz17_3, hcz17_4, hcz17_5, hcz17_6, hfz17_0, hfz17_1, hfz17_2, hfz17_3, hfz17_4, hfz17_5, hfz17_6⟩ := cz7_ (w := w16) BK512) | ((with_reducible refine gate_callee (f := 29) rfl ?_); refine goesL_ (some 6) rfl rfl Tryd.func29 (by kernel_rfl) rfl #[.agg #[.int .u32 a0_0, .int .i64 a0_1, .slice A0_2 l0_2.length c0_2, .int .i64 a0_3, .int .i64 a0_4, .int .i64 a0_5, .int .i64 a0_6]] rfl am_ ?_; (with_reducible refine (lodgerref05_May.calls k a0_0 a0_1 _ _ l0_2 a0_3 a0_4 a0_5 a0_6 true _ ?side1 ?side2 A3.out).mono ?_); (case side1 => exact cC_ HR0_2 HB); (case side2 => exact HC0_2.out); rintro e w18 ⟨rfl, hb⟩; refine ⟨_, rfl, ?_⟩; have n0_ := bB_ BK512 hb; have n1_ := Aside0.mk (below_step (hB_ HB) hb); clear BK512; clear HB; have BK512 := n0_; have HB := n1_; clear n0_ n1_; (try clear hb); (try clear hb2); (try clear hk); (try clear hi); obtain ⟨hcz19_0, hcz19_1, hcz19_2, hcz19_3, hcz19_4, hcz19_5, hcz19_6, hfz19_0, hfz19_1, hfz19_2, hfz19_3, hfz19_4, hfz19_5, hfz19_6⟩ := cz7_ (w := w18) BK512) | (go_at_call 30; (with_reducible refine (lodgerref05_Many.calls k a0_0 a0_1 t514 _ A5.out).mono ?_); rintro e w20 ⟨rfl, hb⟩; have n0_ := bB_ BK512 hb; have n1_ := Aside0.mk (below_step (hB_ HB) hb); clear BK512; clear HB; have BK512 := n0_; have HB := n1_; clear n0_ n1_; (try clear hb); (try clear hb2); (try clear hk); (try clear hi)))
    go_ret
    exact ⟨er_, by repeat (first | (with_reducible first | exact HB.out | apply below_alloc | apply pw_below_drewN | apply below_drew1 | refine below_set ?_ GE512.out) | exact HB.out)⟩
  ·rw [if_neg c6] at H
   have c6b0 : decide (t514 ≤ 256) = false := decide_eq_false c6
   clear c6
   obtain rfl := Option.some.inj H
   go_enter Tryd.func10, Tryd.ntmps10
   go_wp2_with (first | ((with_reducible refine gate_dst (N := 2) rfl ?_); (try (refine gate_guard (by rfl) ?_; dsimp only)); refine box_event ?hg (N := 2) ?hd (cs := #[.int .u32 a0_0, .int .i64 a0_1, .slice A0_2 l0_2.length c0_2, .int .i64 a0_3, .int .i64 a0_4, .int .i64 a0_5, .int .i64 a0_6]) (t := 27) ?hr ?_; (case hd => rfl); (case hg => rfl); (case hr => first | (go_simp; done) | (go_simp; rfl)); intro gb512 hg w21 hbox hb; have n0_ := Aside0.mk (below_step (hB_ HB) hb); have n1_ := Aside0.mk (hbox); have n2_ := gG_ (w := w) hg HB; have n3_ := gG_ (w := w) hg HB; clear HB; have HB := n0_; have BK512 := n1_; have GW512 := n2_; have GE512 := n3_; clear n0_ n1_ n2_ n3_; clear hb hbox hg; obtain ⟨hcz22_0, hcz22_1, hcz22_2, hcz22_3, hcz22_4, hcz22_5, hcz22_6, hfz22_0, hfz22_1, hfz22_2, hfz22_3, hfz22_4, hfz22_5, hfz22_6⟩ := cz7_ (w := w21) BK512) | ((with_reducible refine gate_callee (f := 29) rfl ?_); refine goesL_ (some 6) rfl rfl Tryd.func29 (by kernel_rfl) rfl #[.agg #[.int .u32 a0_0, .int .i64 a0_1, .slice A0_2 l0_2.length c0_2, .int .i64 a0_3, .int .i64 a0_4, .int .i64 a0_5, .int .i64 a0_6]] rfl am_ ?_; (with_reducible refine (lodgerref05_May.calls k a0_0 a0_1 _ _ l0_2 a0_3 a0_4 a0_5 a0_6 true _ ?side1 ?side2 A3.out).mono ?_); (case side1 => exact cC_ HR0_2 HB); (case side2 => exact HC0_2.out); rintro e w23 ⟨rfl, hb⟩; refine ⟨_, rfl, ?_⟩; have n0_ := bB_ BK512 hb; have n1_ := Aside0.mk (below_step (hB_ HB) hb); clear BK512; clear HB; have BK512 := n0_; have HB := n1_; clear n0_ n1_; (try clear hb); (try clear hb2); (try clear hk); (try clear hi); obtain ⟨hcz24_0, hcz24_1, hcz24_2, hcz24_3, hcz24_4, hcz24_5, hcz24_6, hfz24_0, hfz24_1, hfz24_2, hfz24_3, hfz24_4, hfz24_5, hfz24_6⟩ := cz7_ (w := w23) BK512) | (go_at_call 30; (with_reducible refine (lodgerref05_Many.calls k a0_0 a0_1 t514 _ A5.out).mono ?_); rintro e w25 ⟨rfl, hb⟩; have n0_ := bB_ BK512 hb; have n1_ := Aside0.mk (below_step (hB_ HB) hb); clear BK512; clear HB; have BK512 := n0_; have HB := n1_; clear n0_ n1_; (try clear hb); (try clear hb2); (try clear hk); (try clear hi)))
   go_ret
   exact ⟨er_, by repeat (first | (with_reducible first | exact HB.out | apply below_alloc | apply pw_below_drewN | apply below_drew1 | refine below_set ?_ GE512.out) | exact HB.out)⟩
 ·replace c4 := Bool.eq_false_iff.mpr c4
  subst c4
  have H1 : (some false) = some r := by rw [if_neg (show ¬ (false = true) by decide)] at H; exact H
  clear H
  have H := H1
  clear H1
  obtain rfl := Option.some.inj H
  go_enter Tryd.func10, Tryd.ntmps10
  go_wp2_with (first | ((with_reducible refine gate_dst (N := 2) rfl ?_); (try (refine gate_guard (by rfl) ?_; dsimp only)); refine box_event ?hg (N := 2) ?hd (cs := #[.int .u32 a0_0, .int .i64 a0_1, .slice A0_2 l0_2.length c0_2, .int .i64 a0_3, .int .i64 a0_4, .int .i64 a0_5, .int .i64 a0_6]) (t := 27) ?hr ?_; (case hd => rfl); (case hg => rfl); (case hr => first | (go_simp; done) | (go_simp; rfl)); intro gb512 hg w26 hbox hb; have n0_ := Aside0.mk (below_step (hB_ HB) hb); have n1_ := Aside0.mk (hbox); have n2_ := gG_ (w := w) hg HB; have n3_ := gG_ (w := w) hg HB; clear HB; have HB := n0_; have BK512 := n1_; have GW512 := n2_; have GE512 := n3_; clear n0_ n1_ n2_ n3_; clear hb hbox hg; obtain ⟨hcz27_0, hcz27_1, hcz27_2, hcz27_3, hcz27_4, hcz27_5, hcz27_6, hfz27_0, hfz27_1, hfz27_2, hfz27_3, hfz27_4, hfz27_5, hfz27_6⟩ := cz7_ (w := w26) BK512) | ((with_reducible refine gate_callee (f := 29) rfl ?_); refine goesL_ (some 6) rfl rfl Tryd.func29 (by kernel_rfl) rfl #[.agg #[.int .u32 a0_0, .int .i64 a0_1, .slice A0_2 l0_2.length c0_2, .int .i64 a0_3, .int .i64 a0_4, .int .i64 a0_5, .int .i64 a0_6]] rfl am_ ?_; (with_reducible refine (lodgerref05_May.calls k a0_0 a0_1 _ _ l0_2 a0_3 a0_4 a0_5 a0_6 false _ ?side1 ?side2 A3.out).mono ?_); (case side1 => exact cC_ HR0_2 HB); (case side2 => exact HC0_2.out); rintro e w28 ⟨rfl, hb⟩; refine ⟨_, rfl, ?_⟩; have n0_ := bB_ BK512 hb; have n1_ := Aside0.mk (below_step (hB_ HB) hb); clear BK512; clear HB; have BK512 := n0_; have HB := n1_; clear n0_ n1_; (try clear hb); (try clear hb2); (try clear hk); (try clear hi)))
  go_ret
  exact ⟨er_, by repeat (first | (with_reducible first | exact HB.out | apply below_alloc | apply pw_below_drewN | apply below_drew1 | refine below_set ?_ GE512.out) | exact HB.out)⟩

/-! ### lodgerref10_Few: function 11 -/
def lodgerref10_Few.f (a0_0 : Int) (a0_1 : Int) (l0_2 : List Int) : Option (Bool) := some (decide ((l0_2.length : Int) ≤ 100))
set_option maxHeartbeats 8000000 in
set_option maxRecDepth 100000 in
theorem lodgerref10_Few.calls (a0_0 : Int) (a0_1 : Int) (A0_2 : Option Addr) (c0_2 : Nat) (l0_2 : List Int) (r : Bool) (w : World) (hr0_2 : Kd.C (Kd.int .u32) w A0_2 l0_2.length l0_2) (hc0_2 : l0_2.length ≤ c0_2) (h : lodgerref10_Few.f a0_0 a0_1 l0_2 = some r) :
  Calls Tryd.prog 11 #[.agg #[.int .i64 a0_0, .int .u32 a0_1, .slice A0_2 l0_2.length c0_2]] w fun e w' => e = .returned (.bool r) ∧ Below w.heap.size w w' := by
 have hu30 := Tryd.underlying30
 have HR0_2 := Aside0.mk hr0_2
 have HC0_2 := Aside0.mk hc0_2
 clear hr0_2 hc0_2
 have HB := Aside0.mk (Below.refl w.heap.size w)
 have H : (some (decide ((l0_2.length : Int) ≤ 100))) = some r := h
 clear h
 obtain rfl := Option.some.inj H
 go_enter Tryd.func11, Tryd.ntmps11
 go_wp2_with (first | ((with_reducible refine gate_dst (N := 1) rfl ?_); refine box_event ?hg (N := 1) ?hd (cs := #[.int .i64 a0_0, .int .u32 a0_1, .slice A0_2 l0_2.length c0_2]) (t := 30) ?hr ?_; (case hd => rfl); (case hg => rfl); (case hr => first | (go_simp; done) | (go_simp; rfl)); intro gb516 hg w2 hbox hb; have n0_ := Aside0.mk (below_step (hB_ HB) hb); have n1_ := Aside0.mk (hbox); have n2_ := gG_ (w := w) hg HB; have n3_ := gG_ (w := w) hg HB; clear HB; have HB := n0_; have BK516 := n1_; have GW516 := n2_; have GE516 := n3_; clear n0_ n1_ n2_ n3_; clear hb hbox hg; obtain ⟨hcz3_0, hcz3_1, hcz3_2, hfz3_0, hfz3_1, hfz3_2⟩ := cz3_ (w := w2) BK516))
 go_ret
 exact ⟨er_, by repeat (first | (with_reducible first | exact HB.out | apply below_alloc | apply pw_below_drewN | apply below_drew1 | refine below_set ?_ GE516.out) | exact HB.out)⟩

/-! ### lodgerref11_Few: function 12 -/
def lodgerref11_Few.f (a0_0 : Int) (a0_1 : Int) (a0_2 : Bool) (l0_3 : List Int) (l0_4 : List Int) : Option (Bool) := if (l0_3.length : Int) ≤ 300 then (some (decide ((l0_4.length : Int) ≤ 300))) else (some false)
set_option maxHeartbeats 8000000 in
set_option maxRecDepth 100000 in
theorem lodgerref11_Few.calls (a0_0 : Int) (a0_1 : Int) (a0_2 : Bool) (A0_3 : Option Addr) (c0_3 : Nat) (l0_3 : List Int) (A0_4 : Option Addr) (c0_4 : Nat) (l0_4 : List Int) (r : Bool) (w : World) (hr0_3 : Kd.C (Kd.int .u32) w A0_3 l0_3.length l0_3) (hc0_3 : l0_3.length ≤ c0_3) (hr0_4 : Kd.C (Kd.int .i64) w A0_4 l0_4.length l0_4) (hc0_4 : l0_4.length ≤ c0_4) (h : lodgerref11_Few.f a0_0 a0_1 a0_2 l0_3 l0_4 = some r) :
  Calls Tryd.prog 12 #[.agg #[.int .i64 a0_0, .int .u32 a0_1, .bool a0_2, .slice A0_3 l0_3.length c0_3, .slice A0_4 l0_4.length c0_4]] w fun e w' => e = .returned (.bool r) ∧ Below w.heap.size w w' := by
 have hu34 := Tryd.underlying34
 have HR0_3 := Aside0.mk hr0_3
 have HC0_3 := Aside0.mk hc0_3
 clear hr0_3 hc0_3
 have HR0_4 := Aside0.mk hr0_4
 have HC0_4 := Aside0.mk hc0_4
 clear hr0_4 hc0_4
 have HB := Aside0.mk (Below.refl w.heap.size w)
 have H : (if (l0_3.length : Int) ≤ 300 then (some (decide ((l0_4.length : Int) ≤ 300))) else (some false)) = some r := h
 clear h
 by_cases c2 : (l0_3.length : Int) ≤ 300
 ·rw [if_pos c2] at H
  have c2b0 : decide ((l0_3.length : Int) ≤ 300) = true := decide_eq_true c2
  have c2b1 : decide (l0_3.length ≤ 300) = true := decide_eq_true (by omega)
  clear c2
  obtain rfl := Option.some.inj H
  go_enter Tryd.func12, Tryd.ntmps12
  go_wp2_with (first | ((with_reducible refine gate_dst (N := 1) rfl ?_); (try (refine gate_guard (by rfl) ?_; dsimp only)); refine box_event ?hg (N := 1) ?hd (cs := #[.int .i64 a0_0, .int .u32 a0_1, .bool a0_2, .slice A0_3 l0_3.length c0_3, .slice A0_4 l0_4.length c0_4]) (t := 34) ?hr ?_; (case hd => rfl); (case hg => rfl); (case hr => first | (go_simp; done) | (go_simp; rfl)); intro gb517 hg w3 hbox hb; have n0_ := Aside0.mk (below_step (hB_ HB) hb); have n1_ := Aside0.mk (hbox); have n2_ := gG_ (w := w) hg HB; have n3_ := gG_ (w := w) hg HB; clear HB; have HB := n0_; have BK517 := n1_; have GW517 := n2_; have GE517 := n3_; clear n0_ n1_ n2_ n3_; clear hb hbox hg; obtain ⟨hcz4_0, hcz4_1, hcz4_2, hcz4_3, hcz4_4, hfz4_0, hfz4_1, hfz4_2, hfz4_3, hfz4_4⟩ := cz5_ (w := w3) BK517))
  go_ret
  exact ⟨er_, by repeat (first | (with_reducible first | exact HB.out | apply below_alloc | apply pw_below_drewN | apply below_drew1 | refine below_set ?_ GE517.out) | exact HB.out)⟩
 ·rw [if_neg c2] at H
  have c2b0 : decide ((l0_3.length : Int) ≤ 300) = false := decide_eq_false c2
  have c2b1 : decide (l0_3.length ≤ 300) = false := decide_eq_false (by omega)
  clear c2
  obtain rfl := Option.some.inj H
  go_enter Tryd.func12, Tryd.ntmps12
  go_wp2_with (first | ((with_reducible refine gate_dst (N := 1) rfl ?_); (try (refine gate_guard (by rfl) ?_; dsimp only)); refine box_event ?hg (N := 1) ?hd (cs := #[.int .i64 a0_0, .int .u32 a0_1, .bool a0_2, .slice A0_3 l0_3.length c0_3, .slice A0_4 l0_4.length c0_4]) (t := 34) ?hr ?_; (case hd => rfl); (case hg => rfl); (case hr => first | (go_simp; done) | (go_simp; rfl)); intro gb517 hg w5 hbox hb; have n0_ := Aside0.mk (below_step (hB_ HB) hb); have n1_ := Aside0.mk (hbox); have n2_ := gG_ (w := w) hg HB; have n3_ := gG_ (w := w) hg HB; clear HB; have HB := n0_; have BK517 := n1_; have GW517 := n2_; have GE517 := n3_; clear n0_ n1_ n2_ n3_; clear hb hbox hg; obtain ⟨hcz6_0, hcz6_1, hcz6_2, hcz6_3, hcz6_4, hfz6_0, hfz6_1, hfz6_2, hfz6_3, hfz6_4⟩ := cz5_ (w := w5) BK517))
  go_ret
  exact ⟨er_, by repeat (first | (with_reducible first | exact HB.out | apply below_alloc | apply pw_below_drewN | apply below_drew1 | refine below_set ?_ GE517.out) | exact HB.out)⟩

/-! ### lodgerref08_Addrs: function 40 -/
def lodgerref08_Addrs.l0 : Nat → List Int → List Int → Int → Option (Bool)
 | 0, _, _, _ => none
 | k + 1, x0, x1, x5 => if x5 < (x0.length : Int) then (if 0 ≤ x5 then (if x5 < (x1.length : Int) then (if (rd x0 x5) = (rd x1 x5) then (lodgerref08_Addrs.l0 k x0 x1 (wrap64 (x5 + 1))) else (some false)) else (none)) else (none)) else (some true)
def lodgerref08_Addrs.f (k : Nat) (l0 : List Int) (l1 : List Int) : Option (Bool) := if (l0.length : Int) = (l1.length : Int) then (lodgerref08_Addrs.l0 k l0 l1 0) else (some false)
theorem lodgerref08_Addrs.mono_l : ∀ k, (∀ y0 y1 y2, LeO (lodgerref08_Addrs.l0 k y0 y1 y2) (lodgerref08_Addrs.l0 (k + 1) y0 y1 y2))
 | 0 => fun _ _ _ r h => by simp [lodgerref08_Addrs.l0] at h
 | k + 1 => by
  have ih0 := lodgerref08_Addrs.mono_l k
  ·intro y0 y1 y2
   unfold lodgerref08_Addrs.l0
   repeat' first
   | (with_reducible exact ih0 _ _ _)
   | (with_reducible exact LeO.refl _)
   | (with_reducible exact LeO.none _)
   | (with_reducible refine LeO.ite ?_ ?_)
   | (with_reducible refine LeO.bind ?_ (fun _ => ?_))
   | exact ih0 _ _ _
   | exact LeO.none _
   | refine LeO.ite ?_ ?_
   | refine LeO.bind ?_ (fun _ => ?_)
theorem lodgerref08_Addrs.mono : ∀ a0 a1 k, LeO (lodgerref08_Addrs.f k a0 a1) (lodgerref08_Addrs.f (k + 1) a0 a1) := by
 intro a0 a1 k
 have ih0 := lodgerref08_Addrs.mono_l k
 unfold lodgerref08_Addrs.f
 repeat' first
   | (with_reducible exact ih0 _ _ _)
   | (with_reducible exact LeO.refl _)
   | (with_reducible exact LeO.none _)
   | (with_reducible refine LeO.ite ?_ ?_)
   | (with_reducible refine LeO.bind ?_ (fun _ => ?_))
   | exact ih0 _ _ _
   | exact LeO.none _
   | refine LeO.ite ?_ ?_
   | refine LeO.bind ?_ (fun _ => ?_)
set_option maxHeartbeats 8000000 in
set_option maxRecDepth 100000 in
theorem lodgerref08_Addrs.calls (k : Nat) (A0 : Option Addr) (c0 : Nat) (l0 : List Int) (A1 : Option Addr) (c1 : Nat) (l1 : List Int) (r : Bool) (w : World) (hr0 : Kd.C (Kd.int .u32) w A0 l0.length l0) (hc0 : l0.length ≤ c0) (hr1 : Kd.C (Kd.int .u32) w A1 l1.length l1) (hc1 : l1.length ≤ c1) (h : lodgerref08_Addrs.f k l0 l1 = some r) :
  Calls Tryd.prog 40 #[.slice A0 l0.length c0, .slice A1 l1.length c1] w fun e w' => e = .returned (.bool r) ∧ Drawn0 w w' := by
 have HR0 := Aside0.mk hr0
 have HC0 := Aside0.mk hc0
 clear hr0 hc0
 have HR1 := Aside0.mk hr1
 have HC1 := Aside0.mk hc1
 clear hr1 hc1
 have H : (if (l0.length : Int) = (l1.length : Int) then (lodgerref08_Addrs.l0 k l0 l1 0) else (some false)) = some r := h
 clear h
 by_cases c3 : (l0.length : Int) = (l1.length : Int)
 ·rw [if_pos c3] at H
  have c3b0 : ((l0.length : Int) == (l1.length : Int)) = true := beq_iff_eq.mpr c3
  have c3b1 : ((l0.length : Int) != (l1.length : Int)) = false := bne_eq_false_iff_eq.mpr c3
  have c3b2 : (l0.length == l1.length) = true := by first | simpa using c3 | (simp at c3 ⊢; omega)
  clear c3
  have H' := Aside0.mk H
  clear H
  go_enter Tryd.func40, Tryd.ntmps40
  go_wp2
  repeat (go_quiet (fail); try go_wp2)
  go_loopg [5] k (fun kq v5 w' => ∃ (x5_1 : Int), v5 = .int .i64 x5_1 ∧ Aside0 (lodgerref08_Addrs.l0 kq l0 l1 x5_1 = some r) ∧ Aside0 (kq ≤ k) ∧ Drawn0 w w')
  case atStart => exact ⟨(0), rs_, H', ⟨Nat.le_refl _⟩, by repeat (first | exact Drawn0.refl _ | apply Drawn0.step)⟩
  case round =>
   clear H'
   try clear c1
   try clear p2
   try clear c3
   try clear c3b0
   try clear c3b1
   try clear c3b2
   obtain ⟨x5_1, rfl, HA, HK1, ⟨m1, rfl⟩⟩ := hrel
   cases gk with
   | zero => exact absurd HA.out (by simp [lodgerref08_Addrs.l0])
   | succ k1 =>
    have H := HA.out
    clear HA
    simp only [lodgerref08_Addrs.l0] at H
    by_cases c4 : x5_1 < (l0.length : Int)
    ·rw [if_pos c4] at H
     have c4b0 : decide (x5_1 < (l0.length : Int)) = true := decide_eq_true c4
     clear c4
     by_cases c5 : 0 ≤ x5_1
     ·rw [if_pos c5] at H
      have c5b0 : decide (0 ≤ x5_1) = true := decide_eq_true c5
      clear c5
      by_cases c6 : x5_1 < (l1.length : Int)
      ·rw [if_pos c6] at H
       have c6b0 : decide (x5_1 < (l1.length : Int)) = true := decide_eq_true c6
       clear c6
       by_cases c7 : (rd l0 x5_1) = (rd l1 x5_1)
       ·rw [if_pos c7] at H
        have c7b0 : ((rd l0 x5_1) == (rd l1 x5_1)) = true := beq_iff_eq.mpr c7
        have c7b1 : ((rd l0 x5_1) != (rd l1 x5_1)) = false := bne_eq_false_iff_eq.mpr c7
        clear c7
        have H' := Aside0.mk H
        clear H
        have p518 : 0 ≤ (x5_1 : Int) := od_
        have q518 : x5_1 < (l0.length : Int) := od_
        obtain ⟨ad518, e518, hx518_0⟩ := Kd.at_int HR0.out x5_1 p518 q518
        cases e518
        replace p518 := eq_true p518
        replace q518 := eq_true q518
        have p519 : 0 ≤ (x5_1 : Int) := od_
        have q519 : x5_1 < (l1.length : Int) := od_
        obtain ⟨ad519, e519, hx519_0⟩ := Kd.at_int HR1.out x5_1 p519 q519
        cases e519
        replace p519 := eq_true p519
        replace q519 := eq_true q519
        go_wp2
        repeat (go_quiet (fail); try go_wp2)
        go_roundg k1
        case measure => have := HK1.out; omega
        case rel => exact ⟨(wrap64 (x5_1 + 1)), rs_, H', ⟨by have := HK1.out; omega⟩, by repeat (first | exact Drawn0.refl _ | apply Drawn0.step)⟩
       ·rw [if_neg c7] at H
        have c7b0 : ((rd l0 x5_1) == (rd l1 x5_1)) = false := beq_eq_false_iff_ne.mpr c7
        have c7b1 : ((rd l0 x5_1) != (rd l1 x5_1)) = true := bne_iff_ne.mpr c7
        obtain rfl := Option.some.inj H
        have p518 : 0 ≤ (x5_1 : Int) := od_
        have q518 : x5_1 < (l0.length : Int) := od_
        obtain ⟨ad518, e518, hx518_0⟩ := Kd.at_int HR0.out x5_1 p518 q518
        cases e518
        replace p518 := eq_true p518
        replace q518 := eq_true q518
        have p519 : 0 ≤ (x5_1 : Int) := od_
        have q519 : x5_1 < (l1.length : Int) := od_
        obtain ⟨ad519, e519, hx519_0⟩ := Kd.at_int HR1.out x5_1 p519 q519
        cases e519
        replace p519 := eq_true p519
        replace q519 := eq_true q519
        go_wp2
        repeat (go_quiet (fail); try go_wp2)
        go_ret
        exact ⟨by first | rfl | (simp; done) | (simp [*]; done), by repeat (first | exact Drawn0.refl _ | apply Drawn0.step)⟩
      ·rw [if_neg c6] at H
       exact absurd H (by simp)
     ·rw [if_neg c5] at H
      exact absurd H (by simp)
    ·rw [if_neg c4] at H
     have c4b0 : decide (x5_1 < (l0.length : Int)) = false := decide_eq_false c4
     clear c4
     obtain rfl := Option.some.inj H
     go_wp2
     repeat (go_quiet (fail); try go_wp2)
     go_ret
     exact ⟨by first | rfl | (simp; done) | (simp [*]; done), by repeat (first | exact Drawn0.refl _ | apply Drawn0.step)⟩
 ·rw [if_neg c3] at H
  have c3b0 : ((l0.length : Int) == (l1.length : Int)) = false := beq_eq_false_iff_ne.mpr c3
  have c3b1 : ((l0.length : Int) != (l1.length : Int)) = true := bne_iff_ne.mpr c3
  have c3b2 : (l0.length == l1.length) = false := by first | simpa using c3 | (simp at c3 ⊢; omega)
  obtain rfl := Option.some.inj H
  go_enter Tryd.func40, Tryd.ntmps40
  go_wp2
  repeat (go_quiet (fail); try go_wp2)
  go_ret
  exact ⟨by first | rfl | (simp; done) | (simp [*]; done), by repeat (first | exact Drawn0.refl _ | apply Drawn0.step)⟩

/-! ### lodgerref08_Asks: function 26 -/
def lodgerref08_Asks.f (k : Nat) (a0_0 : Int) (a0_1 : Int) (l0_2 : List Int) (a1_0 : Int) (a1_1 : Int) (l1_2 : List Int) : Option (Bool) := if a0_0 = a1_0 then (if a0_1 = a1_1 then ((lodgerref08_Addrs.f k l0_2 l1_2).bind fun t522 => (some t522)) else (some false)) else (some false)
theorem lodgerref08_Asks.mono : ∀ a0 a1 a2 a3 a4 a5 k, LeO (lodgerref08_Asks.f k a0 a1 a2 a3 a4 a5) (lodgerref08_Asks.f (k + 1) a0 a1 a2 a3 a4 a5) := by
 intro a0 a1 a2 a3 a4 a5 k
 unfold lodgerref08_Asks.f
 repeat' first
   | (with_reducible exact lodgerref08_Addrs.mono _ _ _)
   | (with_reducible exact LeO.refl _)
   | (with_reducible exact LeO.none _)
   | (with_reducible refine LeO.ite ?_ ?_)
   | (with_reducible refine LeO.bind ?_ (fun _ => ?_))
   | exact lodgerref08_Addrs.mono _ _ _
   | exact LeO.none _
   | refine LeO.ite ?_ ?_
   | refine LeO.bind ?_ (fun _ => ?_)
set_option maxHeartbeats 8000000 in
set_option maxRecDepth 100000 in
theorem lodgerref08_Asks.calls (k : Nat) (a0_0 : Int) (a0_1 : Int) (A0_2 : Option Addr) (c0_2 : Nat) (l0_2 : List Int) (a1_0 : Int) (a1_1 : Int) (A1_2 : Option Addr) (c1_2 : Nat) (l1_2 : List Int) (r : Bool) (w : World) (hr0_2 : Kd.C (Kd.int .u32) w A0_2 l0_2.length l0_2) (hc0_2 : l0_2.length ≤ c0_2) (hr1_2 : Kd.C (Kd.int .u32) w A1_2 l1_2.length l1_2) (hc1_2 : l1_2.length ≤ c1_2) (h : lodgerref08_Asks.f k a0_0 a0_1 l0_2 a1_0 a1_1 l1_2 = some r) :
  Calls Tryd.prog 26 #[.agg #[.int .i64 a0_0, .int .u32 a0_1, .slice A0_2 l0_2.length c0_2], .agg #[.int .i64 a1_0, .int .u32 a1_1, .slice A1_2 l1_2.length c1_2]] w fun e w' => e = .returned (.bool r) ∧ Below w.heap.size w w' := by
 have hu30 := Tryd.underlying30
 have HR0_2 := Aside0.mk hr0_2
 have HC0_2 := Aside0.mk hc0_2
 clear hr0_2 hc0_2
 have HR1_2 := Aside0.mk hr1_2
 have HC1_2 := Aside0.mk hc1_2
 clear hr1_2 hc1_2
 have HB := Aside0.mk (Below.refl w.heap.size w)
 have H : (if a0_0 = a1_0 then (if a0_1 = a1_1 then ((lodgerref08_Addrs.f k l0_2 l1_2).bind fun t522 => (some t522)) else (some false)) else (some false)) = some r := h
 clear h
 by_cases c3 : a0_0 = a1_0
 ·rw [if_pos c3] at H
  have c3b0 : (a0_0 == a1_0) = true := beq_iff_eq.mpr c3
  have c3b1 : (a0_0 != a1_0) = false := bne_eq_false_iff_eq.mpr c3
  clear c3
  by_cases c4 : a0_1 = a1_1
  ·rw [if_pos c4] at H
   have c4b0 : (a0_1 == a1_1) = true := beq_iff_eq.mpr c4
   have c4b1 : (a0_1 != a1_1) = false := bne_eq_false_iff_eq.mpr c4
   clear c4
   replace H := Option.bind_eq_some_iff.mp H
   obtain ⟨t522, A50, H⟩ := H
   replace H : (some t522) = some r := H
   have A5 := Aside0.mk A50
   clear A50
   obtain rfl := Option.some.inj H
   go_enter Tryd.func26, Tryd.ntmps26
   go_wp2_with (first | ((with_reducible refine gate_dst (N := 2) rfl ?_); refine box_event ?hg (N := 2) ?hd (cs := #[.int .i64 a0_0, .int .u32 a0_1, .slice A0_2 l0_2.length c0_2]) (t := 30) ?hr ?_; (case hd => rfl); (case hg => rfl); (case hr => first | (go_simp; done) | (go_simp; rfl)); intro gb520 hg w6 hbox hb; have n0_ := Aside0.mk (below_step (hB_ HB) hb); have n1_ := Aside0.mk (hbox); have n2_ := gG_ (w := w) hg HB; have n3_ := gG_ (w := w) hg HB; clear HB; have HB := n0_; have BK520 := n1_; have GW520 := n2_; have GE520 := n3_; clear n0_ n1_ n2_ n3_; clear hb hbox hg) | ((with_reducible refine gate_dst (N := 3) rfl ?_); refine box_event ?hg (N := 3) ?hd (cs := #[.int .i64 a1_0, .int .u32 a1_1, .slice A1_2 l1_2.length c1_2]) (t := 30) ?hr ?_; (case hd => rfl); (case hg => rfl); (case hr => first | (go_simp; done) | (go_simp; rfl)); intro gb521 hg w7 hbox hb; have n0_ := bB_ BK520 hb; have n1_ := Aside0.mk (below_step (hB_ HB) hb); have n2_ := Aside0.mk (hbox); have n3_ := gG_ (w := w) hg HB; have n4_ := gG_ (w := w) hg HB; have n5_ := nL_ hg BK520; have n6_ := nG_ hg BK520; clear BK520; clear HB; have BK520 := n0_; have HB := n1_; have BK521 := n2_; have GW521 := n3_; have GE521 := n4_; have NB520_521 := n5_; have NB521_520 := n6_; clear n0_ n1_ n2_ n3_ n4_ n5_ n6_; clear hb hbox hg; have hnb8 := NB520_521.out; have hnc8 := NB521_520.out; obtain ⟨hcz9_0, hcz9_1, hcz9_2, hfz9_0, hfz9_1, hfz9_2⟩ := cz3_ (w := w7) BK520; obtain ⟨hcz10_0, hcz10_1, hcz10_2, hfz10_0, hfz10_1, hfz10_2⟩ := cz3_ (w := w7) BK521) | (go_at_call 40; (with_reducible refine (lodgerref08_Addrs.calls k _ _ l0_2 _ _ l1_2 t522 _ ?side1 ?side2 ?side3 ?side4 A5.out).mono ?_); (case side1 => exact cC_ HR0_2 HB); (case side2 => exact HC0_2.out); (case side3 => exact cC_ HR1_2 HB); (case side4 => exact HC1_2.out); rintro e w' ⟨rfl, ⟨nd, rfl⟩⟩))
   go_ret
   exact ⟨er_, by repeat (first | (with_reducible first | exact HB.out | apply below_alloc | apply pw_below_drewN | apply below_drew1 | refine below_set ?_ GE520.out | refine below_set ?_ GE521.out) | exact HB.out)⟩
  ·rw [if_neg c4] at H
   have c4b0 : (a0_1 == a1_1) = false := beq_eq_false_iff_ne.mpr c4
   have c4b1 : (a0_1 != a1_1) = true := bne_iff_ne.mpr c4
   obtain rfl := Option.some.inj H
   go_enter Tryd.func26, Tryd.ntmps26
   go_wp2_with (first | ((with_reducible refine gate_dst (N := 2) rfl ?_); refine box_event ?hg (N := 2) ?hd (cs := #[.int .i64 a0_0, .int .u32 a0_1, .slice A0_2 l0_2.length c0_2]) (t := 30) ?hr ?_; (case hd => rfl); (case hg => rfl); (case hr => first | (go_simp; done) | (go_simp; rfl)); intro gb520 hg w11 hbox hb; have n0_ := Aside0.mk (below_step (hB_ HB) hb); have n1_ := Aside0.mk (hbox); have n2_ := gG_ (w := w) hg HB; have n3_ := gG_ (w := w) hg HB; clear HB; have HB := n0_; have BK520 := n1_; have GW520 := n2_; have GE520 := n3_; clear n0_ n1_ n2_ n3_; clear hb hbox hg) | ((with_reducible refine gate_dst (N := 3) rfl ?_); refine box_event ?hg (N := 3) ?hd (cs := #[.int .i64 a1_0, .int .u32 a1_1, .slice A1_2 l1_2.length c1_2]) (t := 30) ?hr ?_; (case hd => rfl); (case hg => rfl); (case hr => first | (go_simp; done) | (go_simp; rfl)); intro gb521 hg w12 hbox hb; have n0_ := bB_ BK520 hb; have n1_ := Aside0.mk (below_step (hB_ HB) hb); have n2_ := Aside0.mk (hbox); have n3_ := gG_ (w := w) hg HB; have n4_ := gG_ (w := w) hg HB; have n5_ := nL_ hg BK520; have n6_ := nG_ hg BK520; clear BK520; clear HB; have BK520 := n0_; have HB := n1_; have BK521 := n2_; have GW521 := n3_; have GE521 := n4_; have NB520_521 := n5_; have NB521_520 := n6_; clear n0_ n1_ n2_ n3_ n4_ n5_ n6_; clear hb hbox hg; have hnb13 := NB520_521.out; have hnc13 := NB521_520.out; obtain ⟨hcz14_0, hcz14_1, hcz14_2, hfz14_0, hfz14_1, hfz14_2⟩ := cz3_ (w := w12) BK520; obtain ⟨hcz15_0, hcz15_1, hcz15_2, hfz15_0, hfz15_1, hfz15_2⟩ := cz3_ (w := w12) BK521))
   go_ret
   exact ⟨er_, by repeat (first | (with_reducible first | exact HB.out | apply below_alloc | apply pw_below_drewN | apply below_drew1 | refine below_set ?_ GE520.out | refine below_set ?_ GE521.out) | exact HB.out)⟩
 ·rw [if_neg c3] at H
  have c3b0 : (a0_0 == a1_0) = false := beq_eq_false_iff_ne.mpr c3
  have c3b1 : (a0_0 != a1_0) = true := bne_iff_ne.mpr c3
  obtain rfl := Option.some.inj H
  go_enter Tryd.func26, Tryd.ntmps26
  go_wp2_with (first | ((with_reducible refine gate_dst (N := 2) rfl ?_); refine box_event ?hg (N := 2) ?hd (cs := #[.int .i64 a0_0, .int .u32 a0_1, .slice A0_2 l0_2.length c0_2]) (t := 30) ?hr ?_; (case hd => rfl); (case hg => rfl); (case hr => first | (go_simp; done) | (go_simp; rfl)); intro gb520 hg w16 hbox hb; have n0_ := Aside0.mk (below_step (hB_ HB) hb); have n1_ := Aside0.mk (hbox); have n2_ := gG_ (w := w) hg HB; have n3_ := gG_ (w := w) hg HB; clear HB; have HB := n0_; have BK520 := n1_; have GW520 := n2_; have GE520 := n3_; clear n0_ n1_ n2_ n3_; clear hb hbox hg) | ((with_reducible refine gate_dst (N := 3) rfl ?_); refine box_event ?hg (N := 3) ?hd (cs := #[.int .i64 a1_0, .int .u32 a1_1, .slice A1_2 l1_2.length c1_2]) (t := 30) ?hr ?_; (case hd => rfl); (case hg => rfl); (case hr => first | (go_simp; done) | (go_simp; rfl)); intro gb521 hg w17 hbox hb; have n0_ := bB_ BK520 hb; have n1_ := Aside0.mk (below_step (hB_ HB) hb); have n2_ := Aside0.mk (hbox); have n3_ := gG_ (w := w) hg HB; have n4_ := gG_ (w := w) hg HB; have n5_ := nL_ hg BK520; have n6_ := nG_ hg BK520; clear BK520; clear HB; have BK520 := n0_; have HB := n1_; have BK521 := n2_; have GW521 := n3_; have GE521 := n4_; have NB520_521 := n5_; have NB521_520 := n6_; clear n0_ n1_ n2_ n3_ n4_ n5_ n6_; clear hb hbox hg; have hnb18 := NB520_521.out; have hnc18 := NB521_520.out; obtain ⟨hcz19_0, hcz19_1, hcz19_2, hfz19_0, hfz19_1, hfz19_2⟩ := cz3_ (w := w17) BK520; obtain ⟨hcz20_0, hcz20_1, hcz20_2, hfz20_0, hfz20_1, hfz20_2⟩ := cz3_ (w := w17) BK521))
  go_ret
  exact ⟨er_, by repeat (first | (with_reducible first | exact HB.out | apply below_alloc | apply pw_below_drewN | apply below_drew1 | refine below_set ?_ GE520.out | refine below_set ?_ GE521.out) | exact HB.out)⟩

/-! ### lodgerlaw11_SpecKeeps: function 6 -/
def lodgerlaw11_SpecKeeps.j0 : Nat → List Int → Bool → Int → Int → List Int → Int → Int → Int → Int → Int → Int → List Int → Int → Int → Bool → List Int → List Int → Option (Bool)
 | 0, _, _, _, _, _, _, _, _, _, _, _, _, _, _, _, _, _ => none
 | k + 1, x1, x28, x524000, x524001, x524002, x524003, x524004, x524005, x524006, x525000, x525001, x525002, x526000, x526001, x526002, x526003, x526004 => if x28 = true then ((lodgerlaw11_awake.f k).bind fun t530 => (some t530)) else ((some (([] : List Int) : List Int)).bind fun y531 => (if y531.length + x1.length < 17592186044416 then ((some (y531 ++ x1 : List Int)).bind fun y534 => ((some (([] : List Int) : List Int)).bind fun y538 => (if y538.length + x525002.length < 35184372088832 then ((some (y538 ++ x525002 : List Int)).bind fun y541 => ((spec_Legal.f k x524000 x524001 x524002 x524003 x524004 x524005 x524006 y534 x525000 x525001 y541 x526000 x526001 x526002 x526003 x526004).bind fun bt544 => ((spec_Some.f k x524000 x524001 x524002 x524003 x524004 x524005 x524006 y534 x525000 x525001 y541).bind fun bt548 => ((lodgerref03_Ints.f k y534 x1).bind fun t560 => (if t560 = true then ((lodgerref08_Asks.f k x525000 x525001 y541 x525000 x525001 x525002).bind fun t561 => (some t561)) else (some false)))))) else (none)))) else (none)))
def lodgerlaw11_SpecKeeps.f (k : Nat) (a0_0 : Int) (a0_1 : Int) (l0_2 : List Int) (a0_3 : Int) (a0_4 : Int) (a0_5 : Int) (a0_6 : Int) (l1 : List Int) (a2_0 : Int) (a2_1 : Int) (l2_2 : List Int) (a3_0 : Int) (a3_1 : Int) (a3_2 : Bool) (l3_3 : List Int) (l3_4 : List Int) : Option (Bool) := (lodgerlaw11_awake.f k).bind fun t526 => (if t526 = true then ((lodgerref11_Fits.f k a0_0 a0_1 l0_2 a0_3 a0_4 a0_5 a0_6 l1).bind fun t527 => (if t527 = true then ((lodgerref10_Few.f a2_0 a2_1 l2_2).bind fun t528 => (if t528 = true then ((lodgerref11_Few.f a3_0 a3_1 a3_2 l3_3 l3_4).bind fun t529 => (lodgerlaw11_SpecKeeps.j0 k l1 (!t529) a0_0 a0_1 l0_2 a0_3 a0_4 a0_5 a0_6 a2_0 a2_1 l2_2 a3_0 a3_1 a3_2 l3_3 l3_4)) else (lodgerlaw11_SpecKeeps.j0 k l1 true a0_0 a0_1 l0_2 a0_3 a0_4 a0_5 a0_6 a2_0 a2_1 l2_2 a3_0 a3_1 a3_2 l3_3 l3_4))) else (lodgerlaw11_SpecKeeps.j0 k l1 true a0_0 a0_1 l0_2 a0_3 a0_4 a0_5 a0_6 a2_0 a2_1 l2_2 a3_0 a3_1 a3_2 l3_3 l3_4))) else (lodgerlaw11_SpecKeeps.j0 k l1 true a0_0 a0_1 l0_2 a0_3 a0_4 a0_5 a0_6 a2_0 a2_1 l2_2 a3_0 a3_1 a3_2 l3_3 l3_4))
theorem lodgerlaw11_SpecKeeps.mono_l : ∀ k, (∀ y0 y1 y2 y3 y4 y5 y6 y7 y8 y9 y10 y11 y12 y13 y14 y15 y16, LeO (lodgerlaw11_SpecKeeps.j0 k y0 y1 y2 y3 y4 y5 y6 y7 y8 y9 y10 y11 y12 y13 y14 y15 y16) (lodgerlaw11_SpecKeeps.j0 (k + 1) y0 y1 y2 y3 y4 y5 y6 y7 y8 y9 y10 y11 y12 y13 y14 y15 y16))
 | 0 => fun _ _ _ _ _ _ _ _ _ _ _ _ _ _ _ _ _ r h => by simp [lodgerlaw11_SpecKeeps.j0] at h
 | k + 1 => by
  have ih0 := lodgerlaw11_SpecKeeps.mono_l k
  ·intro y0 y1 y2 y3 y4 y5 y6 y7 y8 y9 y10 y11 y12 y13 y14 y15 y16
   unfold lodgerlaw11_SpecKeeps.j0
   repeat' first
   | (with_reducible exact ih0 _ _ _ _ _ _ _ _ _ _ _ _ _ _ _ _ _)
   | (with_reducible exact lodgerlaw11_awake.mono _)
   | (with_reducible exact lodgerref03_Ints.mono _ _ _)
   | (with_reducible exact lodgerref08_Asks.mono _ _ _ _ _ _ _)
   | (with_reducible exact lodgerref11_Fits.mono _ _ _ _ _ _ _ _ _)
   | (with_reducible exact spec_Legal.mono _ _ _ _ _ _ _ _ _ _ _ _ _ _ _ _ _)
   | (with_reducible exact spec_Some.mono _ _ _ _ _ _ _ _ _ _ _ _)
   | (with_reducible exact LeO.refl _)
   | (with_reducible exact LeO.none _)
   | (with_reducible refine LeO.ite ?_ ?_)
   | (with_reducible refine LeO.bind ?_ (fun _ => ?_))
   | exact ih0 _ _ _ _ _ _ _ _ _ _ _ _ _ _ _ _ _
   | exact lodgerlaw11_awake.mono _
   | exact lodgerref03_Ints.mono _ _ _
   | exact lodgerref08_Asks.mono _ _ _ _ _ _ _
   | exact lodgerref11_Fits.mono _ _ _ _ _ _ _ _ _
   | exact spec_Legal.mono _ _ _ _ _ _ _ _ _ _ _ _ _ _ _ _ _
   | exact spec_Some.mono _ _ _ _ _ _ _ _ _ _ _ _
   | exact LeO.none _
   | refine LeO.ite ?_ ?_
   | refine LeO.bind ?_ (fun _ => ?_)
theorem lodgerlaw11_SpecKeeps.mono : ∀ a0 a1 a2 a3 a4 a5 a6 a7 a8 a9 a10 a11 a12 a13 a14 a15 k, LeO (lodgerlaw11_SpecKeeps.f k a0 a1 a2 a3 a4 a5 a6 a7 a8 a9 a10 a11 a12 a13 a14 a15) (lodgerlaw11_SpecKeeps.f (k + 1) a0 a1 a2 a3 a4 a5 a6 a7 a8 a9 a10 a11 a12 a13 a14 a15) := by
 intro a0 a1 a2 a3 a4 a5 a6 a7 a8 a9 a10 a11 a12 a13 a14 a15 k
 have ih0 := lodgerlaw11_SpecKeeps.mono_l k
 unfold lodgerlaw11_SpecKeeps.f
 repeat' first
   | (with_reducible exact ih0 _ _ _ _ _ _ _ _ _ _ _ _ _ _ _ _ _)
   | (with_reducible exact lodgerlaw11_awake.mono _)
   | (with_reducible exact lodgerref03_Ints.mono _ _ _)
   | (with_reducible exact lodgerref08_Asks.mono _ _ _ _ _ _ _)
   | (with_reducible exact lodgerref11_Fits.mono _ _ _ _ _ _ _ _ _)
   | (with_reducible exact spec_Legal.mono _ _ _ _ _ _ _ _ _ _ _ _ _ _ _ _ _)
   | (with_reducible exact spec_Some.mono _ _ _ _ _ _ _ _ _ _ _ _)
   | (with_reducible exact LeO.refl _)
   | (with_reducible exact LeO.none _)
   | (with_reducible refine LeO.ite ?_ ?_)
   | (with_reducible refine LeO.bind ?_ (fun _ => ?_))
   | exact ih0 _ _ _ _ _ _ _ _ _ _ _ _ _ _ _ _ _
   | exact lodgerlaw11_awake.mono _
   | exact lodgerref03_Ints.mono _ _ _
   | exact lodgerref08_Asks.mono _ _ _ _ _ _ _
   | exact lodgerref11_Fits.mono _ _ _ _ _ _ _ _ _
   | exact spec_Legal.mono _ _ _ _ _ _ _ _ _ _ _ _ _ _ _ _ _
   | exact spec_Some.mono _ _ _ _ _ _ _ _ _ _ _ _
   | exact LeO.none _
   | refine LeO.ite ?_ ?_
   | refine LeO.bind ?_ (fun _ => ?_)
set_option maxHeartbeats 8000000 in
set_option maxRecDepth 100000 in
theorem lodgerlaw11_SpecKeeps.calls (k : Nat) (a0_0 : Int) (a0_1 : Int) (A0_2 : Option Addr) (c0_2 : Nat) (l0_2 : List Int) (a0_3 : Int) (a0_4 : Int) (a0_5 : Int) (a0_6 : Int) (A1 : Option Addr) (c1 : Nat) (l1 : List Int) (a2_0 : Int) (a2_1 : Int) (A2_2 : Option Addr) (c2_2 : Nat) (l2_2 : List Int) (a3_0 : Int) (a3_1 : Int) (a3_2 : Bool) (A3_3 : Option Addr) (c3_3 : Nat) (l3_3 : List Int) (A3_4 : Option Addr) (c3_4 : Nat) (l3_4 : List Int) (r : Bool) (w : World) (hr0_2 : Kd.C (Kd.int .i64) w A0_2 l0_2.length l0_2) (hc0_2 : l0_2.length ≤ c0_2) (hr1 : Kd.C (Kd.int .i64) w A1 l1.length l1) (hc1 : l1.length ≤ c1) (hr2_2 : Kd.C (Kd.int .u32) w A2_2 l2_2.length l2_2) (hc2_2 : l2_2.length ≤ c2_2) (hr3_3 : Kd.C (Kd.int .u32) w A3_3 l3_3.length l3_3) (hc3_3 : l3_3.length ≤ c3_3) (hr3_4 : Kd.C (Kd.int .i64) w A3_4 l3_4.length l3_4) (hc3_4 : l3_4.length ≤ c3_4) (hG : Lg w) (hr_ : r = true) (h : lodgerlaw11_SpecKeeps.f k a0_0 a0_1 l0_2 a0_3 a0_4 a0_5 a0_6 l1 a2_0 a2_1 l2_2 a3_0 a3_1 a3_2 l3_3 l3_4 = some r) :
  Calls Tryd.prog 6 #[.agg #[.int .u32 a0_0, .int .i64 a0_1, .slice A0_2 l0_2.length c0_2, .int .i64 a0_3, .int .i64 a0_4, .int .i64 a0_5, .int .i64 a0_6], .slice A1 l1.length c1, .agg #[.int .i64 a2_0, .int .u32 a2_1, .slice A2_2 l2_2.length c2_2], .agg #[.int .i64 a3_0, .int .u32 a3_1, .bool a3_2, .slice A3_3 l3_3.length c3_3, .slice A3_4 l3_4.length c3_4]] w fun e w' => e = .returned (.bool r) ∧ Below w.heap.size w w' := by
 have hu27 := Tryd.underlying27
 have hu30 := Tryd.underlying30
 have hu34 := Tryd.underlying34
 have HR0_2 := Aside0.mk hr0_2
 have HC0_2 := Aside0.mk hc0_2
 clear hr0_2 hc0_2
 have HR1 := Aside0.mk hr1
 have HC1 := Aside0.mk hc1
 clear hr1 hc1
 have HR2_2 := Aside0.mk hr2_2
 have HC2_2 := Aside0.mk hc2_2
 clear hr2_2 hc2_2
 have HR3_3 := Aside0.mk hr3_3
 have HC3_3 := Aside0.mk hc3_3
 clear hr3_3 hc3_3
 have HR3_4 := Aside0.mk hr3_4
 have HC3_4 := Aside0.mk hc3_4
 clear hr3_4 hc3_4
 have HB := Aside0.mk (Below.refl w.heap.size w)
 have HG := Aside0.mk hG
 clear hG
 replace hr_ := Aside0.mk hr_
 have H : ((lodgerlaw11_awake.f k).bind fun t526 => (if t526 = true then ((lodgerref11_Fits.f k a0_0 a0_1 l0_2 a0_3 a0_4 a0_5 a0_6 l1).bind fun t527 => (if t527 = true then ((lodgerref10_Few.f a2_0 a2_1 l2_2).bind fun t528 => (if t528 = true then ((lodgerref11_Few.f a3_0 a3_1 a3_2 l3_3 l3_4).bind fun t529 => (lodgerlaw11_SpecKeeps.j0 k l1 (!t529) a0_0 a0_1 l0_2 a0_3 a0_4 a0_5 a0_6 a2_0 a2_1 l2_2 a3_0 a3_1 a3_2 l3_3 l3_4)) else (lodgerlaw11_SpecKeeps.j0 k l1 true a0_0 a0_1 l0_2 a0_3 a0_4 a0_5 a0_6 a2_0 a2_1 l2_2 a3_0 a3_1 a3_2 l3_3 l3_4))) else (lodgerlaw11_SpecKeeps.j0 k l1 true a0_0 a0_1 l0_2 a0_3 a0_4 a0_5 a0_6 a2_0 a2_1 l2_2 a3_0 a3_1 a3_2 l3_3 l3_4))) else (lodgerlaw11_SpecKeeps.j0 k l1 true a0_0 a0_1 l0_2 a0_3 a0_4 a0_5 a0_6 a2_0 a2_1 l2_2 a3_0 a3_1 a3_2 l3_3 l3_4))) = some r := h
 clear h
 have HC5 := Aside0.mk H
 clear H
 go_enter Tryd.func6, Tryd.ntmps6
 go_upto_region 1 with (first | ((with_reducible refine gate_dst (N := 4) rfl ?_); refine box_event ?hg (N := 4) ?hd (cs := #[.int .u32 a0_0, .int .i64 a0_1, .slice A0_2 l0_2.length c0_2, .int .i64 a0_3, .int .i64 a0_4, .int .i64 a0_5, .int .i64 a0_6]) (t := 27) ?hr ?_; (case hd => rfl); (case hg => rfl); (case hr => first | (go_simp; done) | (go_simp; rfl)); intro gb523 hg w6 hbox hb; have n0_ := Aside0.mk (below_step (hB_ HB) hb); have n1_ := Aside0.mk (hbox); have n2_ := gG_ (w := w) hg HB; have n3_ := gG_ (w := w) hg HB; clear HB; have HB := n0_; have BK523 := n1_; have GW523 := n2_; have GE523 := n3_; clear n0_ n1_ n2_ n3_; clear hb hbox hg) | ((with_reducible refine gate_dst (N := 6) rfl ?_); refine box_event ?hg (N := 6) ?hd (cs := #[.int .i64 a2_0, .int .u32 a2_1, .slice A2_2 l2_2.length c2_2]) (t := 30) ?hr ?_; (case hd => rfl); (case hg => rfl); (case hr => first | (go_simp; done) | (go_simp; rfl)); intro gb524 hg w7 hbox hb; have n0_ := bB_ BK523 hb; have n1_ := Aside0.mk (below_step (hB_ HB) hb); have n2_ := Aside0.mk (hbox); have n3_ := gG_ (w := w) hg HB; have n4_ := gG_ (w := w) hg HB; have n5_ := nL_ hg BK523; have n6_ := nG_ hg BK523; clear BK523; clear HB; have BK523 := n0_; have HB := n1_; have BK524 := n2_; have GW524 := n3_; have GE524 := n4_; have NB523_524 := n5_; have NB524_523 := n6_; clear n0_ n1_ n2_ n3_ n4_ n5_ n6_; clear hb hbox hg) | ((with_reducible refine gate_dst (N := 7) rfl ?_); refine box_event ?hg (N := 7) ?hd (cs := #[.int .i64 a3_0, .int .u32 a3_1, .bool a3_2, .slice A3_3 l3_3.length c3_3, .slice A3_4 l3_4.length c3_4]) (t := 34) ?hr ?_; (case hd => rfl); (case hg => rfl); (case hr => first | (go_simp; done) | (go_simp; rfl)); intro gb525 hg w8 hbox hb; have n0_ := bB_ BK523 hb; have n1_ := bB_ BK524 hb; have n2_ := Aside0.mk (below_step (hB_ HB) hb); have n3_ := Aside0.mk (hbox); have n4_ := gG_ (w := w) hg HB; have n5_ := gG_ (w := w) hg HB; have n6_ := nL_ hg BK523; have n7_ := nG_ hg BK523; have n8_ := nL_ hg BK524; have n9_ := nG_ hg BK524; clear BK523; clear BK524; clear HB; have BK523 := n0_; have BK524 := n1_; have HB := n2_; have BK525 := n3_; have GW525 := n4_; have GE525 := n5_; have NB523_525 := n6_; have NB525_523 := n7_; have NB524_525 := n8_; have NB525_524 := n9_; clear n0_ n1_ n2_ n3_ n4_ n5_ n6_ n7_ n8_ n9_; clear hb hbox hg))
 (try simp only [Act.put, List.setIfInBounds_toArray, List.set_cons_zero, List.set_cons_succ])
 go_cut [28] (fun v28 wc => ∃ (kq : Nat) (x28_4 : Bool), v28 = .bool x28_4 ∧ Aside0 (lodgerlaw11_SpecKeeps.j0 kq l1 x28_4 a0_0 a0_1 l0_2 a0_3 a0_4 a0_5 a0_6 a2_0 a2_1 l2_2 a3_0 a3_1 a3_2 l3_3 l3_4 = some r) ∧ Aside0 (kq ≤ k) ∧ Aside0 (wc.heap[gb523]? = some (.cells #[.int .u32 a0_0, .int .i64 a0_1, (.slice A0_2 l0_2.length c0_2), .int .i64 a0_3, .int .i64 a0_4, .int .i64 a0_5, .int .i64 a0_6] 27 (0, 0))) ∧ Aside0 (wc.heap[gb524]? = some (.cells #[.int .i64 a2_0, .int .u32 a2_1, (.slice A2_2 l2_2.length c2_2)] 30 (0, 0))) ∧ Aside0 (wc.heap[gb525]? = some (.cells #[.int .i64 a3_0, .int .u32 a3_1, .bool a3_2, (.slice A3_3 l3_3.length c3_3), (.slice A3_4 l3_4.length c3_4)] 34 (0, 0))) ∧ Aside0 (Below w.heap.size w wc))
 case first =>
  have H := HC5.out
  clear HC5
  replace H := Option.bind_eq_some_iff.mp H
  obtain ⟨t526, A90, H⟩ := H
  replace H : (if t526 = true then ((lodgerref11_Fits.f k a0_0 a0_1 l0_2 a0_3 a0_4 a0_5 a0_6 l1).bind fun t527 => (if t527 = true then ((lodgerref10_Few.f a2_0 a2_1 l2_2).bind fun t528 => (if t528 = true then ((lodgerref11_Few.f a3_0 a3_1 a3_2 l3_3 l3_4).bind fun t529 => (lodgerlaw11_SpecKeeps.j0 k l1 (!t529) a0_0 a0_1 l0_2 a0_3 a0_4 a0_5 a0_6 a2_0 a2_1 l2_2 a3_0 a3_1 a3_2 l3_3 l3_4)) else (lodgerlaw11_SpecKeeps.j0 k l1 true a0_0 a0_1 l0_2 a0_3 a0_4 a0_5 a0_6 a2_0 a2_1 l2_2 a3_0 a3_1 a3_2 l3_3 l3_4))) else (lodgerlaw11_SpecKeeps.j0 k l1 true a0_0 a0_1 l0_2 a0_3 a0_4 a0_5 a0_6 a2_0 a2_1 l2_2 a3_0 a3_1 a3_2 l3_3 l3_4))) else (lodgerlaw11_SpecKeeps.j0 k l1 true a0_0 a0_1 l0_2 a0_3 a0_4 a0_5 a0_6 a2_0 a2_1 l2_2 a3_0 a3_1 a3_2 l3_3 l3_4)) = some r := H
  have A9 := Aside0.mk A90
  clear A90
  by_cases c10 : t526 = true
  ·subst c10
   have H1 : ((lodgerref11_Fits.f k a0_0 a0_1 l0_2 a0_3 a0_4 a0_5 a0_6 l1).bind fun t527 => (if t527 = true then ((lodgerref10_Few.f a2_0 a2_1 l2_2).bind fun t528 => (if t528 = true then ((lodgerref11_Few.f a3_0 a3_1 a3_2 l3_3 l3_4).bind fun t529 => (lodgerlaw11_SpecKeeps.j0 k l1 (!t529) a0_0 a0_1 l0_2 a0_3 a0_4 a0_5 a0_6 a2_0 a2_1 l2_2 a3_0 a3_1 a3_2 l3_3 l3_4)) else (lodgerlaw11_SpecKeeps.j0 k l1 true a0_0 a0_1 l0_2 a0_3 a0_4 a0_5 a0_6 a2_0 a2_1 l2_2 a3_0 a3_1 a3_2 l3_3 l3_4))) else (lodgerlaw11_SpecKeeps.j0 k l1 true a0_0 a0_1 l0_2 a0_3 a0_4 a0_5 a0_6 a2_0 a2_1 l2_2 a3_0 a3_1 a3_2 l3_3 l3_4))) = some r := by rw [if_pos rfl] at H; exact H
   clear H
   have H := H1
   clear H1
   replace H := Option.bind_eq_some_iff.mp H
   obtain ⟨t527, A110, H⟩ := H
   replace H : (if t527 = true then ((lodgerref10_Few.f a2_0 a2_1 l2_2).bind fun t528 => (if t528 = true then ((lodgerref11_Few.f a3_0 a3_1 a3_2 l3_3 l3_4).bind fun t529 => (lodgerlaw11_SpecKeeps.j0 k l1 (!t529) a0_0 a0_1 l0_2 a0_3 a0_4 a0_5 a0_6 a2_0 a2_1 l2_2 a3_0 a3_1 a3_2 l3_3 l3_4)) else (lodgerlaw11_SpecKeeps.j0 k l1 true a0_0 a0_1 l0_2 a0_3 a0_4 a0_5 a0_6 a2_0 a2_1 l2_2 a3_0 a3_1 a3_2 l3_3 l3_4))) else (lodgerlaw11_SpecKeeps.j0 k l1 true a0_0 a0_1 l0_2 a0_3 a0_4 a0_5 a0_6 a2_0 a2_1 l2_2 a3_0 a3_1 a3_2 l3_3 l3_4)) = some r := H
   have A11 := Aside0.mk A110
   clear A110
   by_cases c12 : t527 = true
   ·subst c12
    have H1 : ((lodgerref10_Few.f a2_0 a2_1 l2_2).bind fun t528 => (if t528 = true then ((lodgerref11_Few.f a3_0 a3_1 a3_2 l3_3 l3_4).bind fun t529 => (lodgerlaw11_SpecKeeps.j0 k l1 (!t529) a0_0 a0_1 l0_2 a0_3 a0_4 a0_5 a0_6 a2_0 a2_1 l2_2 a3_0 a3_1 a3_2 l3_3 l3_4)) else (lodgerlaw11_SpecKeeps.j0 k l1 true a0_0 a0_1 l0_2 a0_3 a0_4 a0_5 a0_6 a2_0 a2_1 l2_2 a3_0 a3_1 a3_2 l3_3 l3_4))) = some r := by rw [if_pos rfl] at H; exact H
    clear H
    have H := H1
    clear H1
    replace H := Option.bind_eq_some_iff.mp H
    obtain ⟨t528, A130, H⟩ := H
    replace H : (if t528 = true then ((lodgerref11_Few.f a3_0 a3_1 a3_2 l3_3 l3_4).bind fun t529 => (lodgerlaw11_SpecKeeps.j0 k l1 (!t529) a0_0 a0_1 l0_2 a0_3 a0_4 a0_5 a0_6 a2_0 a2_1 l2_2 a3_0 a3_1 a3_2 l3_3 l3_4)) else (lodgerlaw11_SpecKeeps.j0 k l1 true a0_0 a0_1 l0_2 a0_3 a0_4 a0_5 a0_6 a2_0 a2_1 l2_2 a3_0 a3_1 a3_2 l3_3 l3_4)) = some r := H
    have A13 := Aside0.mk A130
    clear A130
    by_cases c14 : t528 = true
    ·subst c14
     have H1 : ((lodgerref11_Few.f a3_0 a3_1 a3_2 l3_3 l3_4).bind fun t529 => (lodgerlaw11_SpecKeeps.j0 k l1 (!t529) a0_0 a0_1 l0_2 a0_3 a0_4 a0_5 a0_6 a2_0 a2_1 l2_2 a3_0 a3_1 a3_2 l3_3 l3_4)) = some r := by rw [if_pos rfl] at H; exact H
     clear H
     have H := H1
     clear H1
     replace H := Option.bind_eq_some_iff.mp H
     obtain ⟨t529, A150, H⟩ := H
     replace H : (lodgerlaw11_SpecKeeps.j0 k l1 (!t529) a0_0 a0_1 l0_2 a0_3 a0_4 a0_5 a0_6 a2_0 a2_1 l2_2 a3_0 a3_1 a3_2 l3_3 l3_4) = some r := H
     have A15 := Aside0.mk A150
     clear A150
     have H' := Aside0.mk H
     clear H
     go_wp2_with (first | ((with_reducible refine gate_callee (f := 9) rfl ?_); refine goesL_ (some 11) rfl rfl Tryd.func9 (by kernel_rfl) rfl #[] rfl am_ ?_; (with_reducible refine (lodgerlaw11_awake.calls k  true _ ?side1 A9.out).mono ?_); (case side1 => exact Lg_below HG.out (hB_ HB)); rintro e w16 ⟨rfl, hb⟩; refine ⟨_, rfl, ?_⟩; have n0_ := bB_ BK523 hb; have n1_ := bB_ BK524 hb; have n2_ := bB_ BK525 hb; have n3_ := Aside0.mk (below_step (hB_ HB) hb); clear BK523; clear BK524; clear BK525; clear HB; have BK523 := n0_; have BK524 := n1_; have BK525 := n2_; have HB := n3_; clear n0_ n1_ n2_ n3_; (try clear hb); (try clear hb2); (try clear hk); (try clear hi); have hnb17 := NB523_524.out; have hnc17 := NB524_523.out; have hnb18 := NB523_525.out; have hnc18 := NB525_523.out; obtain ⟨hcz19_0, hcz19_1, hcz19_2, hcz19_3, hcz19_4, hcz19_5, hcz19_6, hfz19_0, hfz19_1, hfz19_2, hfz19_3, hfz19_4, hfz19_5, hfz19_6⟩ := cz7_ (w := w16) BK523) | (go_at_call 10; (with_reducible refine (lodgerref11_Fits.calls k a0_0 a0_1 _ _ l0_2 a0_3 a0_4 a0_5 a0_6 _ _ l1 true _ ?side1 ?side2 ?side3 ?side4 A11.out).mono ?_); (case side1 => exact cC_ HR0_2 HB); (case side2 => exact HC0_2.out); (case side3 => exact cC_ HR1 HB); (case side4 => exact HC1.out); rintro e w20 ⟨rfl, hb⟩; have n0_ := bB_ BK523 hb; have n1_ := bB_ BK524 hb; have n2_ := bB_ BK525 hb; have n3_ := Aside0.mk (below_step (hB_ HB) hb); clear BK523; clear BK524; clear BK525; clear HB; have BK523 := n0_; have BK524 := n1_; have BK525 := n2_; have HB := n3_; clear n0_ n1_ n2_ n3_; (try clear hb); (try clear hb2); (try clear hk); (try clear hi); have hnb21 := NB524_525.out; have hnc21 := NB525_524.out; obtain ⟨hcz22_0, hcz22_1, hcz22_2, hfz22_0, hfz22_1, hfz22_2⟩ := cz3_ (w := w20) BK524) | (go_at_call 11; (with_reducible refine (lodgerref10_Few.calls a2_0 a2_1 _ _ l2_2 true _ ?side1 ?side2 A13.out).mono ?_); (case side1 => exact cC_ HR2_2 HB); (case side2 => exact HC2_2.out); rintro e w23 ⟨rfl, hb⟩; have n0_ := bB_ BK523 hb; have n1_ := bB_ BK524 hb; have n2_ := bB_ BK525 hb; have n3_ := Aside0.mk (below_step (hB_ HB) hb); clear BK523; clear BK524; clear BK525; clear HB; have BK523 := n0_; have BK524 := n1_; have BK525 := n2_; have HB := n3_; clear n0_ n1_ n2_ n3_; (try clear hb); (try clear hb2); (try clear hk); (try clear hi); obtain ⟨hcz24_0, hcz24_1, hcz24_2, hcz24_3, hcz24_4, hfz24_0, hfz24_1, hfz24_2, hfz24_3, hfz24_4⟩ := cz5_ (w := w23) BK525) | (go_at_call 12; (with_reducible refine (lodgerref11_Few.calls a3_0 a3_1 a3_2 _ _ l3_3 _ _ l3_4 t529 _ ?side1 ?side2 ?side3 ?side4 A15.out).mono ?_); (case side1 => exact cC_ HR3_3 HB); (case side2 => exact HC3_3.out); (case side3 => exact cC_ HR3_4 HB); (case side4 => exact HC3_4.out); rintro e w25 ⟨rfl, hb⟩; have n0_ := bB_ BK523 hb; have n1_ := bB_ BK524 hb; have n2_ := bB_ BK525 hb; have n3_ := Aside0.mk (below_step (hB_ HB) hb); clear BK523; clear BK524; clear BK525; clear HB; have BK523 := n0_; have BK524 := n1_; have BK525 := n2_; have HB := n3_; clear n0_ n1_ n2_ n3_; (try clear hb); (try clear hb2); (try clear hk); (try clear hi)))
     go_meet
     case rel => exact ⟨_, (!t529), rs_, H', ⟨by first | omega | exact Nat.le_refl _⟩, ⟨by (with_reducible repeat (first | refine blk_drewN ?_ _ | refine blk_drew ?_ | refine blk_alloc ?_ _)); exact BK523.out⟩, ⟨by (with_reducible repeat (first | refine blk_drewN ?_ _ | refine blk_drew ?_ | refine blk_alloc ?_ _)); exact BK524.out⟩, ⟨by (with_reducible repeat (first | refine blk_drewN ?_ _ | refine blk_drew ?_ | refine blk_alloc ?_ _)); exact BK525.out⟩, ⟨by repeat (first | (with_reducible first | exact HB.out | apply below_alloc | apply pw_below_drewN | apply below_drew1 | refine below_set ?_ GE523.out | refine below_set ?_ GE524.out | refine below_set ?_ GE525.out) | exact HB.out)⟩⟩
    ·replace c14 := Bool.eq_false_iff.mpr c14
     subst c14
     have H1 : (lodgerlaw11_SpecKeeps.j0 k l1 true a0_0 a0_1 l0_2 a0_3 a0_4 a0_5 a0_6 a2_0 a2_1 l2_2 a3_0 a3_1 a3_2 l3_3 l3_4) = some r := by rw [if_neg (show ¬ (false = true) by decide)] at H; exact H
     clear H
     have H := H1
     clear H1
     have H' := Aside0.mk H
     clear H
     go_wp2_with (first | ((with_reducible refine gate_callee (f := 9) rfl ?_); refine goesL_ (some 11) rfl rfl Tryd.func9 (by kernel_rfl) rfl #[] rfl am_ ?_; (with_reducible refine (lodgerlaw11_awake.calls k  true _ ?side1 A9.out).mono ?_); (case side1 => exact Lg_below HG.out (hB_ HB)); rintro e w26 ⟨rfl, hb⟩; refine ⟨_, rfl, ?_⟩; have n0_ := bB_ BK523 hb; have n1_ := bB_ BK524 hb; have n2_ := bB_ BK525 hb; have n3_ := Aside0.mk (below_step (hB_ HB) hb); clear BK523; clear BK524; clear BK525; clear HB; have BK523 := n0_; have BK524 := n1_; have BK525 := n2_; have HB := n3_; clear n0_ n1_ n2_ n3_; (try clear hb); (try clear hb2); (try clear hk); (try clear hi); have hnb27 := NB523_524.out; have hnc27 := NB524_523.out; have hnb28 := NB523_525.out; have hnc28 := NB525_523.out; obtain ⟨hcz29_0, hcz29_1, hcz29_2, hcz29_3, hcz29_4, hcz29_5, hcz29_6, hfz29_0, hfz29_1, hfz29_2, hfz29_3, hfz29_4, hfz29_5, hfz29_6⟩ := cz7_ (w := w26) BK523) | (go_at_call 10; (with_reducible refine (lodgerref11_Fits.calls k a0_0 a0_1 _ _ l0_2 a0_3 a0_4 a0_5 a0_6 _ _ l1 true _ ?side1 ?side2 ?side3 ?side4 A11.out).mono ?_); (case side1 => exact cC_ HR0_2 HB); (case side2 => exact HC0_2.out); (case side3 => exact cC_ HR1 HB); (case side4 => exact HC1.out); rintro e w30 ⟨rfl, hb⟩; have n0_ := bB_ BK523 hb; have n1_ := bB_ BK524 hb; have n2_ := bB_ BK525 hb; have n3_ := Aside0.mk (below_step (hB_ HB) hb); clear BK523; clear BK524; clear BK525; clear HB; have BK523 := n0_; have BK524 := n1_; have BK525 := n2_; have HB := n3_; clear n0_ n1_ n2_ n3_; (try clear hb); (try clear hb2); (try clear hk); (try clear hi); have hnb31 := NB524_525.out; have hnc31 := NB525_524.out; obtain ⟨hcz32_0, hcz32_1, hcz32_2, hfz32_0, hfz32_1, hfz32_2⟩ := cz3_ (w := w30) BK524) | (go_at_call 11; (with_reducible refine (lodgerref10_Few.calls a2_0 a2_1 _ _ l2_2 false _ ?side1 ?side2 A13.out).mono ?_); (case side1 => exact cC_ HR2_2 HB); (case side2 => exact HC2_2.out); rintro e w33 ⟨rfl, hb⟩; have n0_ := bB_ BK523 hb; have n1_ := bB_ BK524 hb; have n2_ := bB_ BK525 hb; have n3_ := Aside0.mk (below_step (hB_ HB) hb); clear BK523; clear BK524; clear BK525; clear HB; have BK523 := n0_; have BK524 := n1_; have BK525 := n2_; have HB := n3_; clear n0_ n1_ n2_ n3_; (try clear hb); (try clear hb2); (try clear hk); (try clear hi)))
     go_meet
     case rel => exact ⟨_, (true), rs_, H', ⟨by first | omega | exact Nat.le_refl _⟩, ⟨by (with_reducible repeat (first | refine blk_drewN ?_ _ | refine blk_drew ?_ | refine blk_alloc ?_ _)); exact BK523.out⟩, ⟨by (with_reducible repeat (first | refine blk_drewN ?_ _ | refine blk_drew ?_ | refine blk_alloc ?_ _)); exact BK524.out⟩, ⟨by (with_reducible repeat (first | refine blk_drewN ?_ _ | refine blk_drew ?_ | refine blk_alloc ?_ _)); exact BK525.out⟩, ⟨by repeat (first | (with_reducible first | exact HB.out | apply below_alloc | apply pw_below_drewN | apply below_drew1 | refine below_set ?_ GE523.out | refine below_set ?_ GE524.out | refine below_set ?_ GE525.out) | exact HB.out)⟩⟩
   ·replace c12 := Bool.eq_false_iff.mpr c12
    subst c12
    have H1 : (lodgerlaw11_SpecKeeps.j0 k l1 true a0_0 a0_1 l0_2 a0_3 a0_4 a0_5 a0_6 a2_0 a2_1 l2_2 a3_0 a3_1 a3_2 l3_3 l3_4) = some r := by rw [if_neg (show ¬ (false = true) by decide)] at H; exact H
    clear H
    have H := H1
    clear H1
    have H' := Aside0.mk H
    clear H
    go_wp2_with (first | ((with_reducible refine gate_callee (f := 9) rfl ?_); refine goesL_ (some 11) rfl rfl Tryd.func9 (by kernel_rfl) rfl #[] rfl am_ ?_; (with_reducible refine (lodgerlaw11_awake.calls k  true _ ?side1 A9.out).mono ?_); (case side1 => exact Lg_below HG.out (hB_ HB)); rintro e w34 ⟨rfl, hb⟩; refine ⟨_, rfl, ?_⟩; have n0_ := bB_ BK523 hb; have n1_ := bB_ BK524 hb; have n2_ := bB_ BK525 hb; have n3_ := Aside0.mk (below_step (hB_ HB) hb); clear BK523; clear BK524; clear BK525; clear HB; have BK523 := n0_; have BK524 := n1_; have BK525 := n2_; have HB := n3_; clear n0_ n1_ n2_ n3_; (try clear hb); (try clear hb2); (try clear hk); (try clear hi); have hnb35 := NB523_524.out; have hnc35 := NB524_523.out; have hnb36 := NB523_525.out; have hnc36 := NB525_523.out; obtain ⟨hcz37_0, hcz37_1, hcz37_2, hcz37_3, hcz37_4, hcz37_5, hcz37_6, hfz37_0, hfz37_1, hfz37_2, hfz37_3, hfz37_4, hfz37_5, hfz37_6⟩ := cz7_ (w := w34) BK523) | (go_at_call 10; (with_reducible refine (lodgerref11_Fits.calls k a0_0 a0_1 _ _ l0_2 a0_3 a0_4 a0_5 a0_6 _ _ l1 false _ ?side1 ?side2 ?side3 ?side4 A11.out).mono ?_); (case side1 => exact cC_ HR0_2 HB); (case side2 => exact HC0_2.out); (case side3 => exact cC_ HR1 HB); (case side4 => exact HC1.out); rintro e w38 ⟨rfl, hb⟩; have n0_ := bB_ BK523 hb; have n1_ := bB_ BK524 hb; have n2_ := bB_ BK525 hb; have n3_ := Aside0.mk (below_step (hB_ HB) hb); clear BK523; clear BK524; clear BK525; clear HB; have BK523 := n0_; have BK524 := n1_; have BK525 := n2_; have HB := n3_; clear n0_ n1_ n2_ n3_; (try clear hb); (try clear hb2); (try clear hk); (try clear hi)))
    go_meet
    case rel => exact ⟨_, (true), rs_, H', ⟨by first | omega | exact Nat.le_refl _⟩, ⟨by (with_reducible repeat (first | refine blk_drewN ?_ _ | refine blk_drew ?_ | refine blk_alloc ?_ _)); exact BK523.out⟩, ⟨by (with_reducible repeat (first | refine blk_drewN ?_ _ | refine blk_drew ?_ | refine blk_alloc ?_ _)); exact BK524.out⟩, ⟨by (with_reducible repeat (first | refine blk_drewN ?_ _ | refine blk_drew ?_ | refine blk_alloc ?_ _)); exact BK525.out⟩, ⟨by repeat (first | (with_reducible first | exact HB.out | apply below_alloc | apply pw_below_drewN | apply below_drew1 | refine below_set ?_ GE523.out | refine below_set ?_ GE524.out | refine below_set ?_ GE525.out) | exact HB.out)⟩⟩
  ·replace c10 := Bool.eq_false_iff.mpr c10
   subst c10
   have H1 : (lodgerlaw11_SpecKeeps.j0 k l1 true a0_0 a0_1 l0_2 a0_3 a0_4 a0_5 a0_6 a2_0 a2_1 l2_2 a3_0 a3_1 a3_2 l3_3 l3_4) = some r := by rw [if_neg (show ¬ (false = true) by decide)] at H; exact H
   clear H
   have H := H1
   clear H1
   have H' := Aside0.mk H
   clear H
   go_wp2_with (first | ((with_reducible refine gate_callee (f := 9) rfl ?_); refine goesL_ (some 11) rfl rfl Tryd.func9 (by kernel_rfl) rfl #[] rfl am_ ?_; (with_reducible refine (lodgerlaw11_awake.calls k  false _ ?side1 A9.out).mono ?_); (case side1 => exact Lg_below HG.out (hB_ HB)); rintro e w39 ⟨rfl, hb⟩; refine ⟨_, rfl, ?_⟩; have n0_ := bB_ BK523 hb; have n1_ := bB_ BK524 hb; have n2_ := bB_ BK525 hb; have n3_ := Aside0.mk (below_step (hB_ HB) hb); clear BK523; clear BK524; clear BK525; clear HB; have BK523 := n0_; have BK524 := n1_; have BK525 := n2_; have HB := n3_; clear n0_ n1_ n2_ n3_; (try clear hb); (try clear hb2); (try clear hk); (try clear hi)))
   go_meet
   case rel => exact ⟨_, (true), rs_, H', ⟨by first | omega | exact Nat.le_refl _⟩, ⟨by (with_reducible repeat (first | refine blk_drewN ?_ _ | refine blk_drew ?_ | refine blk_alloc ?_ _)); exact BK523.out⟩, ⟨by (with_reducible repeat (first | refine blk_drewN ?_ _ | refine blk_drew ?_ | refine blk_alloc ?_ _)); exact BK524.out⟩, ⟨by (with_reducible repeat (first | refine blk_drewN ?_ _ | refine blk_drew ?_ | refine blk_alloc ?_ _)); exact BK525.out⟩, ⟨by repeat (first | (with_reducible first | exact HB.out | apply below_alloc | apply pw_below_drewN | apply below_drew1 | refine below_set ?_ GE523.out | refine below_set ?_ GE524.out | refine below_set ?_ GE525.out) | exact HB.out)⟩⟩
 case rest =>
  clear HC5
  try clear c1
  try clear c2
  try clear p2
  try clear c3
  try clear c6
  try clear c9
  try clear c10
  try clear c12
  try clear c14
  try clear c17
  try clear c18
  try clear c21
  try clear c27
  try clear c28
  try clear c31
  try clear c35
  try clear c36
  try clear hcz19_0 hcz19_1 hcz19_2 hcz19_3 hcz19_4 hcz19_5 hcz19_6
  try clear hcz22_0 hcz22_1 hcz22_2
  try clear hcz24_0 hcz24_1 hcz24_2 hcz24_3 hcz24_4
  try clear hcz29_0 hcz29_1 hcz29_2 hcz29_3 hcz29_4 hcz29_5 hcz29_6
  try clear hcz32_0 hcz32_1 hcz32_2
  try clear hcz37_0 hcz37_1 hcz37_2 hcz37_3 hcz37_4 hcz37_5 hcz37_6
  try clear hfz19_0 hfz19_1 hfz19_2 hfz19_3 hfz19_4 hfz19_5 hfz19_6
  try clear hfz22_0 hfz22_1 hfz22_2
  try clear hfz24_0 hfz24_1 hfz24_2 hfz24_3 hfz24_4
  try clear hfz29_0 hfz29_1 hfz29_2 hfz29_3 hfz29_4 hfz29_5 hfz29_6
  try clear hfz32_0 hfz32_1 hfz32_2
  try clear hfz37_0 hfz37_1 hfz37_2 hfz37_3 hfz37_4 hfz37_5 hfz37_6
  obtain ⟨kq, x28_4, rfl, HA, HJ4, BK523, BK524, BK525, HB⟩ := hcut
  cases kq with
  | zero => exact absurd HA.out (by simp [lodgerlaw11_SpecKeeps.j0])
  | succ kj4 =>
   have H := HA.out
   clear HA
   simp only [lodgerlaw11_SpecKeeps.j0] at H
   by_cases c40 : x28_4 = true
   ·subst c40
    have H1 : ((lodgerlaw11_awake.f kj4).bind fun t530 => (some t530)) = some r := by rw [if_pos rfl] at H; exact H
    clear H
    have H := H1
    clear H1
    replace H := Option.bind_eq_some_iff.mp H
    obtain ⟨t530, A410, H⟩ := H
    replace H : (some t530) = some r := H
    have A41 := Aside0.mk A410
    clear A410
    first | (exfalso; rw [hr_.out] at H; exact absurd (Option.some.inj H) (by decide)) | (try clear hr_)
    all_goals
     obtain rfl := Option.some.inj H
     go_wp2_with (first | ((with_reducible refine gate_callee (f := 9) rfl ?_); refine goesL_ (some 29) rfl rfl Tryd.func9 (by kernel_rfl) rfl #[] rfl am_ ?_; (with_reducible refine (lodgerlaw11_awake.calls kj4  t530 _ ?side1 A41.out).mono ?_); (case side1 => exact Lg_below HG.out (hB_ HB)); rintro e w42 ⟨rfl, hb⟩; refine ⟨_, rfl, ?_⟩; have n0_ := bB_ BK523 hb; have n1_ := bB_ BK524 hb; have n2_ := bB_ BK525 hb; have n3_ := Aside0.mk (below_step (hB_ HB) hb); clear BK523; clear BK524; clear BK525; clear HB; have BK523 := n0_; have BK524 := n1_; have BK525 := n2_; have HB := n3_; clear n0_ n1_ n2_ n3_; (try clear hb); (try clear hb2); (try clear hk); (try clear hi)))
     go_ret
     exact ⟨er_, by repeat (first | (with_reducible first | exact HB.out | apply below_alloc | apply pw_below_drewN | apply below_drew1 | refine below_set ?_ GE523.out | refine below_set ?_ GE524.out | refine below_set ?_ GE525.out) | exact HB.out)⟩
   ·replace c40 := Bool.eq_false_iff.mpr c40
    subst c40
    have H1 : ((some (([] : List Int) : List Int)).bind fun y531 => (if y531.length + l1.length < 17592186044416 then ((some (y531 ++ l1 : List Int)).bind fun y534 => ((some (([] : List Int) : List Int)).bind fun y538 => (if y538.length + l2_2.length < 35184372088832 then ((some (y538 ++ l2_2 : List Int)).bind fun y541 => ((spec_Legal.f kj4 a0_0 a0_1 l0_2 a0_3 a0_4 a0_5 a0_6 y534 a2_0 a2_1 y541 a3_0 a3_1 a3_2 l3_3 l3_4).bind fun bt544 => ((spec_Some.f kj4 a0_0 a0_1 l0_2 a0_3 a0_4 a0_5 a0_6 y534 a2_0 a2_1 y541).bind fun bt548 => ((lodgerref03_Ints.f kj4 y534 l1).bind fun t560 => (if t560 = true then ((lodgerref08_Asks.f kj4 a2_0 a2_1 y541 a2_0 a2_1 l2_2).bind fun t561 => (some t561)) else (some false)))))) else (none)))) else (none))) = some r := by rw [if_neg (show ¬ (false = true) by decide)] at H; exact H
    clear H
    have H := H1
    clear H1
    obtain ⟨y531, hy531⟩ : ∃ y_ : List Int, y_ = (([] : List Int)) := ⟨_, rfl⟩
    replace H : (if y531.length + l1.length < 17592186044416 then ((some (y531 ++ l1 : List Int)).bind fun y534 => ((some (([] : List Int) : List Int)).bind fun y538 => (if y538.length + l2_2.length < 35184372088832 then ((some (y538 ++ l2_2 : List Int)).bind fun y541 => ((spec_Legal.f kj4 a0_0 a0_1 l0_2 a0_3 a0_4 a0_5 a0_6 y534 a2_0 a2_1 y541 a3_0 a3_1 a3_2 l3_3 l3_4).bind fun bt544 => ((spec_Some.f kj4 a0_0 a0_1 l0_2 a0_3 a0_4 a0_5 a0_6 y534 a2_0 a2_1 y541).bind fun bt548 => ((lodgerref03_Ints.f kj4 y534 l1).bind fun t560 => (if t560 = true then ((lodgerref08_Asks.f kj4 a2_0 a2_1 y541 a2_0 a2_1 l2_2).bind fun t561 => (some t561)) else (some false)))))) else (none)))) else (none)) = some r := by first | (rw [hy531]; with_reducible exact H) | (have H2_ := (Option.bind_some _ _).symm.trans H; rw [hy531]; with_reducible exact H2_) | (have H2_ := (Option.bind_some _ _).symm.trans H; with_reducible exact H2_) | with_reducible exact H | (rw [hy531]; exact H) | exact H
    have Ny531 := Aside0.mk hy531
    clear hy531
    by_cases c43 : y531.length + l1.length < 17592186044416
    ·rw [if_pos c43] at H
     have LMc43 := Aside0.mk c43
     clear c43
     obtain ⟨y534, hy534⟩ : ∃ y_ : List Int, y_ = (y531 ++ l1) := ⟨_, rfl⟩
     replace H : ((some (([] : List Int) : List Int)).bind fun y538 => (if y538.length + l2_2.length < 35184372088832 then ((some (y538 ++ l2_2 : List Int)).bind fun y541 => ((spec_Legal.f kj4 a0_0 a0_1 l0_2 a0_3 a0_4 a0_5 a0_6 y534 a2_0 a2_1 y541 a3_0 a3_1 a3_2 l3_3 l3_4).bind fun bt544 => ((spec_Some.f kj4 a0_0 a0_1 l0_2 a0_3 a0_4 a0_5 a0_6 y534 a2_0 a2_1 y541).bind fun bt548 => ((lodgerref03_Ints.f kj4 y534 l1).bind fun t560 => (if t560 = true then ((lodgerref08_Asks.f kj4 a2_0 a2_1 y541 a2_0 a2_1 l2_2).bind fun t561 => (some t561)) else (some false)))))) else (none))) = some r := by first | (rw [hy534]; with_reducible exact H) | (have H2_ := (Option.bind_some _ _).symm.trans H; rw [hy534]; with_reducible exact H2_) | (have H2_ := (Option.bind_some _ _).symm.trans H; with_reducible exact H2_) | with_reducible exact H | (rw [hy534]; exact H) | exact H
     have Ny534 := Aside0.mk hy534
     clear hy534
     obtain ⟨y538, hy538⟩ : ∃ y_ : List Int, y_ = (([] : List Int)) := ⟨_, rfl⟩
     replace H : (if y538.length + l2_2.length < 35184372088832 then ((some (y538 ++ l2_2 : List Int)).bind fun y541 => ((spec_Legal.f kj4 a0_0 a0_1 l0_2 a0_3 a0_4 a0_5 a0_6 y534 a2_0 a2_1 y541 a3_0 a3_1 a3_2 l3_3 l3_4).bind fun bt544 => ((spec_Some.f kj4 a0_0 a0_1 l0_2 a0_3 a0_4 a0_5 a0_6 y534 a2_0 a2_1 y541).bind fun bt548 => ((lodgerref03_Ints.f kj4 y534 l1).bind fun t560 => (if t560 = true then ((lodgerref08_Asks.f kj4 a2_0 a2_1 y541 a2_0 a2_1 l2_2).bind fun t561 => (some t561)) else (some false)))))) else (none)) = some r := by first | (rw [hy538]; with_reducible exact H) | (have H2_ := (Option.bind_some _ _).symm.trans H; rw [hy538]; with_reducible exact H2_) | (have H2_ := (Option.bind_some _ _).symm.trans H; with_reducible exact H2_) | with_reducible exact H | (rw [hy538]; exact H) | exact H
     have Ny538 := Aside0.mk hy538
     clear hy538
     by_cases c44 : y538.length + l2_2.length < 35184372088832
     ·rw [if_pos c44] at H
      have LMc44 := Aside0.mk c44
      clear c44
      obtain ⟨y541, hy541⟩ : ∃ y_ : List Int, y_ = (y538 ++ l2_2) := ⟨_, rfl⟩
      replace H : ((spec_Legal.f kj4 a0_0 a0_1 l0_2 a0_3 a0_4 a0_5 a0_6 y534 a2_0 a2_1 y541 a3_0 a3_1 a3_2 l3_3 l3_4).bind fun bt544 => ((spec_Some.f kj4 a0_0 a0_1 l0_2 a0_3 a0_4 a0_5 a0_6 y534 a2_0 a2_1 y541).bind fun bt548 => ((lodgerref03_Ints.f kj4 y534 l1).bind fun t560 => (if t560 = true then ((lodgerref08_Asks.f kj4 a2_0 a2_1 y541 a2_0 a2_1 l2_2).bind fun t561 => (some t561)) else (some false))))) = some r := by first | (rw [hy541]; with_reducible exact H) | (have H2_ := (Option.bind_some _ _).symm.trans H; rw [hy541]; with_reducible exact H2_) | (have H2_ := (Option.bind_some _ _).symm.trans H; with_reducible exact H2_) | with_reducible exact H | (rw [hy541]; exact H) | exact H
      have Ny541 := Aside0.mk hy541
      clear hy541
      replace H := Option.bind_eq_some_iff.mp H
      obtain ⟨⟨t544, t547⟩, A450, H⟩ := H
      replace H : ((spec_Some.f kj4 a0_0 a0_1 l0_2 a0_3 a0_4 a0_5 a0_6 y534 a2_0 a2_1 y541).bind fun bt548 => ((lodgerref03_Ints.f kj4 y534 l1).bind fun t560 => (if t560 = true then ((lodgerref08_Asks.f kj4 a2_0 a2_1 y541 a2_0 a2_1 l2_2).bind fun t561 => (some t561)) else (some false)))) = some r := H
      have A45 := Aside0.mk A450
      clear A450
      replace H := Option.bind_eq_some_iff.mp H
      obtain ⟨⟨t548, t551, t552, t553, t554, t557⟩, A460, H⟩ := H
      replace H : ((lodgerref03_Ints.f kj4 y534 l1).bind fun t560 => (if t560 = true then ((lodgerref08_Asks.f kj4 a2_0 a2_1 y541 a2_0 a2_1 l2_2).bind fun t561 => (some t561)) else (some false))) = some r := H
      have A46 := Aside0.mk A460
      clear A460
      replace H := Option.bind_eq_some_iff.mp H
      obtain ⟨t560, A470, H⟩ := H
      replace H : (if t560 = true then ((lodgerref08_Asks.f kj4 a2_0 a2_1 y541 a2_0 a2_1 l2_2).bind fun t561 => (some t561)) else (some false)) = some r := H
      have A47 := Aside0.mk A470
      clear A470
      by_cases c48 : t560 = true
      ·subst c48
       have H1 : ((lodgerref08_Asks.f kj4 a2_0 a2_1 y541 a2_0 a2_1 l2_2).bind fun t561 => (some t561)) = some r := by rw [if_pos rfl] at H; exact H
       clear H
       have H := H1
       clear H1
       replace H := Option.bind_eq_some_iff.mp H
       obtain ⟨t561, A490, H⟩ := H
       replace H : (some t561) = some r := H
       have A49 := Aside0.mk A490
       clear A490
       first | (exfalso; rw [hr_.out] at H; exact absurd (Option.some.inj H) (by decide)) | (try clear hr_)
       all_goals
        obtain rfl := Option.some.inj H
        go_wp2_with (first | ((with_reducible refine gate_dst (N := 30) rfl ?_); refine Kd.R_lit (Kd.int .i64) _ 3 ?hg (N := 30) ?hd (xs := ([] : List Int)) (inner := []) (ok := fun _ => True) (okp := fun _ => True) ?hr ?hp (fun _ hk => hk) trivial (Below.refl _ _) (Nat.le_refl _) (by simp) ?_; (case hd => rfl); (case hg => rfl); (case hr => first | (go_simp; done) | (go_simp; rfl)); (case hp => exact (Reps.none _ _)); intro v532 w50 ho51 hb hg_ hnew_; clear hg_ hnew_; (first | rw [← Ny531.out] at ho51 | (simp only [Int.reduceToNat] at ho51; rw [← Ny531.out] at ho51)); have n0_ := Aside0.mk (Kd.R_lower ho51 (below_size (hB_ HB))); have n1_ := bB_ BK523 hb; have n2_ := bB_ BK524 hb; have n3_ := bB_ BK525 hb; have n4_ := Aside0.mk (below_step (hB_ HB) hb); clear BK523; clear BK524; clear BK525; clear HB; have HO533 := n0_; have BK523 := n1_; have BK524 := n2_; have BK525 := n3_; have HB := n4_; clear n0_ n1_ n2_ n3_ n4_; clear hb ho51) | ((with_reducible refine gate_builtin (b := .append) (xs := #[.tmp 30, .tmp 31]) rfl ?_); at_builtin; refine Kd.R_append_rows (Kd.int .i64) (w0 := w) w.heap.size rfl (.tmp 30) (.tmp 31) 25 3 (.int .i64 0) 8 rfl Tryd.underlying25 info3 rfl (by decide) (by omega) v532 y531 l1 _ _ _ (fun _ => True) (fun _ => False) rfl rfl ?aO ?aR (fun _ _ h => h) (fun _ h => h.elim) ?aF ?aB ?aS ?aL ?_; (case aR => exact cC_ HR1 HB); (case aB => exact (hB_ HB)); (case aF => exact (fun _ _ => trivial)); (case aO => exact (rR_ HO533)); (case aS => exact (below_size (hB_ HB))); (case aL => have := LMc43.out; omega); intro v535 w52 ho hb hg hat; rw [← Ny534.out] at ho; have n0_ := Aside0.mk (blk_grown (g := gb523) (o := .cells #[.int .u32 a0_0, .int .i64 a0_1, .slice A0_2 l0_2.length c0_2, .int .i64 a0_3, .int .i64 a0_4, .int .i64 a0_5, .int .i64 a0_6] 27 (0, 0)) (bk_ BK523) hg (Kd.R_ne HO533.out BK523.out (by decide))); have n1_ := Aside0.mk (blk_grown (g := gb524) (o := .cells #[.int .i64 a2_0, .int .u32 a2_1, .slice A2_2 l2_2.length c2_2] 30 (0, 0)) (bk_ BK524) hg (Kd.R_ne HO533.out BK524.out (by decide))); have n2_ := Aside0.mk (blk_grown (g := gb525) (o := .cells #[.int .i64 a3_0, .int .u32 a3_1, .bool a3_2, .slice A3_3 l3_3.length c3_3, .slice A3_4 l3_4.length c3_4] 34 (0, 0)) (bk_ BK525) hg (Kd.R_ne HO533.out BK525.out (by decide))); have n3_ := Aside0.mk (hb); have n4_ := Aside0.mk (ho); clear BK523; clear BK524; clear BK525; clear HB; clear HO533; have BK523 := n0_; have BK524 := n1_; have BK525 := n2_; have HB := n3_; have HO536 := n4_; clear n0_ n1_ n2_ n3_ n4_; clear ho hb hg hat; have hnb53 := NB524_523.out; have hnc53 := NB523_524.out; have hnb54 := NB524_525.out; have hnc54 := NB525_524.out; obtain ⟨hcz55_0, hcz55_1, hcz55_2, hfz55_0, hfz55_1, hfz55_2⟩ := cz3_ (w := w52) BK524) | ((with_reducible refine gate_dst (N := 10) rfl ?_); refine box_event ?hg (N := 10) ?hd (cs := #[.int .i64 0, .int .u32 0, .slice none 0 0]) (t := 30) ?hr ?_; (case hd => rfl); (case hg => rfl); (case hr => first | (go_simp; done) | (go_simp; rfl)); intro gb537 hg w56 hbox hb; have n0_ := Aside0.mk (Kd.R_below (rR_ HO536) hb); have n1_ := bB_ BK523 hb; have n2_ := bB_ BK524 hb; have n3_ := bB_ BK525 hb; have n4_ := Aside0.mk (below_step (hB_ HB) hb); have n5_ := Aside0.mk (hbox); have n6_ := gG_ (w := w) hg HB; have n7_ := gG_ (w := w) hg HB; have n8_ := nL_ hg BK523; have n9_ := nG_ hg BK523; have n10_ := nL_ hg BK524; have n11_ := nG_ hg BK524; have n12_ := nL_ hg BK525; have n13_ := nG_ hg BK525; clear HO536; clear BK523; clear BK524; clear BK525; clear HB; have HO536 := n0_; have BK523 := n1_; have BK524 := n2_; have BK525 := n3_; have HB := n4_; have BK537 := n5_; have GW537 := n6_; have GE537 := n7_; have NB523_537 := n8_; have NB537_523 := n9_; have NB524_537 := n10_; have NB537_524 := n11_; have NB525_537 := n12_; have NB537_525 := n13_; clear n0_ n1_ n2_ n3_ n4_ n5_ n6_ n7_ n8_ n9_ n10_ n11_ n12_ n13_; clear hb hbox hg; have hnb57 := NB537_523.out; have hnc57 := NB523_537.out; have hnb58 := NB537_524.out; have hnc58 := NB524_537.out; have hnb59 := NB537_525.out; have hnc59 := NB525_537.out; obtain ⟨hcz60_0, hcz60_1, hcz60_2, hfz60_0, hfz60_1, hfz60_2⟩ := cz3_ (w := w56) BK537) | ((with_reducible refine gate_dst (N := 34) rfl ?_); refine Kd.R_lit (Kd.int .u32) _ 22 ?hg (N := 34) ?hd (xs := ([] : List Int)) (inner := []) (ok := fun _ => True) (okp := fun _ => True) ?hr ?hp (fun _ hk => hk) trivial (Below.refl _ _) (Nat.le_refl _) (by simp) ?_; (case hd => rfl); (case hg => rfl); (case hr => first | (go_simp; done) | (go_simp; rfl)); (case hp => exact (Reps.none _ _)); intro v539 w61 ho62 hb hg_ hnew_; clear hg_ hnew_; (first | rw [← Ny538.out] at ho62 | (simp only [Int.reduceToNat] at ho62; rw [← Ny538.out] at ho62)); have n0_ := Aside0.mk (Kd.R_below (by (with_reducible repeat (first | apply Kd.R_alloc | apply Kd.R_drewN | apply Kd.R_drew)); exact (Kd.R_mono (Kd.R_far (p := ⟨gb537, 2, none⟩) (Kd.R_far (p := ⟨gb537, 1, none⟩) (Kd.R_far (p := ⟨gb537, 0, none⟩) (Kd.R_types HO536.out BK537.out (by decide)) (fun _ hk => hk.2) (.int .i64 a2_0)) (fun _ hk => hk.2) (.int .u32 a2_1)) (fun _ hk => hk.2) (.slice A2_2 l2_2.length c2_2)) (fun _ h_ => h_.1))) hb); have n1_ := Aside0.mk (Kd.R_lower ho62 (below_size (hB_ HB))); have n2_ := Aside0.mk (blk_below (g := gb523) (o := .cells #[.int .u32 a0_0, .int .i64 a0_1, .slice A0_2 l0_2.length c0_2, .int .i64 a0_3, .int .i64 a0_4, .int .i64 a0_5, .int .i64 a0_6] 27 (0, 0)) (by (with_reducible repeat (first | refine blk_drewN ?_ _ | refine blk_drew ?_ | refine blk_alloc ?_ _)); refine blk_far ?_ NB523_537.out _; (with_reducible repeat (first | refine blk_drewN ?_ _ | refine blk_drew ?_ | refine blk_alloc ?_ _)); refine blk_far ?_ NB523_537.out _; (with_reducible repeat (first | refine blk_drewN ?_ _ | refine blk_drew ?_ | refine blk_alloc ?_ _)); refine blk_far ?_ NB523_537.out _; (with_reducible repeat (first | refine blk_drewN ?_ _ | refine blk_drew ?_ | refine blk_alloc ?_ _)); exact BK523.out) hb); have n3_ := Aside0.mk (blk_below (g := gb524) (o := .cells #[.int .i64 a2_0, .int .u32 a2_1, .slice A2_2 l2_2.length c2_2] 30 (0, 0)) (by (with_reducible repeat (first | refine blk_drewN ?_ _ | refine blk_drew ?_ | refine blk_alloc ?_ _)); refine blk_far ?_ NB524_537.out _; (with_reducible repeat (first | refine blk_drewN ?_ _ | refine blk_drew ?_ | refine blk_alloc ?_ _)); refine blk_far ?_ NB524_537.out _; (with_reducible repeat (first | refine blk_drewN ?_ _ | refine blk_drew ?_ | refine blk_alloc ?_ _)); refine blk_far ?_ NB524_537.out _; (with_reducible repeat (first | refine blk_drewN ?_ _ | refine blk_drew ?_ | refine blk_alloc ?_ _)); exact BK524.out) hb); have n4_ := Aside0.mk (blk_below (g := gb525) (o := .cells #[.int .i64 a3_0, .int .u32 a3_1, .bool a3_2, .slice A3_3 l3_3.length c3_3, .slice A3_4 l3_4.length c3_4] 34 (0, 0)) (by (with_reducible repeat (first | refine blk_drewN ?_ _ | refine blk_drew ?_ | refine blk_alloc ?_ _)); refine blk_far ?_ NB525_537.out _; (with_reducible repeat (first | refine blk_drewN ?_ _ | refine blk_drew ?_ | refine blk_alloc ?_ _)); refine blk_far ?_ NB525_537.out _; (with_reducible repeat (first | refine blk_drewN ?_ _ | refine blk_drew ?_ | refine blk_alloc ?_ _)); refine blk_far ?_ NB525_537.out _; (with_reducible repeat (first | refine blk_drewN ?_ _ | refine blk_drew ?_ | refine blk_alloc ?_ _)); exact BK525.out) hb); have n5_ := Aside0.mk (blk_below (g := gb537) (o := .cells #[.int .i64 a2_0, .int .u32 a2_1, .slice A2_2 l2_2.length c2_2] 30 (0, 0)) (by (with_reducible repeat (first | refine blk_drewN ?_ _ | refine blk_drew ?_ | refine blk_alloc ?_ _)); refine blk_put (cs := #[.int .i64 a2_0, .int .u32 a2_1, .slice none 0 0]) ?_ 2 _ rfl; (with_reducible repeat (first | refine blk_drewN ?_ _ | refine blk_drew ?_ | refine blk_alloc ?_ _)); refine blk_put (cs := #[.int .i64 a2_0, .int .u32 0, .slice none 0 0]) ?_ 1 _ rfl; (with_reducible repeat (first | refine blk_drewN ?_ _ | refine blk_drew ?_ | refine blk_alloc ?_ _)); refine blk_put (cs := #[.int .i64 0, .int .u32 0, .slice none 0 0]) ?_ 0 _ rfl; (with_reducible repeat (first | refine blk_drewN ?_ _ | refine blk_drew ?_ | refine blk_alloc ?_ _)); exact BK537.out) hb); have n6_ := Aside0.mk (below_step (hB_ HB) hb); clear HO536; clear BK523; clear BK524; clear BK525; clear BK537; clear HB; have HO536 := n0_; have HO540 := n1_; have BK523 := n2_; have BK524 := n3_; have BK525 := n4_; have BK537 := n5_; have HB := n6_; clear n0_ n1_ n2_ n3_ n4_ n5_ n6_; clear hb ho62; obtain ⟨hcz63_0, hcz63_1, hcz63_2, hfz63_0, hfz63_1, hfz63_2⟩ := cz3_ (w := w61) BK524) | ((with_reducible refine gate_builtin (b := .append) (xs := #[.tmp 34, .tmp 36]) rfl ?_); at_builtin; refine Kd.R_append_rows (Kd.int .u32) (w0 := w) w.heap.size rfl (.tmp 34) (.tmp 36) 28 22 (.int .u32 0) 4 rfl Tryd.underlying28 info22 rfl (by decide) (by omega) v539 y538 l2_2 _ _ _ (fun _ => True) (fun _ => False) rfl rfl ?aO ?aR (fun _ _ h => h) (fun _ h => h.elim) ?aF ?aB ?aS ?aL ?_; (case aR => exact cC_ HR2_2 HB); (case aB => exact (hB_ HB)); (case aF => exact (fun _ _ => trivial)); (case aO => exact (rR_ HO540)); (case aS => exact (below_size (hB_ HB))); (case aL => have := LMc44.out; omega); intro v542 w64 ho hb hg hat; rw [← Ny541.out] at ho; have n0_ := Aside0.mk (blk_grown (g := gb523) (o := .cells #[.int .u32 a0_0, .int .i64 a0_1, .slice A0_2 l0_2.length c0_2, .int .i64 a0_3, .int .i64 a0_4, .int .i64 a0_5, .int .i64 a0_6] 27 (0, 0)) (bk_ BK523) hg (Kd.R_ne HO540.out BK523.out (by decide))); have n1_ := Aside0.mk (blk_grown (g := gb524) (o := .cells #[.int .i64 a2_0, .int .u32 a2_1, .slice A2_2 l2_2.length c2_2] 30 (0, 0)) (bk_ BK524) hg (Kd.R_ne HO540.out BK524.out (by decide))); have n2_ := Aside0.mk (blk_grown (g := gb525) (o := .cells #[.int .i64 a3_0, .int .u32 a3_1, .bool a3_2, .slice A3_3 l3_3.length c3_3, .slice A3_4 l3_4.length c3_4] 34 (0, 0)) (bk_ BK525) hg (Kd.R_ne HO540.out BK525.out (by decide))); have n3_ := Aside0.mk (Kd.R_over' (rR_ HO536) (Kd.R_typed (rR_ HO540)) (by decide) hg); have n4_ := Aside0.mk (blk_grown (g := gb537) (o := .cells #[.int .i64 a2_0, .int .u32 a2_1, .slice A2_2 l2_2.length c2_2] 30 (0, 0)) (bk_ BK537) hg (Kd.R_ne HO540.out BK537.out (by decide))); have n5_ := Aside0.mk (hb); have n6_ := Aside0.mk (ho); clear BK523; clear BK524; clear BK525; clear HO536; clear BK537; clear HB; clear HO540; have BK523 := n0_; have BK524 := n1_; have BK525 := n2_; have HO536 := n3_; have BK537 := n4_; have HB := n5_; have HO543 := n6_; clear n0_ n1_ n2_ n3_ n4_ n5_ n6_; clear ho hb hg hat; obtain ⟨Ao65, co65, eo65⟩ := Kd.R_slice HO543.out; subst eo65; obtain ⟨hcz66_0, hcz66_1, hcz66_2, hfz66_0, hfz66_1, hfz66_2⟩ := cz3_ (w := w64) BK537) | ((with_reducible refine gate_store (t := 28) (p := 38) rfl ?_); refine store_event (t := 28) (p := 38) (v := ?vo_w67) (w1 := (w64.setCell ⟨gb537, 2, none⟩ (.slice Ao65 y541.length co65))) ?hg ?ho ?hn ?hr ?_; (case ho => rfl); (case hg => rfl); (case hn => rfl); (case hr => first | (go_simp; done) | (go_simp; rfl)); intro w67 hw; have n0_ : Aside0 (Kd.R (Kd.int .i64) 3 w67 w.heap.size (fun _ => True) v535 y534) := ⟨(by rw [hw]; exact (by (with_reducible repeat (first | apply Kd.R_alloc | apply Kd.R_drewN | apply Kd.R_drew)); exact Kd.R_mono (Kd.R_far (p := ⟨gb537, 2, none⟩) (Kd.R_types HO536.out BK537.out (by decide)) (fun _ hk => hk.2) (.slice Ao65 y541.length co65)) (fun _ hk => trivial)))⟩; have n1_ : Aside0 (Kd.R (Kd.int .u32) 22 w67 w.heap.size (fun _ => True) (.slice Ao65 y541.length co65) y541) := ⟨(by rw [hw]; exact (by (with_reducible repeat (first | apply Kd.R_alloc | apply Kd.R_drewN | apply Kd.R_drew)); exact Kd.R_mono (Kd.R_far (p := ⟨gb537, 2, none⟩) (Kd.R_types HO543.out BK537.out (by decide)) (fun _ hk => hk.2) (.slice Ao65 y541.length co65)) (fun _ hk => trivial)))⟩; have n2_ : Aside0 (w67.heap[gb523]? = some (.cells #[.int .u32 a0_0, .int .i64 a0_1, .slice A0_2 l0_2.length c0_2, .int .i64 a0_3, .int .i64 a0_4, .int .i64 a0_5, .int .i64 a0_6] 27 (0, 0))) := ⟨(by rw [hw]; exact (by (with_reducible repeat (first | refine blk_drewN ?_ _ | refine blk_drew ?_ | refine blk_alloc ?_ _)); refine blk_far ?_ NB523_537.out _; (with_reducible repeat (first | refine blk_drewN ?_ _ | refine blk_drew ?_ | refine blk_alloc ?_ _)); exact BK523.out))⟩; have n3_ : Aside0 (w67.heap[gb524]? = some (.cells #[.int .i64 a2_0, .int .u32 a2_1, .slice A2_2 l2_2.length c2_2] 30 (0, 0))) := ⟨(by rw [hw]; exact (by (with_reducible repeat (first | refine blk_drewN ?_ _ | refine blk_drew ?_ | refine blk_alloc ?_ _)); refine blk_far ?_ NB524_537.out _; (with_reducible repeat (first | refine blk_drewN ?_ _ | refine blk_drew ?_ | refine blk_alloc ?_ _)); exact BK524.out))⟩; have n4_ : Aside0 (w67.heap[gb525]? = some (.cells #[.int .i64 a3_0, .int .u32 a3_1, .bool a3_2, .slice A3_3 l3_3.length c3_3, .slice A3_4 l3_4.length c3_4] 34 (0, 0))) := ⟨(by rw [hw]; exact (by (with_reducible repeat (first | refine blk_drewN ?_ _ | refine blk_drew ?_ | refine blk_alloc ?_ _)); refine blk_far ?_ NB525_537.out _; (with_reducible repeat (first | refine blk_drewN ?_ _ | refine blk_drew ?_ | refine blk_alloc ?_ _)); exact BK525.out))⟩; have n5_ : Aside0 (w67.heap[gb537]? = some (.cells #[.int .i64 a2_0, .int .u32 a2_1, .slice Ao65 y541.length co65] 30 (0, 0))) := ⟨(by rw [hw]; exact (by (with_reducible repeat (first | refine blk_drewN ?_ _ | refine blk_drew ?_ | refine blk_alloc ?_ _)); refine blk_put (cs := #[.int .i64 a2_0, .int .u32 a2_1, .slice A2_2 l2_2.length c2_2]) ?_ 2 _ rfl; (with_reducible repeat (first | refine blk_drewN ?_ _ | refine blk_drew ?_ | refine blk_alloc ?_ _)); exact BK537.out))⟩; have n6_ : Aside0 (Below w.heap.size w w67) := ⟨(by rw [hw]; exact (hB_ HB))⟩; clear hw; clear HO536; clear HO543; clear BK523; clear BK524; clear BK525; clear BK537; clear HB; have HO536 := n0_; have HO543 := n1_; have BK523 := n2_; have BK524 := n3_; have BK525 := n4_; have BK537 := n5_; have HB := n6_; clear n0_ n1_ n2_ n3_ n4_ n5_ n6_; have hnb68 := NB523_525.out; have hnc68 := NB525_523.out; obtain ⟨hcz69_0, hcz69_1, hcz69_2, hcz69_3, hcz69_4, hcz69_5, hcz69_6, hfz69_0, hfz69_1, hfz69_2, hfz69_3, hfz69_4, hfz69_5, hfz69_6⟩ := cz7_ (w := w67) BK523; obtain ⟨hcz70_0, hcz70_1, hcz70_2, hfz70_0, hfz70_1, hfz70_2⟩ := cz3_ (w := w67) BK537; obtain ⟨hcz71_0, hcz71_1, hcz71_2, hcz71_3, hcz71_4, hfz71_0, hfz71_1, hfz71_2, hfz71_3, hfz71_4⟩ := cz5_ (w := w67) BK525; obtain ⟨Ao72, co72, eo72⟩ := Kd.R_slice HO536.out; subst eo72) | ((with_reducible refine gate_callee (f := 13) rfl ?_); refine goesL_ (some 43) rfl rfl Tryd.func13 (by kernel_rfl) rfl #[.agg #[.int .u32 a0_0, .int .i64 a0_1, .slice A0_2 l0_2.length c0_2, .int .i64 a0_3, .int .i64 a0_4, .int .i64 a0_5, .int .i64 a0_6], .slice Ao72 y534.length co72, .agg #[.int .i64 a2_0, .int .u32 a2_1, .slice Ao65 y541.length co65], .agg #[.int .i64 a3_0, .int .u32 a3_1, .bool a3_2, .slice A3_3 l3_3.length c3_3, .slice A3_4 l3_4.length c3_4]] rfl am_ ?_; (with_reducible refine (spec_Legal.calls kj4 a0_0 a0_1 _ _ l0_2 a0_3 a0_4 a0_5 a0_6 (fun k_ => some k_ = (.slice Ao72 y534.length co72 : Value).ownBlock) _ _ y534 a2_0 a2_1 _ _ y541 a3_0 a3_1 a3_2 _ _ l3_3 _ _ l3_4 t544 t547 _ ?side1 ?side2 ?side3 ?side4 ?side5 ?side6 ?side7 ?side8 ?side9 ?side10 A45.out).mono ?_); (case side1 => exact cC_ HR0_2 HB); (case side2 => exact HC0_2.out); (case side3 => exact Kd.R_V (Kd.R_tight rfl (Kd.R_types (Kd.R_types (Kd.R_types (Kd.R_types (Kd.R_apart' (HO536.out) (Kd.R_typed HO543.out) (by decide)) BK523.out (by decide)) BK524.out (by decide)) BK525.out (by decide)) BK537.out (by decide)))); (case side4 => repeat (first | exact (Kd.R_reads' HO543.out).2.2 | (with_reducible refine Kd.C_alloc ?_ _) | (with_reducible refine Kd.C_drewN ?_ _) | (with_reducible refine Kd.C_drew ?_))); (case side5 => exact (Kd.R_reads' HO543.out).2.1); (case side6 => exact cC_ HR3_3 HB); (case side7 => exact HC3_3.out); (case side8 => exact cC_ HR3_4 HB); (case side9 => exact HC3_4.out); (case side10 => exact Lg_below HG.out (hB_ HB)); rintro e w73 ⟨v545, rfl, ho0, hb⟩; refine ⟨_, rfl, ?_⟩; have n0_ := Aside0.mk (Kd.R_below (rR_ HO536) hb); have n1_ := Aside0.mk (Kd.R_below (rR_ HO543) hb); have n2_ := Aside0.mk (Kd.V_lower (Kd.V_mono (ok' := fun k_ => some k_ ≠ (.slice Ao65 y541.length co65 : Value).ownBlock ∧ k_ ≠ gb523 ∧ k_ ≠ gb524 ∧ k_ ≠ gb525 ∧ k_ ≠ gb537) ho0 (fun k_ hk_ => ⟨Or.elim hk_ (fun hs_ => ((Kd.R_types (Kd.R_types (Kd.R_types (Kd.R_types (Kd.R_apart' (HO536.out) (Kd.R_typed HO543.out) (by decide)) BK523.out (by decide)) BK524.out (by decide)) BK525.out (by decide)) BK537.out (by decide)).1 k_ hs_.symm).1.1.1.1.2) (fun hn_ => (Kd.fresh' (Kd.R_lt (rR_ HO543)) k_ hn_)), Or.elim hk_ (fun hs_ => ((Kd.R_types (Kd.R_types (Kd.R_types (Kd.R_types (Kd.R_apart' (HO536.out) (Kd.R_typed HO543.out) (by decide)) BK523.out (by decide)) BK524.out (by decide)) BK525.out (by decide)) BK537.out (by decide)).1 k_ hs_.symm).1.1.1.2) (fun hn_ => (Kd.freshB (g := gb523) (o := .cells #[.int .u32 a0_0, .int .i64 a0_1, .slice A0_2 l0_2.length c0_2, .int .i64 a0_3, .int .i64 a0_4, .int .i64 a0_5, .int .i64 a0_6] 27 (0, 0)) (bk_ BK523) k_ hn_)), Or.elim hk_ (fun hs_ => ((Kd.R_types (Kd.R_types (Kd.R_types (Kd.R_types (Kd.R_apart' (HO536.out) (Kd.R_typed HO543.out) (by decide)) BK523.out (by decide)) BK524.out (by decide)) BK525.out (by decide)) BK537.out (by decide)).1 k_ hs_.symm).1.1.2) (fun hn_ => (Kd.freshB (g := gb524) (o := .cells #[.int .i64 a2_0, .int .u32 a2_1, .slice A2_2 l2_2.length c2_2] 30 (0, 0)) (bk_ BK524) k_ hn_)), Or.elim hk_ (fun hs_ => ((Kd.R_types (Kd.R_types (Kd.R_types (Kd.R_types (Kd.R_apart' (HO536.out) (Kd.R_typed HO543.out) (by decide)) BK523.out (by decide)) BK524.out (by decide)) BK525.out (by decide)) BK537.out (by decide)).1 k_ hs_.symm).1.2) (fun hn_ => (Kd.freshB (g := gb525) (o := .cells #[.int .i64 a3_0, .int .u32 a3_1, .bool a3_2, .slice A3_3 l3_3.length c3_3, .slice A3_4 l3_4.length c3_4] 34 (0, 0)) (bk_ BK525) k_ hn_)), Or.elim hk_ (fun hs_ => ((Kd.R_types (Kd.R_types (Kd.R_types (Kd.R_types (Kd.R_apart' (HO536.out) (Kd.R_typed HO543.out) (by decide)) BK523.out (by decide)) BK524.out (by decide)) BK525.out (by decide)) BK537.out (by decide)).1 k_ hs_.symm).2) (fun hn_ => (Kd.freshB (g := gb537) (o := .cells #[.int .i64 a2_0, .int .u32 a2_1, .slice Ao65 y541.length co65] 30 (0, 0)) (bk_ BK537) k_ hn_))⟩)) (below_size (hB_ HB))); have n3_ := bB_ BK523 hb; have n4_ := bB_ BK524 hb; have n5_ := bB_ BK525 hb; have n6_ := bB_ BK537 hb; have n7_ := Aside0.mk (below_step (hB_ HB) hb); clear HO536; clear HO543; clear BK523; clear BK524; clear BK525; clear BK537; clear HB; have HO536 := n0_; have HO543 := n1_; have HO546 := n2_; have BK523 := n3_; have BK524 := n4_; have BK525 := n5_; have BK537 := n6_; have HB := n7_; clear n0_ n1_ n2_ n3_ n4_ n5_ n6_ n7_; (try clear hb); (try clear hb2); (try clear hk); (try clear hi); (try clear ho0); obtain ⟨hcz74_0, hcz74_1, hcz74_2, hcz74_3, hcz74_4, hcz74_5, hcz74_6, hfz74_0, hfz74_1, hfz74_2, hfz74_3, hfz74_4, hfz74_5, hfz74_6⟩ := cz7_ (w := w73) BK523; obtain ⟨hcz75_0, hcz75_1, hcz75_2, hfz75_0, hfz75_1, hfz75_2⟩ := cz3_ (w := w73) BK537) | ((with_reducible refine gate_callee (f := 15) rfl ?_); refine goesL_ (some 47) rfl rfl Tryd.func15 (by kernel_rfl) rfl #[.agg #[.int .u32 a0_0, .int .i64 a0_1, .slice A0_2 l0_2.length c0_2, .int .i64 a0_3, .int .i64 a0_4, .int .i64 a0_5, .int .i64 a0_6], .slice Ao72 y534.length co72, .agg #[.int .i64 a2_0, .int .u32 a2_1, .slice Ao65 y541.length co65]] rfl am_ ?_; (with_reducible refine (spec_Some.calls kj4 a0_0 a0_1 _ _ l0_2 a0_3 a0_4 a0_5 a0_6 (fun k_ => some k_ = (.slice Ao72 y534.length co72 : Value).ownBlock) _ _ y534 a2_0 a2_1 _ _ y541 t548 t551 t552 t553 t554 t557 _ ?side1 ?side2 ?side3 ?side4 ?side5 ?side6 A46.out).mono ?_); (case side1 => exact cC_ HR0_2 HB); (case side2 => exact HC0_2.out); (case side3 => exact Kd.R_V (Kd.R_tight rfl (Kd.R_types (Kd.R_types (Kd.R_types (Kd.R_types (Kd.R_apart' (HO536.out) (Kd.R_typed HO543.out) (by decide)) BK523.out (by decide)) BK524.out (by decide)) BK525.out (by decide)) BK537.out (by decide)))); (case side4 => repeat (first | exact (Kd.R_reads' HO543.out).2.2 | (with_reducible refine Kd.C_alloc ?_ _) | (with_reducible refine Kd.C_drewN ?_ _) | (with_reducible refine Kd.C_drew ?_))); (case side5 => exact (Kd.R_reads' HO543.out).2.1); (case side6 => exact Lg_below HG.out (hB_ HB)); rintro e w76 ⟨v549, v555, v558, rfl, ho0, ho1, ho2, hb⟩; refine ⟨_, rfl, ?_⟩; have n0_ := Aside0.mk (Kd.R_below (rR_ HO536) hb); have n1_ := Aside0.mk (Kd.R_elder' (rR_ HO543) (Kd.R_base ho1) hb); have n2_ := Aside0.mk (Kd.V_mono (Kd.V_told (Kd.V_told (Kd.V_old (vV_ HO546) hb) (Kd.R_base ho1)) (Kd.R_base ho2)) (fun _ h_ => h_.1)); have n3_ := Aside0.mk (Kd.V_lower (Kd.V_mono (ok' := fun k_ => some k_ ≠ (v555 : Value).ownBlock ∧ some k_ ≠ (v558 : Value).ownBlock ∧ some k_ ≠ (.slice Ao65 y541.length co65 : Value).ownBlock ∧ k_ ≠ gb523 ∧ k_ ≠ gb524 ∧ k_ ≠ gb525 ∧ k_ ≠ gb537) ho0 (fun k_ hk_ => ⟨hk_.2.1, hk_.2.2, Or.elim hk_.1 (fun hs_ => ((Kd.R_types (Kd.R_types (Kd.R_types (Kd.R_types (Kd.R_apart' (HO536.out) (Kd.R_typed HO543.out) (by decide)) BK523.out (by decide)) BK524.out (by decide)) BK525.out (by decide)) BK537.out (by decide)).1 k_ hs_.symm).1.1.1.1.2) (fun hn_ => (Kd.fresh' (Kd.R_lt (rR_ HO543)) k_ hn_)), Or.elim hk_.1 (fun hs_ => ((Kd.R_types (Kd.R_types (Kd.R_types (Kd.R_types (Kd.R_apart' (HO536.out) (Kd.R_typed HO543.out) (by decide)) BK523.out (by decide)) BK524.out (by decide)) BK525.out (by decide)) BK537.out (by decide)).1 k_ hs_.symm).1.1.1.2) (fun hn_ => (Kd.freshB (g := gb523) (o := .cells #[.int .u32 a0_0, .int .i64 a0_1, .slice A0_2 l0_2.length c0_2, .int .i64 a0_3, .int .i64 a0_4, .int .i64 a0_5, .int .i64 a0_6] 27 (0, 0)) (bk_ BK523) k_ hn_)), Or.elim hk_.1 (fun hs_ => ((Kd.R_types (Kd.R_types (Kd.R_types (Kd.R_types (Kd.R_apart' (HO536.out) (Kd.R_typed HO543.out) (by decide)) BK523.out (by decide)) BK524.out (by decide)) BK525.out (by decide)) BK537.out (by decide)).1 k_ hs_.symm).1.1.2) (fun hn_ => (Kd.freshB (g := gb524) (o := .cells #[.int .i64 a2_0, .int .u32 a2_1, .slice A2_2 l2_2.length c2_2] 30 (0, 0)) (bk_ BK524) k_ hn_)), Or.elim hk_.1 (fun hs_ => ((Kd.R_types (Kd.R_types (Kd.R_types (Kd.R_types (Kd.R_apart' (HO536.out) (Kd.R_typed HO543.out) (by decide)) BK523.out (by decide)) BK524.out (by decide)) BK525.out (by decide)) BK537.out (by decide)).1 k_ hs_.symm).1.2) (fun hn_ => (Kd.freshB (g := gb525) (o := .cells #[.int .i64 a3_0, .int .u32 a3_1, .bool a3_2, .slice A3_3 l3_3.length c3_3, .slice A3_4 l3_4.length c3_4] 34 (0, 0)) (bk_ BK525) k_ hn_)), Or.elim hk_.1 (fun hs_ => ((Kd.R_types (Kd.R_types (Kd.R_types (Kd.R_types (Kd.R_apart' (HO536.out) (Kd.R_typed HO543.out) (by decide)) BK523.out (by decide)) BK524.out (by decide)) BK525.out (by decide)) BK537.out (by decide)).1 k_ hs_.symm).2) (fun hn_ => (Kd.freshB (g := gb537) (o := .cells #[.int .i64 a2_0, .int .u32 a2_1, .slice Ao65 y541.length co65] 30 (0, 0)) (bk_ BK537) k_ hn_))⟩)) (below_size (hB_ HB))); have n4_ := Aside0.mk (Kd.R_lower (Kd.R_new' (Kd.R_mono (ok' := fun k_ => True) ho1 (fun _ hk_ => trivial)) (Kd.R_lt (rR_ HO543))) (below_size (hB_ HB))); have n5_ := Aside0.mk (Kd.R_lower (Kd.R_mono (ok' := fun k_ => True) ho2 (fun _ hk_ => trivial)) (below_size (hB_ HB))); have n6_ := bB_ BK523 hb; have n7_ := bB_ BK524 hb; have n8_ := bB_ BK525 hb; have n9_ := bB_ BK537 hb; have n10_ := Aside0.mk (below_step (hB_ HB) hb); clear HO536; clear HO543; clear HO546; clear BK523; clear BK524; clear BK525; clear BK537; clear HB; have HO536 := n0_; have HO543 := n1_; have HO546 := n2_; have HO550 := n3_; have HO556 := n4_; have HO559 := n5_; have BK523 := n6_; have BK524 := n7_; have BK525 := n8_; have BK537 := n9_; have HB := n10_; clear n0_ n1_ n2_ n3_ n4_ n5_ n6_ n7_ n8_ n9_ n10_; (try clear hb); (try clear hb2); (try clear hk); (try clear hi); (try clear ho0); (try clear ho1); (try clear ho2)) | ((with_reducible refine gate_callee (f := 17) rfl ?_); refine goesL_ (some 50) rfl rfl Tryd.func17 (by kernel_rfl) rfl #[.slice Ao72 y534.length co72, .slice A1 l1.length c1] rfl am_ ?_; (with_reducible refine (lodgerref03_Ints.calls kj4 _ _ y534 _ _ l1 true _ ?side1 ?side2 ?side3 ?side4 A47.out).mono ?_); (case side1 => repeat (first | exact (Kd.R_reads' HO536.out).2.2 | (with_reducible refine Kd.C_alloc ?_ _) | (with_reducible refine Kd.C_drewN ?_ _) | (with_reducible refine Kd.C_drew ?_))); (case side2 => exact (Kd.R_reads' HO536.out).2.1); (case side3 => exact cC_ HR1 HB); (case side4 => exact HC1.out); rintro e w' ⟨rfl, ⟨nd, rfl⟩⟩; refine ⟨_, rfl, ?_⟩; obtain ⟨hcz77_0, hcz77_1, hcz77_2, hfz77_0, hfz77_1, hfz77_2⟩ := cz3_ (w := w76) BK537; obtain ⟨hcz78_0, hcz78_1, hcz78_2, hfz78_0, hfz78_1, hfz78_2⟩ := cz3_ (w := w76) BK524) | (go_at_call 26; (with_reducible refine (lodgerref08_Asks.calls kj4 a2_0 a2_1 _ _ y541 a2_0 a2_1 _ _ l2_2 t561 _ ?side1 ?side2 ?side3 ?side4 A49.out).mono ?_); (case side1 => repeat (first | exact (Kd.R_reads' HO543.out).2.2 | (with_reducible refine Kd.C_alloc ?_ _) | (with_reducible refine Kd.C_drewN ?_ _) | (with_reducible refine Kd.C_drew ?_))); (case side2 => exact (Kd.R_reads' HO543.out).2.1); (case side3 => repeat (first | exact (Kd.C_below HR2_2.out (hB_ HB)) | (with_reducible refine Kd.C_alloc ?_ _) | (with_reducible refine Kd.C_drewN ?_ _) | (with_reducible refine Kd.C_drew ?_))); (case side4 => exact HC2_2.out); rintro e w79 ⟨rfl, hb⟩; have n0_ := Aside0.mk (Kd.R_below (rR_ HO536) hb); have n1_ := Aside0.mk (Kd.R_below (rR_ HO543) hb); have n2_ := Aside0.mk (Kd.V_below (vV_ HO546) hb); have n3_ := Aside0.mk (Kd.V_below (vV_ HO550) hb); have n4_ := Aside0.mk (Kd.R_below (rR_ HO556) hb); have n5_ := Aside0.mk (Kd.R_below (rR_ HO559) hb); have n6_ := bB_ BK523 hb; have n7_ := bB_ BK524 hb; have n8_ := bB_ BK525 hb; have n9_ := bB_ BK537 hb; have n10_ := Aside0.mk (below_step (hB_ HB) hb); clear HO536; clear HO543; clear HO546; clear HO550; clear HO556; clear HO559; clear BK523; clear BK524; clear BK525; clear BK537; clear HB; have HO536 := n0_; have HO543 := n1_; have HO546 := n2_; have HO550 := n3_; have HO556 := n4_; have HO559 := n5_; have BK523 := n6_; have BK524 := n7_; have BK525 := n8_; have BK537 := n9_; have HB := n10_; clear n0_ n1_ n2_ n3_ n4_ n5_ n6_ n7_ n8_ n9_ n10_; (try clear hb); (try clear hb2); (try clear hk); (try clear hi)))
        go_ret
        exact ⟨er_, by repeat (first | (with_reducible first | exact HB.out | apply below_alloc | apply pw_below_drewN | apply below_drew1 | refine below_set ?_ GE523.out | refine below_set ?_ GE524.out | refine below_set ?_ GE525.out | refine below_set ?_ GE537.out) | exact HB.out)⟩
      ·replace c48 := Bool.eq_false_iff.mpr c48
       subst c48
       have H1 : (some false) = some r := by rw [if_neg (show ¬ (false = true) by decide)] at H; exact H
       rw [hr_.out] at H1
       exact absurd (Option.some.inj H1) (by decide)
     ·rw [if_neg c44] at H
      exact absurd H (by simp)
    ·rw [if_neg c43] at H
     exact absurd H (by simp)

/-- THE ONE PURE STATEMENT of lodgerlaw11_SpecKeeps: yours. -/
def lodgerlaw11_SpecKeeps.Pure : Prop := ∀ (a0_0 : Int) (a0_1 : Int) (l0_2 : List Int) (a0_3 : Int) (a0_4 : Int) (a0_5 : Int) (a0_6 : Int) (l1 : List Int) (a2_0 : Int) (a2_1 : Int) (l2_2 : List Int) (a3_0 : Int) (a3_1 : Int) (a3_2 : Bool) (l3_3 : List Int) (l3_4 : List Int), (Lit.int .u32 a0_0).wf = true → (Lit.int .i64 a0_1).wf = true → l0_2.length ≤ maxLen → (∀ x ∈ l0_2, (Lit.int .i64 x).wf = true) → (Lit.int .i64 a0_3).wf = true → (Lit.int .i64 a0_4).wf = true → (Lit.int .i64 a0_5).wf = true → (Lit.int .i64 a0_6).wf = true → l1.length ≤ maxLen → l1.length * 8 ≤ 140737488351232 → (∀ x ∈ l1, (Lit.int .i64 x).wf = true) → (Lit.int .i64 a2_0).wf = true → (Lit.int .u32 a2_1).wf = true → l2_2.length ≤ maxLen → (∀ x ∈ l2_2, (Lit.int .u32 x).wf = true) → (Lit.int .i64 a3_0).wf = true → (Lit.int .u32 a3_1).wf = true → l3_3.length ≤ maxLen → (∀ x ∈ l3_3, (Lit.int .u32 x).wf = true) → l3_4.length ≤ maxLen → (∀ x ∈ l3_4, (Lit.int .i64 x).wf = true) → ∃ k, lodgerlaw11_SpecKeeps.f k a0_0 a0_1 l0_2 a0_3 a0_4 a0_5 a0_6 l1 a2_0 a2_1 l2_2 a3_0 a3_1 a3_2 l3_3 l3_4 = some true
theorem lodgerlaw11_SpecKeeps.walk (P : lodgerlaw11_SpecKeeps.Pure) (a0_0 : Int) (a0_1 : Int) (a0_2 : Option Addr) (len0_2 cap0_2 : Nat) (z0_2 : List Int) (a0_3 : Int) (a0_4 : Int) (a0_5 : Int) (a0_6 : Int) (a1 : Option Addr) (len1 cap1 : Nat) (z1 : List Int) (a2_0 : Int) (a2_1 : Int) (a2_2 : Option Addr) (len2_2 cap2_2 : Nat) (z2_2 : List Int) (a3_0 : Int) (a3_1 : Int) (a3_2 : Bool) (a3_3 : Option Addr) (len3_3 cap3_3 : Nat) (z3_3 : List Int) (a3_4 : Option Addr) (len3_4 cap3_4 : Nat) (z3_4 : List Int) (w : World) (w0_0 : (Lit.int .u32 a0_0).wf = true) (w0_1 : (Lit.int .i64 a0_1).wf = true) (w0_2 : (a0_2 = none ∧ len0_2 = 0 ∧ cap0_2 = 0 ∧ z0_2 = []) ∨ ∃ x, a0_2 = some x ∧ len0_2 ≤ cap0_2 ∧ cap0_2 ≤ maxLen ∧ z0_2.length = cap0_2 ∧ (∀ i, i < z0_2.length → w.cell? (x.add i) = some (.int .i64 (z0_2.getD i 0))) ∧ ∀ n ∈ z0_2, (Lit.int .i64 n).wf = true) (w0_3 : (Lit.int .i64 a0_3).wf = true) (w0_4 : (Lit.int .i64 a0_4).wf = true) (w0_5 : (Lit.int .i64 a0_5).wf = true) (w0_6 : (Lit.int .i64 a0_6).wf = true) (w1 : (a1 = none ∧ len1 = 0 ∧ cap1 = 0 ∧ z1 = []) ∨ ∃ x, a1 = some x ∧ len1 ≤ cap1 ∧ cap1 ≤ maxLen ∧ z1.length = cap1 ∧ (∀ i, i < z1.length → w.cell? (x.add i) = some (.int .i64 (z1.getD i 0))) ∧ ∀ n ∈ z1, (Lit.int .i64 n).wf = true) (y1 : len1 * 8 ≤ 140737488351232) (w2_0 : (Lit.int .i64 a2_0).wf = true) (w2_1 : (Lit.int .u32 a2_1).wf = true) (w2_2 : (a2_2 = none ∧ len2_2 = 0 ∧ cap2_2 = 0 ∧ z2_2 = []) ∨ ∃ x, a2_2 = some x ∧ len2_2 ≤ cap2_2 ∧ cap2_2 ≤ maxLen ∧ z2_2.length = cap2_2 ∧ (∀ i, i < z2_2.length → w.cell? (x.add i) = some (.int .u32 (z2_2.getD i 0))) ∧ ∀ n ∈ z2_2, (Lit.int .u32 n).wf = true) (w3_0 : (Lit.int .i64 a3_0).wf = true) (w3_1 : (Lit.int .u32 a3_1).wf = true) (w3_3 : (a3_3 = none ∧ len3_3 = 0 ∧ cap3_3 = 0 ∧ z3_3 = []) ∨ ∃ x, a3_3 = some x ∧ len3_3 ≤ cap3_3 ∧ cap3_3 ≤ maxLen ∧ z3_3.length = cap3_3 ∧ (∀ i, i < z3_3.length → w.cell? (x.add i) = some (.int .u32 (z3_3.getD i 0))) ∧ ∀ n ∈ z3_3, (Lit.int .u32 n).wf = true) (w3_4 : (a3_4 = none ∧ len3_4 = 0 ∧ cap3_4 = 0 ∧ z3_4 = []) ∨ ∃ x, a3_4 = some x ∧ len3_4 ≤ cap3_4 ∧ cap3_4 ≤ maxLen ∧ z3_4.length = cap3_4 ∧ (∀ i, i < z3_4.length → w.cell? (x.add i) = some (.int .i64 (z3_4.getD i 0))) ∧ ∀ n ∈ z3_4, (Lit.int .i64 n).wf = true) (hG : Lg w) :
  Calls Tryd.prog 6 #[.agg #[.int .u32 a0_0, .int .i64 a0_1, .slice a0_2 len0_2 cap0_2, .int .i64 a0_3, .int .i64 a0_4, .int .i64 a0_5, .int .i64 a0_6], .slice a1 len1 cap1, .agg #[.int .i64 a2_0, .int .u32 a2_1, .slice a2_2 len2_2 cap2_2], .agg #[.int .i64 a3_0, .int .u32 a3_1, .bool a3_2, .slice a3_3 len3_3 cap3_3, .slice a3_4 len3_4 cap3_4]] w fun e w' => e = .returned (.bool true) ∧ Below w.heap.size w w' := by
 obtain ⟨l0_2, rfl, hr0_2, hm0_2, hw0_2, hc0_2⟩ := ReadsInt.ofRowC w0_2
 obtain ⟨l1, rfl, hr1, hm1, hw1, hc1⟩ := ReadsInt.ofRowC w1
 obtain ⟨l2_2, rfl, hr2_2, hm2_2, hw2_2, hc2_2⟩ := ReadsInt.ofRowC w2_2
 obtain ⟨l3_3, rfl, hr3_3, hm3_3, hw3_3, hc3_3⟩ := ReadsInt.ofRowC w3_3
 obtain ⟨l3_4, rfl, hr3_4, hm3_4, hw3_4, hc3_4⟩ := ReadsInt.ofRowC w3_4
 obtain ⟨k, h⟩ := P a0_0 a0_1 l0_2 a0_3 a0_4 a0_5 a0_6 l1 a2_0 a2_1 l2_2 a3_0 a3_1 a3_2 l3_3 l3_4 w0_0 w0_1 hm0_2 hw0_2 w0_3 w0_4 w0_5 w0_6 hm1 y1 hw1 w2_0 w2_1 hm2_2 hw2_2 w3_0 w3_1 hm3_3 hw3_3 hm3_4 hw3_4
 refine (lodgerlaw11_SpecKeeps.calls k a0_0 a0_1 _ _ l0_2 a0_3 a0_4 a0_5 a0_6 _ _ l1 a2_0 a2_1 _ _ l2_2 a3_0 a3_1 a3_2 _ _ l3_3 _ _ l3_4 true w (Kd.C_of_reads (d := (0 : Int)) (h1 := fun _ => rfl) hr0_2) hc0_2 (Kd.C_of_reads (d := (0 : Int)) (h1 := fun _ => rfl) hr1) hc1 (Kd.C_of_reads (d := (0 : Int)) (h1 := fun _ => rfl) hr2_2) hc2_2 (Kd.C_of_reads (d := (0 : Int)) (h1 := fun _ => rfl) hr3_3) hc3_3 (Kd.C_of_reads (d := (0 : Int)) (h1 := fun _ => rfl) hr3_4) hc3_4 hG rfl h).mono ?_
 rintro e w' ⟨rfl, hd⟩
 exact ⟨rfl, hd⟩

end Go.Proofs.YtkiimboedgnoiaaDoor.PSpecKeeps
