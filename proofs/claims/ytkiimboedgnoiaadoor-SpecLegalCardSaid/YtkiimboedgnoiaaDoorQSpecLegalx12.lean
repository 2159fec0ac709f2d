/- The walk of SpecLegal, part of it: what the Go functions answer; no condition. -/
import Derived.Test.YtkiimboedgnoiaaDoorQSpecLegalx0
import Derived.Test.YtkiimboedgnoiaaDoorQSpecLegalx8
import Derived.Test.YtkiimboedgnoiaaDoorQSpecLegalx9
import Derived.Test.YtkiimboedgnoiaaDoorQSpecLegalx11
namespace Go.Proofs.YtkiimboedgnoiaaDoor.PSpecLegal
open Go.RowKit Go.Proofs.YtkiimboedgnoiaaDoorW.PrintWords Go.Proofs.YtkiimboedgnoiaaDoorW.PrintLast Go.Proofs.YtkiimboedgnoiaaDoorW.PrintMore
attribute [local go_sem] max2_int min2_int max_two min_two max_three min_three max_four min_four   -- for this text's walks alone
set_option linter.unusedVariables false
set_option linter.unusedSimpArgs false

/-! ### lodgerref11_Fits: function 10 -/
def lodgerref11_Fits.f (k : Nat) (a0_0 : Int) (a0_1 : Int) (l0_2 : List Int) (a0_3 : Int) (a0_4 : Int) (a0_5 : Int) (a0_6 : Int) (l1 : List Int) : Option (Bool) := (lodgerref05_May.f k a0_0 a0_1 l0_2 a0_3 a0_4 a0_5 a0_6).bind fun t513 => (if t513 = true then ((lodgerref05_Many.f k a0_0 a0_1).bind fun t514 => (if t514 ≤ 256 then (if (l1.length : Int) ≤ 300 then ((lodgerref09_May.f k a0_0 a0_1 l0_2 a0_3 a0_4 a0_5 a0_6 l1).bind fun t515 => (some t515)) else (some false)) else (some false))) else (some false))
theorem lodgerref11_Fits.mono : ∀ a0 a1 a2 a3 a4 a5 a6 a7 k, LeO (lodgerref11_Fits.f k a0 a1 a2 a3 a4 a5 a6 a7) (lodgerref11_Fits.f (k + 1) a0 a1 a2 a3 a4 a5 a6 a7) := by
 intro a0 a1 a2 a3 a4 a5 a6 a7 k
 unfold lodgerref11_Fits.f
 repeat' first
   | (with_reducible exact lodgerref05_Many.mono _ _ _)
   | (with_reducible exact lodgerref05_May.mono _ _ _ _ _ _ _ _)
   | (with_reducible exact lodgerref09_May.mono _ _ _ _ _ _ _ _ _)
   | (with_reducible exact LeO.refl _)
   | (with_reducible exact LeO.none _)
   | (with_reducible refine LeO.ite ?_ ?_)
   | (with_reducible refine LeO.bind ?_ (fun _ => ?_))
   | exact lodgerref05_Many.mono _ _ _
   | exact lodgerref05_May.mono _ _ _ _ _ _ _ _
   | exact lodgerref09_May.mono _ _ _ _ _ _ _ _ _
   | exact LeO.none _
   | refine LeO.ite ?_ ?_
   | refine LeO.bind ?_ (fun _ => ?_)
set_option maxHeartbeats 8000000 in
set_option maxRecDepth 100000 in
theorem lodgerref11_Fits.calls (k : Nat) (a0_0 : Int) (a0_1 : Int) (A0_2 : Option Addr) (c0_2 : Nat) (l0_2 : List Int) (a0_3 : Int) (a0_4 : Int) (a0_5 : Int) (a0_6 : Int) (A1 : Option Addr) (c1 : Nat) (l1 : List Int) (r : Bool) (w : World) (hr0_2 : Kd.C (Kd.int .i64) w A0_2 l0_2.length l0_2) (hc0_2 : l0_2.length ≤ c0_2) (hr1 : Kd.C (Kd.int .i64) w A1 l1.length l1) (hc1 : l1.length ≤ c1) (h : lodgerref11_Fits.f k a0_0 a0_1 l0_2 a0_3 a0_4 a0_5 a0_6 l1 = some r) :
  Calls Tryd.prog 10 #[.agg #[.int .u32 a0_0, .int .i64 a0_1, .slice A0_2 l0_2.length c0_2, .int .i64 a0_3, .int .i64 a0_4, .int .i64 a0_5, .int .i64 a0_6], .slice A1 l1.length c1] w fun e w' => e = .returned (.bool r) ∧ Below w.heap.size w w' := by
 have hu27 := Tryd.underlying27
 have hu24 := Tryd.underlying24
 have HR0_2 := Aside0.mk hr0_2
 have HC0_2 := Aside0.mk hc0_2
 clear hr0_2 hc0_2
 have HR1 := Aside0.mk hr1
 have HC1 := Aside0.mk hc1
 clear hr1 hc1
 have HB := Aside0.mk (Below.refl w.heap.size w)
 have H : ((lodgerref05_May.f k a0_0 a0_1 l0_2 a0_3 a0_4 a0_5 a0_6).bind fun t513 => (if t513 = true then ((lodgerref05_Many.f k a0_0 a0_1).bind fun t514 => (if t514 ≤ 256 then (if (l1.length : Int) ≤ 300 then ((lodgerref09_May.f k a0_0 a0_1 l0_2 a0_3 a0_4 a0_5 a0_6 l1).bind fun t515 => (some t515)) else (some false)) else (some false))) else (some false))) = some r := h
 clear h
 replace H := Option.bind_eq_some_iff.mp H
 obtain ⟨t513, A30, H⟩ := H
 replace H : (if t513 = true then ((lodgerref05_Many.f k a0_0 a0_1).bind fun t514 => (if t514 ≤ 256 then (if (l1.length : Int) ≤ 300 then ((lodgerref09_May.f k a0_0 a0_1 l0_2 a0_3 a0_4 a0_5 a0_6 l1).bind fun t515 => (some t515)) else (some false)) else (some false))) else (some false)) = some r := H
 have A3 := Aside0.mk A30
 clear A30
 by_cases c4 : t513 = true
 ·subst c4
  have H1 : ((lodgerref05_Many.f k a0_0 a0_1).bind fun t514 => (if t514 ≤ 256 then (if (l1.length : Int) ≤ 300 then ((lodgerref09_May.f k a0_0 a0_1 l0_2 a0_3 a0_4 a0_5 a0_6 l1).bind fun t515 => (some t515)) else (some false)) else (some false))) = some r := by rw [if_pos rfl] at H; exact H
  clear H; have H := H1; clear H1; replace H := Option.bind_eq_some_iff.mp H; obtain ⟨t514, A50, H⟩ := H
  replace H : (if t514 ≤ 256 then (if (l1.length : Int) ≤ 300 then ((lodgerref09_May.f k a0_0 a0_1 l0_2 a0_3 a0_4 a0_5 a0_6 l1).bind fun t515 => (some t515)) else (some false)) else (some false)) = some r := H
  have A5 := Aside0.mk A50; clear A50
  by_cases c6 : t514 ≤ 256
  ·rw [if_pos c6] at H
   have c6b0 : decide (t514 ≤ 256) = true := decide_eq_true c6
   clear c6
   by_cases c7 : (l1.length : Int) ≤ 300
   ·rw [if_pos c7] at H
    have c7b0 : decide ((l1.length : Int) ≤ 300) = true := decide_eq_true c7
    have c7b1 : decide (l1.length ≤ 300) = true := decide_eq_true (by omega)
    clear c7; replace H := Option.bind_eq_some_iff.mp H; obtain ⟨t515, A80, H⟩ := H
    replace H : (some t515) = some r := H
    have A8 := Aside0.mk A80; clear A80
    obtain rfl := Option.some.inj H
    go_enter Tryd.func10, Tryd.ntmps10
    go_wp2_with (first | ((with_reducible refine gate_dst (N := 2) rfl ?_); (try (refine gate_guard (by rfl) ?_; dsimp only)); refine box_event ?hg (N := 2) ?hd (cs := #[.int .u32 a0_0, .int .i64 a0_1, .slice A0_2 l0_2.length c0_2, .int .i64 a0_3, .int .i64 a0_4, .int .i64 a0_5, .int .i64 a0_6]) (t := 27) ?hr ?_; (case hd => rfl); (case hg => rfl); (case hr => first | (go_simp; done) | (go_simp; rfl)); intro gb512 hg w9 hbox hb; have n1_ := Aside0.mk (hbox); have n2_ := gG_ (w := w) hg HB; have n3_ := gG_ (w := w) hg HB; have BK512 := n1_; have GW512 := n2_; have GE512 := n3_; replace HB := hS_ HB hb; clear n1_ n2_ n3_; clear hb hbox hg; obtain ⟨hcz10_0, hcz10_1, hcz10_2, hcz10_3, hcz10_4, hcz10_5, hcz10_6, hfz10_0, hfz10_1, hfz10_2, hfz10_3, hfz10_4, hfz10_5, hfz10_6⟩ := cz7_ (w := w9) BK512) | ((with_reducible refine gate_callee (f := 29) rfl ?_); refine goesL_ (some 6) rfl rfl Tryd.func29 (by kernel_rfl) rfl #[.agg #[.int .u32 a0_0, .int .i64 a0_1, .slice A0_2 l0_2.length c0_2, .int .i64 a0_3, .int .i64 a0_4, .int .i64 a0_5, .int .i64 a0_6]] rfl am_ ?_; (with_reducible refine (lodgerref05_May.calls k a0_0 a0_1 _ _ l0_2 a0_3 a0_4 a0_5 a0_6 true _ ?side1 ?side2 A3.out).mono ?_); (case side1 => exact cC_ HR0_2 HB); (case side2 => exact HC0_2.out); rintro e w11 ⟨rfl, hb⟩; refine ⟨_, rfl, ?_⟩; have n1_ := Aside0.mk (below_step (hB_ HB) hb); clear HB; have HB := n1_; replace BK512 := bB_ BK512 hb; clear n1_; (try clear hb); (try clear hb2); (try clear hk); (try clear hi); obtain ⟨hcz12_0, hcz12_1, hcz12_2, hcz12_3, hcz12_4, hcz12_5, hcz12_6, hfz12_0, hfz12_1, hfz12_2, hfz12_3, hfz12_4, hfz12_5, hfz12_6⟩ := cz7_ (w := w11) BK512) | (go_at_call 30; (with_reducible refine (lodgerref05_Many.calls k a0_0 a0_1 t514 _ A5.out).mono ?_); rintro e w13 ⟨rfl, hb⟩; have n1_ := Aside0.mk (below_step (hB_ HB) hb); clear HB; have HB := n1_; replace BK512 := bB_ BK512 hb; clear n1_; (try clear hb); (try clear hb2); (try clear hk); (try clear hi); obtain ⟨hcz14_0, hcz14_1, hcz14_2, hcz14_3, hcz14_4, hcz14_5, hcz14_6, hfz14_0, hfz14_1, hfz14_2, hfz14_3, hfz14_4, hfz14_5, hfz14_6⟩ := cz7_ (w := w13) BK512) | (go_at_call 20; (with_reducible refine (lodgerref09_May.calls k a0_0 a0_1 _ _ l0_2 a0_3 a0_4 a0_5 a0_6 _ _ l1 t515 _ ?side1 ?side2 ?side3 ?side4 A8.out).mono ?_); (case side1 => exact cC_ HR0_2 HB); (case side2 => exact HC0_2.out); (case side3 => exact cC_ HR1 HB); (case side4 => exact HC1.out); rintro e w15 ⟨rfl, hb⟩; have n1_ := Aside0.mk (below_step (hB_ HB) hb); clear HB; have HB := n1_; replace BK512 := bB_ BK512 hb; clear n1_; (try clear hb); (try clear hb2); (try clear hk); (try clear hi)))
    go_ret
    exact ⟨er_, hB_ HB⟩
   ·rw [if_neg c7] at H
    have c7b0 : decide ((l1.length : Int) ≤ 300) = false := decide_eq_false c7
    have c7b1 : decide (l1.length ≤ 300) = false := decide_eq_false (by omega)
    clear c7
    obtain rfl := Option.some.inj H
    go_enter Tryd.func10, Tryd.ntmps10
    go_wp2_with (first | ((with_reducible refine gate_dst (N := 2) rfl ?_); (try (refine gate_guard (by rfl) ?_; dsimp only)); refine box_event ?hg (N := 2) ?hd (cs := #[.int .u32 a0_0, .int .i64 a0_1, .slice A0_2 l0_2.length c0_2, .int .i64 a0_3, .int .i64 a0_4, .int .i64 a0_5, .int .i64 a0_6]) (t := 27) ?hr ?_; (case hd => rfl); (case hg => rfl); (case hr => first | (go_simp; done) | (go_simp; rfl)); intro gb512 hg w16 hbox hb; have n1_ := Aside0.mk (hbox); have n2_ := gG_ (w := w) hg HB; have n3_ := gG_ (w := w) hg HB; have BK512 := n1_; have GW512 := n2_; have GE512 := n3_; replace HB := hS_ HB hb; clear n1_ n2_ n3_; clear hb hbox hg; obtain ⟨hcz17_0, hcz17_1, hcz17_2, hcz17_3, hcz17_4, hcz17_5, hcz17_6, hfz17_0, hfz17_1, hfz17_2, hfz17_3, hfz17_4, hfz17_5, hfz17_6⟩ := cz7_ (w := w16) BK512) | ((with_reducible refine gate_callee (f := 29) rfl ?_); refine goesL_ (some 6) rfl rfl Tryd.func29 (by kernel_rfl) rfl #[.agg #[.int .u32 a0_0, .int .i64 a0_1, .slice A0_2 l0_2.length c0_2, .int .i64 a0_3, .int .i64 a0_4, .int .i64 a0_5, .int .i64 a0_6]] rfl am_ ?_; (with_reducible refine (lodgerref05_May.calls k a0_0 a0_1 _ _ l0_2 a0_3 a0_4 a0_5 a0_6 true _ ?side1 ?side2 A3.out).mono ?_); (case side1 => exact cC_ HR0_2 HB); (case side2 => exact HC0_2.out); rintro e w18 ⟨rfl, hb⟩; refine ⟨_, rfl, ?_⟩; have n1_ := Aside0.mk (below_step (hB_ HB) hb); clear HB; have HB := n1_; replace BK512 := bB_ BK512 hb; clear n1_; (try clear hb); (try clear hb2); (try clear hk); (try clear hi); obtain ⟨hcz19_0, hcz19_1, hcz19_2, hcz19_3, hcz19_4, hcz19_5, hcz19_6, hfz19_0, hfz19_1, hfz19_2, hfz19_3, hfz19_4, hfz19_5, hfz19_6⟩ := cz7_ (w := w18) BK512) | (go_at_call 30; (with_reducible refine (lodgerref05_Many.calls k a0_0 a0_1 t514 _ A5.out).mono ?_); rintro e w20 ⟨rfl, hb⟩; have n1_ := Aside0.mk (below_step (hB_ HB) hb); clear HB; have HB := n1_; replace BK512 := bB_ BK512 hb; clear n1_; (try clear hb); (try clear hb2); (try clear hk); (try clear hi)))
    go_ret
    exact ⟨er_, hB_ HB⟩
  ·rw [if_neg c6] at H
   have c6b0 : decide (t514 ≤ 256) = false := decide_eq_false c6
   clear c6
   obtain rfl := Option.some.inj H
   go_enter Tryd.func10, Tryd.ntmps10
   go_wp2_with (first | ((with_reducible refine gate_dst (N := 2) rfl ?_); (try (refine gate_guard (by rfl) ?_; dsimp only)); refine box_event ?hg (N := 2) ?hd (cs := #[.int .u32 a0_0, .int .i64 a0_1, .slice A0_2 l0_2.length c0_2, .int .i64 a0_3, .int .i64 a0_4, .int .i64 a0_5, .int .i64 a0_6]) (t := 27) ?hr ?_; (case hd => rfl); (case hg => rfl); (case hr => first | (go_simp; done) | (go_simp; rfl)); intro gb512 hg w21 hbox hb; have n1_ := Aside0.mk (hbox); have n2_ := gG_ (w := w) hg HB; have n3_ := gG_ (w := w) hg HB; have BK512 := n1_; have GW512 := n2_; have GE512 := n3_; replace HB := hS_ HB hb; clear n1_ n2_ n3_; clear hb hbox hg; obtain ⟨hcz22_0, hcz22_1, hcz22_2, hcz22_3, hcz22_4, hcz22_5, hcz22_6, hfz22_0, hfz22_1, hfz22_2, hfz22_3, hfz22_4, hfz22_5, hfz22_6⟩ := cz7_ (w := w21) BK512) | ((with_reducible refine gate_callee (f := 29) rfl ?_); refine goesL_ (some 6) rfl rfl Tryd.func29 (by kernel_rfl) rfl #[.agg #[.int .u32 a0_0, .int .i64 a0_1, .slice A0_2 l0_2.length c0_2, .int .i64 a0_3, .int .i64 a0_4, .int .i64 a0_5, .int .i64 a0_6]] rfl am_ ?_; (with_reducible refine (lodgerref05_May.calls k a0_0 a0_1 _ _ l0_2 a0_3 a0_4 a0_5 a0_6 true _ ?side1 ?side2 A3.out).mono ?_); (case side1 => exact cC_ HR0_2 HB); (case side2 => exact HC0_2.out); rintro e w23 ⟨rfl, hb⟩; refine ⟨_, rfl, ?_⟩; have n1_ := Aside0.mk (below_step (hB_ HB) hb); clear HB; have HB := n1_; replace BK512 := bB_ BK512 hb; clear n1_; (try clear hb); (try clear hb2); (try clear hk); (try clear hi); obtain ⟨hcz24_0, hcz24_1, hcz24_2, hcz24_3, hcz24_4, hcz24_5, hcz24_6, hfz24_0, hfz24_1, hfz24_2, hfz24_3, hfz24_4, hfz24_5, hfz24_6⟩ := cz7_ (w := w23) BK512) | (go_at_call 30; (with_reducible refine (lodgerref05_Many.calls k a0_0 a0_1 t514 _ A5.out).mono ?_); rintro e w25 ⟨rfl, hb⟩; have n1_ := Aside0.mk (below_step (hB_ HB) hb); clear HB; have HB := n1_; replace BK512 := bB_ BK512 hb; clear n1_; (try clear hb); (try clear hb2); (try clear hk); (try clear hi)))
   go_ret
   exact ⟨er_, hB_ HB⟩
 ·replace c4 := Bool.eq_false_iff.mpr c4
  subst c4
  have H1 : (some false) = some r := by rw [if_neg (show ¬ (false = true) by decide)] at H; exact H
  clear H; have H := H1; clear H1
  obtain rfl := Option.some.inj H
  go_enter Tryd.func10, Tryd.ntmps10
  go_wp2_with (first | ((with_reducible refine gate_dst (N := 2) rfl ?_); (try (refine gate_guard (by rfl) ?_; dsimp only)); refine box_event ?hg (N := 2) ?hd (cs := #[.int .u32 a0_0, .int .i64 a0_1, .slice A0_2 l0_2.length c0_2, .int .i64 a0_3, .int .i64 a0_4, .int .i64 a0_5, .int .i64 a0_6]) (t := 27) ?hr ?_; (case hd => rfl); (case hg => rfl); (case hr => first | (go_simp; done) | (go_simp; rfl)); intro gb512 hg w26 hbox hb; have n1_ := Aside0.mk (hbox); have n2_ := gG_ (w := w) hg HB; have n3_ := gG_ (w := w) hg HB; have BK512 := n1_; have GW512 := n2_; have GE512 := n3_; replace HB := hS_ HB hb; clear n1_ n2_ n3_; clear hb hbox hg; obtain ⟨hcz27_0, hcz27_1, hcz27_2, hcz27_3, hcz27_4, hcz27_5, hcz27_6, hfz27_0, hfz27_1, hfz27_2, hfz27_3, hfz27_4, hfz27_5, hfz27_6⟩ := cz7_ (w := w26) BK512) | ((with_reducible refine gate_callee (f := 29) rfl ?_); refine goesL_ (some 6) rfl rfl Tryd.func29 (by kernel_rfl) rfl #[.agg #[.int .u32 a0_0, .int .i64 a0_1, .slice A0_2 l0_2.length c0_2, .int .i64 a0_3, .int .i64 a0_4, .int .i64 a0_5, .int .i64 a0_6]] rfl am_ ?_; (with_reducible refine (lodgerref05_May.calls k a0_0 a0_1 _ _ l0_2 a0_3 a0_4 a0_5 a0_6 false _ ?side1 ?side2 A3.out).mono ?_); (case side1 => exact cC_ HR0_2 HB); (case side2 => exact HC0_2.out); rintro e w28 ⟨rfl, hb⟩; refine ⟨_, rfl, ?_⟩; have n1_ := Aside0.mk (below_step (hB_ HB) hb); clear HB; have HB := n1_; replace BK512 := bB_ BK512 hb; clear n1_; (try clear hb); (try clear hb2); (try clear hk); (try clear hi)))
  go_ret
  exact ⟨er_, hB_ HB⟩

/-! ### lodgerref10_Few: function 11 -/
def lodgerref10_Few.f (a0_0 : Int) (a0_1 : Int) (l0_2 : List Int) : Option (Bool) := some (decide ((l0_2.length : Int) ≤ 100))
set_option maxHeartbeats 8000000 in
set_option maxRecDepth 100000 in
theorem lodgerref10_Few.calls (a0_0 : Int) (a0_1 : Int) (A0_2 : Option Addr) (c0_2 : Nat) (l0_2 : List Int) (r : Bool) (w : World) (hr0_2 : Kd.C (Kd.int .u32) w A0_2 l0_2.length l0_2) (hc0_2 : l0_2.length ≤ c0_2) (h : lodgerref10_Few.f a0_0 a0_1 l0_2 = some r) :
  Calls Tryd.prog 11 #[.agg #[.int .i64 a0_0, .int .u32 a0_1, .slice A0_2 l0_2.length c0_2]] w fun e w' => e = .returned (.bool r) ∧ Below w.heap.size w w' := by
 have hu30 := Tryd.underlying30
 have HR0_2 := Aside0.mk hr0_2
 have HC0_2 := Aside0.mk hc0_2
 clear hr0_2 hc0_2
 have HB := Aside0.mk (Below.refl w.heap.size w)
 have H : (some (decide ((l0_2.length : Int) ≤ 100))) = some r := h
 clear h
 obtain rfl := Option.some.inj H
 go_enter Tryd.func11, Tryd.ntmps11
 go_wp2_with (first | ((with_reducible refine gate_dst (N := 1) rfl ?_); refine box_event ?hg (N := 1) ?hd (cs := #[.int .i64 a0_0, .int .u32 a0_1, .slice A0_2 l0_2.length c0_2]) (t := 30) ?hr ?_; (case hd => rfl); (case hg => rfl); (case hr => first | (go_simp; done) | (go_simp; rfl)); intro gb516 hg w2 hbox hb; have n1_ := Aside0.mk (hbox); have n2_ := gG_ (w := w) hg HB; have n3_ := gG_ (w := w) hg HB; have BK516 := n1_; have GW516 := n2_; have GE516 := n3_; replace HB := hS_ HB hb; clear n1_ n2_ n3_; clear hb hbox hg; obtain ⟨hcz3_0, hcz3_1, hcz3_2, hfz3_0, hfz3_1, hfz3_2⟩ := cz3_ (w := w2) BK516))
 go_ret
 exact ⟨er_, hB_ HB⟩

/-! ### lodgerref11_Few: function 12 -/
def lodgerref11_Few.f (a0_0 : Int) (a0_1 : Int) (a0_2 : Bool) (l0_3 : List Int) (l0_4 : List Int) : Option (Bool) := if (l0_3.length : Int) ≤ 300 then (some (decide ((l0_4.length : Int) ≤ 300))) else (some false)
set_option maxHeartbeats 8000000 in
set_option maxRecDepth 100000 in
theorem lodgerref11_Few.calls (a0_0 : Int) (a0_1 : Int) (a0_2 : Bool) (A0_3 : Option Addr) (c0_3 : Nat) (l0_3 : List Int) (A0_4 : Option Addr) (c0_4 : Nat) (l0_4 : List Int) (r : Bool) (w : World) (hr0_3 : Kd.C (Kd.int .u32) w A0_3 l0_3.length l0_3) (hc0_3 : l0_3.length ≤ c0_3) (hr0_4 : Kd.C (Kd.int .i64) w A0_4 l0_4.length l0_4) (hc0_4 : l0_4.length ≤ c0_4) (h : lodgerref11_Few.f a0_0 a0_1 a0_2 l0_3 l0_4 = some r) :
  Calls Tryd.prog 12 #[.agg #[.int .i64 a0_0, .int .u32 a0_1, .bool a0_2, .slice A0_3 l0_3.length c0_3, .slice A0_4 l0_4.length c0_4]] w fun e w' => e = .returned (.bool r) ∧ Below w.heap.size w w' := by
 have hu34 := Tryd.underlying34
 have HR0_3 := Aside0.mk hr0_3
 have HC0_3 := Aside0.mk hc0_3
 clear hr0_3 hc0_3
 have HR0_4 := Aside0.mk hr0_4
 have HC0_4 := Aside0.mk hc0_4
 clear hr0_4 hc0_4
 have HB := Aside0.mk (Below.refl w.heap.size w)
 have H : (if (l0_3.length : Int) ≤ 300 then (some (decide ((l0_4.length : Int) ≤ 300))) else (some false)) = some r := h
 clear h
 by_cases c2 : (l0_3.length : Int) ≤ 300
 ·rw [if_pos c2] at H
  have c2b0 : decide ((l0_3.length : Int) ≤ 300) = true := decide_eq_true c2
  have c2b1 : decide (l0_3.length ≤ 300) = true := decide_eq_true (by omega)
  clear c2
  obtain rfl := Option.some.inj H
  go_enter Tryd.func12, Tryd.ntmps12
  go_wp2_with (first | ((with_reducible refine gate_dst (N := 1) rfl ?_); (try (refine gate_guard (by rfl) ?_; dsimp only)); refine box_event ?hg (N := 1) ?hd (cs := #[.int .i64 a0_0, .int .u32 a0_1, .bool a0_2, .slice A0_3 l0_3.length c0_3, .slice A0_4 l0_4.length c0_4]) (t := 34) ?hr ?_; (case hd => rfl); (case hg => rfl); (case hr => first | (go_simp; done) | (go_simp; rfl)); intro gb517 hg w3 hbox hb; have n1_ := Aside0.mk (hbox); have n2_ := gG_ (w := w) hg HB; have n3_ := gG_ (w := w) hg HB; have BK517 := n1_; have GW517 := n2_; have GE517 := n3_; replace HB := hS_ HB hb; clear n1_ n2_ n3_; clear hb hbox hg; obtain ⟨hcz4_0, hcz4_1, hcz4_2, hcz4_3, hcz4_4, hfz4_0, hfz4_1, hfz4_2, hfz4_3, hfz4_4⟩ := cz5_ (w := w3) BK517))
  go_ret
  exact ⟨er_, hB_ HB⟩
 ·rw [if_neg c2] at H
  have c2b0 : decide ((l0_3.length : Int) ≤ 300) = false := decide_eq_false c2
  have c2b1 : decide (l0_3.length ≤ 300) = false := decide_eq_false (by omega)
  clear c2
  obtain rfl := Option.some.inj H
  go_enter Tryd.func12, Tryd.ntmps12
  go_wp2_with (first | ((with_reducible refine gate_dst (N := 1) rfl ?_); (try (refine gate_guard (by rfl) ?_; dsimp only)); refine box_event ?hg (N := 1) ?hd (cs := #[.int .i64 a0_0, .int .u32 a0_1, .bool a0_2, .slice A0_3 l0_3.length c0_3, .slice A0_4 l0_4.length c0_4]) (t := 34) ?hr ?_; (case hd => rfl); (case hg => rfl); (case hr => first | (go_simp; done) | (go_simp; rfl)); intro gb517 hg w5 hbox hb; have n1_ := Aside0.mk (hbox); have n2_ := gG_ (w := w) hg HB; have n3_ := gG_ (w := w) hg HB; have BK517 := n1_; have GW517 := n2_; have GE517 := n3_; replace HB := hS_ HB hb; clear n1_ n2_ n3_; clear hb hbox hg; obtain ⟨hcz6_0, hcz6_1, hcz6_2, hcz6_3, hcz6_4, hfz6_0, hfz6_1, hfz6_2, hfz6_3, hfz6_4⟩ := cz5_ (w := w5) BK517))
  go_ret
  exact ⟨er_, hB_ HB⟩

/-! ### lodgerref09_Has: function 21 -/
def lodgerref09_Has.l0 : Nat → List Int → Int → Int → Option (Bool)
 | 0, _, _, _ => none
 | k + 1, x0, x1, x5 => if x5 < (x0.length : Int) then (if 0 ≤ x5 then (if (rd x0 x5) = x1 then (some true) else (lodgerref09_Has.l0 k x0 x1 (wrap64 (x5 + 1)))) else (none)) else (some false)
def lodgerref09_Has.f (k : Nat) (l0 : List Int) (a1 : Int) : Option (Bool) := lodgerref09_Has.l0 k l0 a1 0
theorem lodgerref09_Has.mono_l : ∀ k, (∀ y0 y1 y2, LeO (lodgerref09_Has.l0 k y0 y1 y2) (lodgerref09_Has.l0 (k + 1) y0 y1 y2))
 | 0 => fun _ _ _ r h => by simp [lodgerref09_Has.l0] at h
 | k + 1 => by
  have ih0 := lodgerref09_Has.mono_l k
  ·intro y0 y1 y2
   unfold lodgerref09_Has.l0
   repeat' first
   | (with_reducible exact ih0 _ _ _)
   | (with_reducible exact LeO.refl _)
   | (with_reducible exact LeO.none _)
   | (with_reducible refine LeO.ite ?_ ?_)
   | (with_reducible refine LeO.bind ?_ (fun _ => ?_))
   | exact ih0 _ _ _
   | exact LeO.none _
   | refine LeO.ite ?_ ?_
   | refine LeO.bind ?_ (fun _ => ?_)
theorem lodgerref09_Has.mono : ∀ a0 a1 k, LeO (lodgerref09_Has.f k a0 a1) (lodgerref09_Has.f (k + 1) a0 a1) := by
 intro a0 a1 k
 have ih0 := lodgerref09_Has.mono_l k
 unfold lodgerref09_Has.f
 repeat' first
   | (with_reducible exact ih0 _ _ _)
   | (with_reducible exact LeO.refl _)
   | (with_reducible exact LeO.none _)
   | (with_reducible refine LeO.ite ?_ ?_)
   | (with_reducible refine LeO.bind ?_ (fun _ => ?_))
   | exact ih0 _ _ _
   | exact LeO.none _
   | refine LeO.ite ?_ ?_
   | refine LeO.bind ?_ (fun _ => ?_)
set_option maxHeartbeats 8000000 in
set_option maxRecDepth 100000 in
theorem lodgerref09_Has.calls (k : Nat) (A0 : Option Addr) (c0 : Nat) (l0 : List Int) (a1 : Int) (r : Bool) (w : World) (hr0 : Kd.C (Kd.int .i64) w A0 l0.length l0) (hc0 : l0.length ≤ c0) (h : lodgerref09_Has.f k l0 a1 = some r) :
  Calls Tryd.prog 21 #[.slice A0 l0.length c0, .int .i64 a1] w fun e w' => e = .returned (.bool r) ∧ Drawn0 w w' := by
 have HR0 := Aside0.mk hr0
 have HC0 := Aside0.mk hc0
 clear hr0 hc0
 have H : (lodgerref09_Has.l0 k l0 a1 0) = some r := h
 clear h
 have H' := Aside0.mk H
 clear H
 go_enter Tryd.func21, Tryd.ntmps21
 go_wp2
 go_loopg [5] k (fun kq v5 w' => ∃ (x5_1 : Int), v5 = .int .i64 x5_1 ∧ Aside0 (lodgerref09_Has.l0 kq l0 a1 x5_1 = some r) ∧ Aside0 (kq ≤ k) ∧ Drawn0 w w')
 case atStart => exact ⟨(0), rs_, H', ⟨Nat.le_refl _⟩, by repeat (first | exact Drawn0.refl _ | apply Drawn0.step)⟩
 case round =>
  clear H'
  try clear c2
  try clear p2
  obtain ⟨x5_1, rfl, HA, HK1, ⟨m1, rfl⟩⟩ := hrel
  cases gk with
  | zero => exact absurd HA.out (by simp [lodgerref09_Has.l0])
  | succ k1 =>
   have H := HA.out; clear HA; simp only [lodgerref09_Has.l0] at H
   by_cases c3 : x5_1 < (l0.length : Int)
   ·rw [if_pos c3] at H
    have c3b0 : decide (x5_1 < (l0.length : Int)) = true := decide_eq_true c3
    clear c3
    by_cases c4 : 0 ≤ x5_1
    ·rw [if_pos c4] at H
     have c4b0 : decide (0 ≤ x5_1) = true := decide_eq_true c4
     clear c4
     by_cases c5 : (rd l0 x5_1) = a1
     ·rw [if_pos c5] at H
      have c5b0 : ((rd l0 x5_1) == a1) = true := beq_iff_eq.mpr c5
      have c5b1 : ((rd l0 x5_1) != a1) = false := bne_eq_false_iff_eq.mpr c5
      clear c5
      obtain rfl := Option.some.inj H
      have p518 : 0 ≤ (x5_1 : Int) := od_
      have q518 : x5_1 < (l0.length : Int) := od_
      obtain ⟨ad518, e518, hx518_0⟩ := Kd.at_int HR0.out x5_1 p518 q518
      cases e518
      replace p518 := eq_true p518; replace q518 := eq_true q518
      go_wp2
      go_ret
      exact ⟨by first | rfl | (simp; done) | (simp [*]; done), by repeat (first | exact Drawn0.refl _ | apply Drawn0.step)⟩
     ·rw [if_neg c5] at H
      have c5b0 : ((rd l0 x5_1) == a1) = false := beq_eq_false_iff_ne.mpr c5
      have c5b1 : ((rd l0 x5_1) != a1) = true := bne_iff_ne.mpr c5
      have H' := Aside0.mk H
      clear H
      have p518 : 0 ≤ (x5_1 : Int) := od_
      have q518 : x5_1 < (l0.length : Int) := od_
      obtain ⟨ad518, e518, hx518_0⟩ := Kd.at_int HR0.out x5_1 p518 q518
      cases e518
      replace p518 := eq_true p518; replace q518 := eq_true q518
      go_wp2
      go_roundg k1
      case measure => have := HK1.out; omega
      case rel => exact ⟨(wrap64 (x5_1 + 1)), rs_, H', ⟨by have := HK1.out; omega⟩, by repeat (first | exact Drawn0.refl _ | apply Drawn0.step)⟩
    ·rw [if_neg c4] at H
     exact absurd H (by simp)
   ·rw [if_neg c3] at H
    have c3b0 : decide (x5_1 < (l0.length : Int)) = false := decide_eq_false c3
    clear c3
    obtain rfl := Option.some.inj H
    go_wp2
    go_ret
    exact ⟨by first | rfl | (simp; done) | (simp [*]; done), by repeat (first | exact Drawn0.refl _ | apply Drawn0.step)⟩

/-! ### lodgerref09_With: function 23 -/
mutual
def lodgerref09_With.l0 : Nat → List Int → Int → List Int → Bool → Int → Option (List Int)
 | 0, _, _, _, _, _ => none
 | k + 1, x0, x1, x5, x6, x7 => if x7 < (x0.length : Int) then (if x6 = true then (lodgerref09_With.j1 k x0 x1 x5 x6 x7 false) else (if 0 ≤ x7 then (lodgerref09_With.j1 k x0 x1 x5 x6 x7 (decide ((rd x0 x7) ≥ x1))) else (none))) else (if x6 = true then (some x5) else (if x5.length < 17592186044416 then (some (x5 ++ [x1])) else (none)))
def lodgerref09_With.j1 : Nat → List Int → Int → List Int → Bool → Int → Bool → Option (List Int)
 | 0, _, _, _, _, _, _ => none
 | k + 1, x0, x1, x5, x6, x7, x23 => if x23 = true then (if 0 ≤ x7 then (if x7 < (x0.length : Int) then (if (rd x0 x7) > x1 then (if x5.length < 17592186044416 then ((some (x5 ++ [x1] : List Int)).bind fun y524 => (if y524.length < 17592186044416 then (lodgerref09_With.l0 k x0 x1 (y524 ++ [rd x0 x7]) true (wrap64 (x7 + 1))) else (none))) else (none)) else (if x5.length < 17592186044416 then (lodgerref09_With.l0 k x0 x1 (x5 ++ [rd x0 x7]) true (wrap64 (x7 + 1))) else (none))) else (none)) else (none)) else (if 0 ≤ x7 then (if x7 < (x0.length : Int) then (if x5.length < 17592186044416 then (lodgerref09_With.l0 k x0 x1 (x5 ++ [rd x0 x7]) x6 (wrap64 (x7 + 1))) else (none)) else (none)) else (none))
end
def lodgerref09_With.f (k : Nat) (l0 : List Int) (a1 : Int) : Option (List Int) := lodgerref09_With.l0 k l0 a1 ([] : List Int) false 0
theorem lodgerref09_With.mono_l : ∀ k, (∀ y0 y1 y2 y3 y4, LeO (lodgerref09_With.l0 k y0 y1 y2 y3 y4) (lodgerref09_With.l0 (k + 1) y0 y1 y2 y3 y4)) ∧ (∀ y0 y1 y2 y3 y4 y5, LeO (lodgerref09_With.j1 k y0 y1 y2 y3 y4 y5) (lodgerref09_With.j1 (k + 1) y0 y1 y2 y3 y4 y5))
 | 0 => ⟨fun _ _ _ _ _ r h => by simp [lodgerref09_With.l0] at h, fun _ _ _ _ _ _ r h => by simp [lodgerref09_With.j1] at h⟩
 | k + 1 => by
  obtain ⟨ih0, ih1⟩ := lodgerref09_With.mono_l k
  refine ⟨?_, ?_⟩
  ·intro y0 y1 y2 y3 y4
   unfold lodgerref09_With.l0
   repeat' first
   | (with_reducible exact ih0 _ _ _ _ _)
   | (with_reducible exact ih1 _ _ _ _ _ _)
   | (with_reducible exact LeO.refl _)
   | (with_reducible exact LeO.none _)
   | (with_reducible refine LeO.ite ?_ ?_)
   | (with_reducible refine LeO.bind ?_ (fun _ => ?_))
   | exact ih0 _ _ _ _ _
   | exact ih1 _ _ _ _ _ _
   | exact LeO.none _
   | refine LeO.ite ?_ ?_
   | refine LeO.bind ?_ (fun _ => ?_)
  ·intro y0 y1 y2 y3 y4 y5
   unfold lodgerref09_With.j1
   repeat' first
   | (with_reducible exact ih0 _ _ _ _ _)
   | (with_reducible exact ih1 _ _ _ _ _ _)
   | (with_reducible exact LeO.refl _)
   | (with_reducible exact LeO.none _)
   | (with_reducible refine LeO.ite ?_ ?_)
   | (with_reducible refine LeO.bind ?_ (fun _ => ?_))
   | exact ih0 _ _ _ _ _
   | exact ih1 _ _ _ _ _ _
   | exact LeO.none _
   | refine LeO.ite ?_ ?_
   | refine LeO.bind ?_ (fun _ => ?_)
theorem lodgerref09_With.mono : ∀ a0 a1 k, LeO (lodgerref09_With.f k a0 a1) (lodgerref09_With.f (k + 1) a0 a1) := by
 intro a0 a1 k
 obtain ⟨ih0, ih1⟩ := lodgerref09_With.mono_l k
 unfold lodgerref09_With.f
 repeat' first
   | (with_reducible exact ih0 _ _ _ _ _)
   | (with_reducible exact ih1 _ _ _ _ _ _)
   | (with_reducible exact LeO.refl _)
   | (with_reducible exact LeO.none _)
   | (with_reducible refine LeO.ite ?_ ?_)
   | (with_reducible refine LeO.bind ?_ (fun _ => ?_))
   | exact ih0 _ _ _ _ _
   | exact ih1 _ _ _ _ _ _
   | exact LeO.none _
   | refine LeO.ite ?_ ?_
   | refine LeO.bind ?_ (fun _ => ?_)
set_option maxHeartbeats 8000000 in
set_option maxRecDepth 100000 in
theorem lodgerref09_With.calls (k : Nat) (A0 : Option Addr) (c0 : Nat) (l0 : List Int) (a1 : Int) (r : List Int) (w : World) (hr0 : Kd.C (Kd.int .i64) w A0 l0.length l0) (hc0 : l0.length ≤ c0) (h : lodgerref09_With.f k l0 a1 = some r) :
  Calls Tryd.prog 23 #[.slice A0 l0.length c0, .int .i64 a1] w fun e w' => ∃ v0_ : Value, e = .returned (v0_) ∧ Kd.R (Kd.int .i64) 3 w' w.heap.size (fun _ => True) v0_ r ∧ Below w.heap.size w w' := by
 have HR0 := Aside0.mk hr0
 have HC0 := Aside0.mk hc0
 clear hr0 hc0
 have HB := Aside0.mk (Below.refl w.heap.size w)
 have H : (lodgerref09_With.l0 k l0 a1 ([] : List Int) false 0) = some r := h
 clear h
 have H' := Aside0.mk H
 clear H
 go_enter Tryd.func23, Tryd.ntmps23
 go_wp2
 go_loopg [5, 6, 7] k (fun kq v5 v6 v7 w' => ∃ (x5_1 : List Int) (x6_1 : Bool) (x7_1 : Int), v6 = .bool x6_1 ∧ v7 = .int .i64 x7_1 ∧ Aside0 (lodgerref09_With.l0 kq l0 a1 x5_1 x6_1 x7_1 = some r) ∧ Aside0 (kq ≤ k) ∧ Aside0 (Kd.R (Kd.int .i64) 3 w' w.heap.size (fun _ => True) v5 x5_1) ∧ Aside0 (Below w.heap.size w w'))
 case atStart => exact ⟨(([] : List Int)), (false), (0), rs_, rs_, H', ⟨Nat.le_refl _⟩, ⟨by first | exact Kd.R_nil _ _ _ _ _ | exact Kd.N_nil _ _ _ _ _ | exact Kd.V_nil _ _ _ _ _ | exact Kd.Q_nil _ _ _ _ _ | exact Kd.S_nil _ _ _ _ _⟩, ⟨hB_ HB⟩⟩
 case round =>
  clear H'
  try clear c2
  try clear p2
  obtain ⟨x5_1, x6_1, x7_1, rfl, rfl, HA, HK1, HO_5, HB⟩ := hrel
  cases gk with
  | zero => exact absurd HA.out (by simp [lodgerref09_With.l0])
  | succ k1 =>
   have H := HA.out; clear HA; simp only [lodgerref09_With.l0] at H
   by_cases c3 : x7_1 < (l0.length : Int)
   ·rw [if_pos c3] at H
    have c3b0 : decide (x7_1 < (l0.length : Int)) = true := decide_eq_true c3
    clear c3; have HC4 := Aside0.mk H; clear H
    go_upto_region 6 with (fail)
    go_cut [23] (fun v23 wc => ∃ (kq : Nat) (x23_3 : Bool), v23 = .bool x23_3 ∧ Aside0 (lodgerref09_With.j1 kq l0 a1 x5_1 x6_1 x7_1 x23_3 = some r) ∧ Aside0 (kq ≤ k1) ∧ Aside0 (Kd.R (Kd.int .i64) 3 wc w.heap.size (fun _ => True) u5 x5_1) ∧ Aside0 (Below w.heap.size w wc))
    case first =>
     have H := HC4.out; clear HC4
     by_cases c5 : x6_1 = true
     ·subst c5
      have H1 : (lodgerref09_With.j1 k1 l0 a1 x5_1 true x7_1 false) = some r := by rw [if_pos rfl] at H; exact H
      clear H; have H := H1; clear H1
      have H' := Aside0.mk H
      clear H
      go_wp2
      go_meet
      case rel => exact ⟨_, (false), rs_, H', ⟨by have := HK1.out; first | omega | exact Nat.le_refl _⟩, ⟨by (with_reducible repeat (first | apply Kd.R_alloc | apply Kd.R_drewN | apply Kd.R_drew)); exact HO_5.out⟩, ⟨hB_ HB⟩⟩
     ·replace c5 := Bool.eq_false_iff.mpr c5
      subst c5
      have H1 : (if 0 ≤ x7_1 then (lodgerref09_With.j1 k1 l0 a1 x5_1 false x7_1 (decide ((rd l0 x7_1) ≥ a1))) else (none)) = some r := by rw [if_neg (show ¬ (false = true) by decide)] at H; exact H
      clear H; have H := H1; clear H1
      by_cases c6 : 0 ≤ x7_1
      ·rw [if_pos c6] at H
       have c6b0 : decide (0 ≤ x7_1) = true := decide_eq_true c6
       clear c6
       (first | rw [c6b0] | (simp only [i64_w, i32_w]; rw [c6b0]) | skip)
       have H' := Aside0.mk H
       clear H
       have p522 : 0 ≤ (x7_1 : Int) := od_
       have q522 : x7_1 < (l0.length : Int) := od_
       obtain ⟨ad522, e522, hx522_0⟩ := Kd.at_int HR0.out x7_1 p522 q522
       cases e522
       replace hx522_0 := (HB.out.cell (World.block_lt_of_cell? w _ hx522_0)).trans hx522_0; replace p522 := eq_true p522; replace q522 := eq_true q522
       go_wp2
       go_meet
       case rel => exact ⟨_, (decide ((rd l0 x7_1) ≥ a1)), rs_, H', ⟨by have := HK1.out; first | omega | exact Nat.le_refl _⟩, ⟨by (with_reducible repeat (first | apply Kd.R_alloc | apply Kd.R_drewN | apply Kd.R_drew)); exact HO_5.out⟩, ⟨hB_ HB⟩⟩
      ·rw [if_neg c6] at H
       exact absurd H (by simp)
    case rest =>
     clear HC4
     try clear c2
     try clear p2
     try clear c3
     try clear c3b0
     try clear c5
     try clear p5
     try clear q5
     try clear hx5
     try clear c6
     try clear c6b0
     try clear hx522_0
     try clear p2
     try clear p522
     try clear q522
     obtain ⟨kq, x23_3, rfl, HA, HJ3, HO_5, HB⟩ := hcut
     cases kq with
     | zero => exact absurd HA.out (by simp [lodgerref09_With.j1])
     | succ kj3 =>
      have H := HA.out; clear HA; simp only [lodgerref09_With.j1] at H
      by_cases c7 : x23_3 = true
      ·subst c7
       have H1 : (if 0 ≤ x7_1 then (if x7_1 < (l0.length : Int) then (if (rd l0 x7_1) > a1 then (if x5_1.length < 17592186044416 then ((some (x5_1 ++ [a1] : List Int)).bind fun y524 => (if y524.length < 17592186044416 then (lodgerref09_With.l0 kj3 l0 a1 (y524 ++ [rd l0 x7_1]) true (wrap64 (x7_1 + 1))) else (none))) else (none)) else (if x5_1.length < 17592186044416 then (lodgerref09_With.l0 kj3 l0 a1 (x5_1 ++ [rd l0 x7_1]) true (wrap64 (x7_1 + 1))) else (none))) else (none)) else (none)) = some r := by rw [if_pos rfl] at H; exact H
       clear H; have H := H1; clear H1
       by_cases c8 : 0 ≤ x7_1
       ·rw [if_pos c8] at H
        have c8b0 : decide (0 ≤ x7_1) = true := decide_eq_true c8
        clear c8
        by_cases c9 : x7_1 < (l0.length : Int)
        ·rw [if_pos c9] at H
         have c9b0 : decide (x7_1 < (l0.length : Int)) = true := decide_eq_true c9
         clear c9
         by_cases c10 : (rd l0 x7_1) > a1
         ·rw [if_pos c10] at H
          have c10b0 : decide (a1 < (rd l0 x7_1)) = true := decide_eq_true c10
          clear c10
          by_cases c11 : x5_1.length < 17592186044416
          ·rw [if_pos c11] at H
           have LMc11 := Aside0.mk c11; clear c11; obtain ⟨y524, hy524⟩ : ∃ y_ : List Int, y_ = (x5_1 ++ [a1]) := ⟨_, rfl⟩
           replace H : (if y524.length < 17592186044416 then (lodgerref09_With.l0 kj3 l0 a1 (y524 ++ [rd l0 x7_1]) true (wrap64 (x7_1 + 1))) else (none)) = some r := by first | (rw [hy524]; with_reducible exact H) | (have H2_ := (Option.bind_some _ _).symm.trans H; rw [hy524]; with_reducible exact H2_) | (have H2_ := (Option.bind_some _ _).symm.trans H; with_reducible exact H2_) | with_reducible exact H | (rw [hy524]; exact H) | exact H
           have Ny524 := Aside0.mk hy524; clear hy524
           by_cases c12 : y524.length < 17592186044416
           ·rw [if_pos c12] at H
            have LMc12 := Aside0.mk c12; clear c12; obtain ⟨y528, hy528⟩ : ∃ y_ : List Int, y_ = (y524 ++ [rd l0 x7_1]) := ⟨_, rfl⟩
            replace H : (lodgerref09_With.l0 kj3 l0 a1 y528 true (wrap64 (x7_1 + 1))) = some r := by first | (rw [hy528]; with_reducible exact H) | (have H2_ := (Option.bind_some _ _).symm.trans H; rw [hy528]; with_reducible exact H2_) | (have H2_ := (Option.bind_some _ _).symm.trans H; with_reducible exact H2_) | with_reducible exact H | (rw [hy528]; exact H) | exact H
            have Ny528 := Aside0.mk hy528; clear hy528
            have H' := Aside0.mk H
            clear H
            have p523 : 0 ≤ (x7_1 : Int) := od_
            have q523 : x7_1 < (l0.length : Int) := od_
            obtain ⟨ad523, e523, hx523_0⟩ := Kd.at_int HR0.out x7_1 p523 q523
            cases e523
            replace hx523_0 := (HB.out.cell (World.block_lt_of_cell? w _ hx523_0)).trans hx523_0; replace p523 := eq_true p523; replace q523 := eq_true q523
            go_wp2_with (first | ((with_reducible refine gate_builtin (b := .append) (xs := #[.tmp 30, .tmp 32]) rfl ?_); at_builtin; refine Kd.R_append (Kd.int .i64) (w0 := w) w.heap.size rfl (.tmp 30) (.tmp 32) 25 3 (.int .i64 0) 8 rfl Tryd.underlying25 info3 rfl (by decide) (by omega) u5 x5_1 a1 [.int .i64 a1] (fun _ => True) (fun _ => False) rfl rfl ?aP (fun _ hk => hk.elim) ?aF ?aO ?aB ?aS ?aL ?_; (case aP => exact rfl); (case aB => exact (hB_ HB)); (case aF => exact (fun _ _ => trivial)); (case aO => exact (rR_ HO_5)); (case aS => exact (below_size (hB_ HB))); (case aL => have := LMc11.out; omega); intro v525 w13 ho hb hg hat; rw [← Ny524.out] at ho; have n0_ := Aside0.mk (hb); have n1_ := Aside0.mk (ho); clear HB; clear HO_5; have HB := n0_; have HO526 := n1_; clear n0_ n1_; clear ho hb hg hat; have p527 : 0 ≤ (x7_1 : Int) := od_; have q527 : x7_1 < (l0.length : Int) := od_; obtain ⟨ad527, e527, hx527_0⟩ := Kd.at_int HR0.out x7_1 p527 q527; obtain rfl : ad523 = ad527 := (by injection e527); replace hx527_0 := (HB.out.cell (World.block_lt_of_cell? w _ hx527_0)).trans hx527_0; replace p527 := eq_true p527; replace q527 := eq_true q527) | ((with_reducible refine gate_builtin (b := .append) (xs := #[.tmp 34, .tmp 39]) rfl ?_); at_builtin; refine Kd.R_append (Kd.int .i64) (w0 := w) w.heap.size rfl (.tmp 34) (.tmp 39) 25 3 (.int .i64 0) 8 rfl Tryd.underlying25 info3 rfl (by decide) (by omega) v525 y524 (rd l0 x7_1) [.int .i64 (rd l0 x7_1)] (fun _ => True) (fun _ => False) rfl rfl ?aP (fun _ hk => hk.elim) ?aF ?aO ?aB ?aS ?aL ?_; (case aP => exact rfl); (case aB => exact (hB_ HB)); (case aF => exact (fun _ _ => trivial)); (case aO => exact (rR_ HO526)); (case aS => exact (below_size (hB_ HB))); (case aL => have := LMc12.out; omega); intro v529 w14 ho hb hg hat; rw [← Ny528.out] at ho; have n0_ := Aside0.mk (hb); have n1_ := Aside0.mk (ho); clear HB; clear HO526; have HB := n0_; have HO530 := n1_; clear n0_ n1_; clear ho hb hg hat))
            go_roundg kj3
            case measure => have := HK1.out; have := HJ3.out; omega
            case rel => exact ⟨(y528), (true), (wrap64 (x7_1 + 1)), rs_, rs_, H', ⟨by have := HK1.out; have := HJ3.out; omega⟩, ⟨by (with_reducible repeat (first | apply Kd.R_alloc | apply Kd.R_drewN | apply Kd.R_drew)); exact HO530.out⟩, ⟨hB_ HB⟩⟩
           ·rw [if_neg c12] at H
            exact absurd H (by simp)
          ·rw [if_neg c11] at H
           exact absurd H (by simp)
         ·rw [if_neg c10] at H
          have c10b0 : decide (a1 < (rd l0 x7_1)) = false := decide_eq_false c10
          clear c10
          by_cases c15 : x5_1.length < 17592186044416
          ·rw [if_pos c15] at H
           have LMc15 := Aside0.mk c15; clear c15; obtain ⟨y532, hy532⟩ : ∃ y_ : List Int, y_ = (x5_1 ++ [rd l0 x7_1]) := ⟨_, rfl⟩
           replace H : (lodgerref09_With.l0 kj3 l0 a1 y532 true (wrap64 (x7_1 + 1))) = some r := by first | (rw [hy532]; with_reducible exact H) | (have H2_ := (Option.bind_some _ _).symm.trans H; rw [hy532]; with_reducible exact H2_) | (have H2_ := (Option.bind_some _ _).symm.trans H; with_reducible exact H2_) | with_reducible exact H | (rw [hy532]; exact H) | exact H
           have Ny532 := Aside0.mk hy532; clear hy532
           have H' := Aside0.mk H
           clear H
           have p523 : 0 ≤ (x7_1 : Int) := od_
           have q523 : x7_1 < (l0.length : Int) := od_
           obtain ⟨ad523, e523, hx523_0⟩ := Kd.at_int HR0.out x7_1 p523 q523
           cases e523
           replace hx523_0 := (HB.out.cell (World.block_lt_of_cell? w _ hx523_0)).trans hx523_0; replace p523 := eq_true p523; replace q523 := eq_true q523
           have p531 : 0 ≤ (x7_1 : Int) := od_
           have q531 : x7_1 < (l0.length : Int) := od_
           obtain ⟨ad531, e531, hx531_0⟩ := Kd.at_int HR0.out x7_1 p531 q531
           obtain rfl : ad523 = ad531 := (by injection e531)
           replace hx531_0 := (HB.out.cell (World.block_lt_of_cell? w _ hx531_0)).trans hx531_0; replace p531 := eq_true p531; replace q531 := eq_true q531
           go_wp2_with (first | ((with_reducible refine gate_builtin (b := .append) (xs := #[.tmp 34, .tmp 39]) rfl ?_); at_builtin; refine Kd.R_append (Kd.int .i64) (w0 := w) w.heap.size rfl (.tmp 34) (.tmp 39) 25 3 (.int .i64 0) 8 rfl Tryd.underlying25 info3 rfl (by decide) (by omega) u5 x5_1 (rd l0 x7_1) [.int .i64 (rd l0 x7_1)] (fun _ => True) (fun _ => False) rfl rfl ?aP (fun _ hk => hk.elim) ?aF ?aO ?aB ?aS ?aL ?_; (case aP => exact rfl); (case aB => exact (hB_ HB)); (case aF => exact (fun _ _ => trivial)); (case aO => exact (rR_ HO_5)); (case aS => exact (below_size (hB_ HB))); (case aL => have := LMc15.out; omega); intro v533 w16 ho hb hg hat; rw [← Ny532.out] at ho; have n0_ := Aside0.mk (hb); have n1_ := Aside0.mk (ho); clear HB; clear HO_5; have HB := n0_; have HO534 := n1_; clear n0_ n1_; clear ho hb hg hat))
           go_roundg kj3
           case measure => have := HK1.out; have := HJ3.out; omega
           case rel => exact ⟨(y532), (true), (wrap64 (x7_1 + 1)), rs_, rs_, H', ⟨by have := HK1.out; have := HJ3.out; omega⟩, ⟨by (with_reducible repeat (first | apply Kd.R_alloc | apply Kd.R_drewN | apply Kd.R_drew)); exact HO534.out⟩, ⟨hB_ HB⟩⟩
          ·rw [if_neg c15] at H
           exact absurd H (by simp)
        ·rw [if_neg c9] at H
         exact absurd H (by simp)
       ·rw [if_neg c8] at H
        exact absurd H (by simp)
      ·replace c7 := Bool.eq_false_iff.mpr c7
       subst c7
       have H1 : (if 0 ≤ x7_1 then (if x7_1 < (l0.length : Int) then (if x5_1.length < 17592186044416 then (lodgerref09_With.l0 kj3 l0 a1 (x5_1 ++ [rd l0 x7_1]) x6_1 (wrap64 (x7_1 + 1))) else (none)) else (none)) else (none)) = some r := by rw [if_neg (show ¬ (false = true) by decide)] at H; exact H
       clear H; have H := H1; clear H1
       by_cases c17 : 0 ≤ x7_1
       ·rw [if_pos c17] at H
        have c17b0 : decide (0 ≤ x7_1) = true := decide_eq_true c17
        clear c17
        by_cases c18 : x7_1 < (l0.length : Int)
        ·rw [if_pos c18] at H
         have c18b0 : decide (x7_1 < (l0.length : Int)) = true := decide_eq_true c18
         clear c18
         by_cases c19 : x5_1.length < 17592186044416
         ·rw [if_pos c19] at H
          have LMc19 := Aside0.mk c19; clear c19; obtain ⟨y536, hy536⟩ : ∃ y_ : List Int, y_ = (x5_1 ++ [rd l0 x7_1]) := ⟨_, rfl⟩
          replace H : (lodgerref09_With.l0 kj3 l0 a1 y536 x6_1 (wrap64 (x7_1 + 1))) = some r := by first | (rw [hy536]; with_reducible exact H) | (have H2_ := (Option.bind_some _ _).symm.trans H; rw [hy536]; with_reducible exact H2_) | (have H2_ := (Option.bind_some _ _).symm.trans H; with_reducible exact H2_) | with_reducible exact H | (rw [hy536]; exact H) | exact H
          have Ny536 := Aside0.mk hy536; clear hy536
          have H' := Aside0.mk H
          clear H
          have p535 : 0 ≤ (x7_1 : Int) := od_
          have q535 : x7_1 < (l0.length : Int) := od_
          obtain ⟨ad535, e535, hx535_0⟩ := Kd.at_int HR0.out x7_1 p535 q535
          cases e535
          replace hx535_0 := (HB.out.cell (World.block_lt_of_cell? w _ hx535_0)).trans hx535_0; replace p535 := eq_true p535; replace q535 := eq_true q535
          go_wp2_with (first | ((with_reducible refine gate_builtin (b := .append) (xs := #[.tmp 34, .tmp 39]) rfl ?_); at_builtin; refine Kd.R_append (Kd.int .i64) (w0 := w) w.heap.size rfl (.tmp 34) (.tmp 39) 25 3 (.int .i64 0) 8 rfl Tryd.underlying25 info3 rfl (by decide) (by omega) u5 x5_1 (rd l0 x7_1) [.int .i64 (rd l0 x7_1)] (fun _ => True) (fun _ => False) rfl rfl ?aP (fun _ hk => hk.elim) ?aF ?aO ?aB ?aS ?aL ?_; (case aP => exact rfl); (case aB => exact (hB_ HB)); (case aF => exact (fun _ _ => trivial)); (case aO => exact (rR_ HO_5)); (case aS => exact (below_size (hB_ HB))); (case aL => have := LMc19.out; omega); intro v537 w20 ho hb hg hat; rw [← Ny536.out] at ho; have n0_ := Aside0.mk (hb); have n1_ := Aside0.mk (ho); clear HB; clear HO_5; have HB := n0_; have HO538 := n1_; clear n0_ n1_; clear ho hb hg hat))
          go_roundg kj3
          case measure => have := HK1.out; have := HJ3.out; omega
          case rel => exact ⟨(y536), (x6_1), (wrap64 (x7_1 + 1)), rs_, rs_, H', ⟨by have := HK1.out; have := HJ3.out; omega⟩, ⟨by (with_reducible repeat (first | apply Kd.R_alloc | apply Kd.R_drewN | apply Kd.R_drew)); exact HO538.out⟩, ⟨hB_ HB⟩⟩
         ·rw [if_neg c19] at H
          exact absurd H (by simp)
        ·rw [if_neg c18] at H
         exact absurd H (by simp)
       ·rw [if_neg c17] at H
        exact absurd H (by simp)
   ·rw [if_neg c3] at H
    have c3b0 : decide (x7_1 < (l0.length : Int)) = false := decide_eq_false c3
    clear c3
    by_cases c21 : x6_1 = true
    ·subst c21
     have H1 : (some x5_1) = some r := by rw [if_pos rfl] at H; exact H
     clear H; have H := H1; clear H1
     obtain rfl := Option.some.inj H
     go_wp2
     go_ret
     exact ⟨_, er_, by (with_reducible repeat (first | apply Kd.R_alloc | apply Kd.R_drewN | apply Kd.R_drew)); exact HO_5.out, hB_ HB⟩
    ·replace c21 := Bool.eq_false_iff.mpr c21
     subst c21
     have H1 : (if x5_1.length < 17592186044416 then (some (x5_1 ++ [a1])) else (none)) = some r := by rw [if_neg (show ¬ (false = true) by decide)] at H; exact H
     clear H; have H := H1; clear H1
     by_cases c22 : x5_1.length < 17592186044416
     ·rw [if_pos c22] at H
      have LMc22 := Aside0.mk c22; clear c22; obtain ⟨y519, hy519⟩ : ∃ y_ : List Int, y_ = (x5_1 ++ [a1]) := ⟨_, rfl⟩
      replace H : (some y519) = some r := by first | (rw [hy519]; with_reducible exact H) | (have H2_ := (Option.bind_some _ _).symm.trans H; rw [hy519]; with_reducible exact H2_) | (have H2_ := (Option.bind_some _ _).symm.trans H; with_reducible exact H2_) | with_reducible exact H | (rw [hy519]; exact H) | exact H
      have Ny519 := Aside0.mk hy519; clear hy519
      obtain rfl := Option.some.inj H
      go_wp2_with (first | ((with_reducible refine gate_builtin (b := .append) (xs := #[.tmp 43, .tmp 45]) rfl ?_); at_builtin; refine Kd.R_append (Kd.int .i64) (w0 := w) w.heap.size rfl (.tmp 43) (.tmp 45) 25 3 (.int .i64 0) 8 rfl Tryd.underlying25 info3 rfl (by decide) (by omega) u5 x5_1 a1 [.int .i64 a1] (fun _ => True) (fun _ => False) rfl rfl ?aP (fun _ hk => hk.elim) ?aF ?aO ?aB ?aS ?aL ?_; (case aP => exact rfl); (case aB => exact (hB_ HB)); (case aF => exact (fun _ _ => trivial)); (case aO => exact (rR_ HO_5)); (case aS => exact (below_size (hB_ HB))); (case aL => have := LMc22.out; omega); intro v520 w23 ho hb hg hat; rw [← Ny519.out] at ho; have n0_ := Aside0.mk (hb); have n1_ := Aside0.mk (ho); clear HB; clear HO_5; have HB := n0_; have HO521 := n1_; clear n0_ n1_; clear ho hb hg hat))
      go_ret
      exact ⟨_, er_, by (with_reducible repeat (first | apply Kd.R_alloc | apply Kd.R_drewN | apply Kd.R_drew)); exact HO521.out, hB_ HB⟩
     ·rw [if_neg c22] at H
      exact absurd H (by simp)

end Go.Proofs.YtkiimboedgnoiaaDoor.PSpecLegal
