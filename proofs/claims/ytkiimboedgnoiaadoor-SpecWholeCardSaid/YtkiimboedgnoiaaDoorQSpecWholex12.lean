/- The walk of SpecWhole, part of it: what the Go functions answer; no condition. -/
import Derived.Test.YtkiimboedgnoiaaDoorQSpecWholex0
import Derived.Test.YtkiimboedgnoiaaDoorQSpecWholex1
import Derived.Test.YtkiimboedgnoiaaDoorQSpecWholex6
import Derived.Test.YtkiimboedgnoiaaDoorQSpecWholex7
import Derived.Test.YtkiimboedgnoiaaDoorQSpecWholex8
import Derived.Test.YtkiimboedgnoiaaDoorQSpecWholex9
import Derived.Test.YtkiimboedgnoiaaDoorQSpecWholex11
namespace Go.Proofs.YtkiimboedgnoiaaDoor.PSpecWhole
open Go.RowKit Go.Proofs.YtkiimboedgnoiaaDoorW.PrintWords Go.Proofs.YtkiimboedgnoiaaDoorW.PrintLast Go.Proofs.YtkiimboedgnoiaaDoorW.PrintMore
attribute [local go_sem] max2_int min2_int max_two min_two max_three min_three max_four min_four   -- for this text's walks alone
set_option linter.unusedVariables false
set_option linter.unusedSimpArgs false

/-! ### lodgerref11_Fits: function 10 -/
def lodgerref11_Fits.f (k : Nat) (a0_0 : Int) (a0_1 : Int) (l0_2 : List Int) (a0_3 : Int) (a0_4 : Int) (a0_5 : Int) (a0_6 : Int) (l1 : List Int) : Option (Bool) := (lodgerref05_May.f k a0_0 a0_1 l0_2 a0_3 a0_4 a0_5 a0_6).bind fun t513 => (if t513 = true then ((lodgerref05_Many.f k a0_0 a0_1).bind fun t514 => (if t514 ≤ 256 then (if (l1.length : Int) ≤ 300 then ((lodgerref09_May.f k a0_0 a0_1 l0_2 a0_3 a0_4 a0_5 a0_6 l1).bind fun t515 => (some t515)) else (some false)) else (some false))) else (some false))
theorem lodgerref11_Fits.mono : ∀ a0 a1 a2 a3 a4 a5 a6 a7 k, LeO (lodgerref11_Fits.f k a0 a1 a2 a3 a4 a5 a6 a7) (lodgerref11_Fits.f (k + 1) a0 a1 a2 a3 a4 a5 a6 a7) := by
 intro a0 a1 a2 a3 a4 a5 a6 a7 k
 unfold lodgerref11_Fits.f
 repeat' first
   | (with_reducible exact lodgerref05_Many.mono _ _ _)
   | (with_reducible exact lodgerref05_May.mono _ _ _ _ _ _ _ _)
   | (with_reducible exact lodgerref09_May.mono _ _ _ _ _ _ _ _ _)
   | (with_reducible exact LeO.refl _)
   | (with_reducible exact LeO.none _)
   | (with_reducible refine LeO.ite ?_ ?_)
   | (with_reducible refine LeO.bind ?_ (fun _ => ?_))
   | exact lodgerref05_Many.mono _ _ _
   | exact lodgerref05_May.mono _ _ _ _ _ _ _ _
   | exact lodgerref09_May.mono _ _ _ _ _ _ _ _ _
   | exact LeO.none _
   | refine LeO.ite ?_ ?_
   | refine LeO.bind ?_ (fun _ => ?_)
set_option maxHeartbeats 8000000 in
set_option maxRecDepth 100000 in
theorem lodgerref11_Fits.calls (k : Nat) (a0_0 : Int) (a0_1 : Int) (A0_2 : Option Addr) (c0_2 : Nat) (l0_2 : List Int) (a0_3 : Int) (a0_4 : Int) (a0_5 : Int) (a0_6 : Int) (A1 : Option Addr) (c1 : Nat) (l1 : List Int) (r : Bool) (w : World) (hr0_2 : Kd.C (Kd.int .i64) w A0_2 l0_2.length l0_2) (hc0_2 : l0_2.length ≤ c0_2) (hr1 : Kd.C (Kd.int .i64) w A1 l1.length l1) (hc1 : l1.length ≤ c1) (h : lodgerref11_Fits.f k a0_0 a0_1 l0_2 a0_3 a0_4 a0_5 a0_6 l1 = some r) :
  Calls Tryd.prog 10 #[.agg #[.int .u32 a0_0, .int .i64 a0_1, .slice A0_2 l0_2.length c0_2, .int .i64 a0_3, .int .i64 a0_4, .int .i64 a0_5, .int .i64 a0_6], .slice A1 l1.length c1] w fun e w' => e = .returned (.bool r) ∧ Below w.heap.size w w' := by
 have hu27 := Tryd.underlying27
 have hu24 := Tryd.underlying24
 have HR0_2 := Aside0.mk hr0_2
 have HC0_2 := Aside0.mk hc0_2
 clear hr0_2 hc0_2
 have HR1 := Aside0.mk hr1
 have HC1 := Aside0.mk hc1
 clear hr1 hc1
 have HB := Aside0.mk (Below.refl w.heap.size w)
 have H : ((lodgerref05_May.f k a0_0 a0_1 l0_2 a0_3 a0_4 a0_5 a0_6).bind fun t513 => (if t513 = true then ((lodgerref05_Many.f k a0_0 a0_1).bind fun t514 => (if t514 ≤ 256 then (if (l1.length : Int) ≤ 300 then ((lodgerref09_May.f k a0_0 a0_1 l0_2 a0_3 a0_4 a0_5 a0_6 l1).bind fun t515 => (some t515)) else (some false)) else (some false))) else (some false))) = some r := h
 clear h
 replace H := Option.bind_eq_some_iff.mp H
 obtain ⟨t513, A30, H⟩ := H
 replace H : (if t513 = true then ((lodgerref05_Many.f k a0_0 a0_1).bind fun t514 => (if t514 ≤ 256 then (if (l1.length : Int) ≤ 300 then ((lodgerref09_May.f k a0_0 a0_1 l0_2 a0_3 a0_4 a0_5 a0_6 l1).bind fun t515 => (some t515)) else (some false)) else (some false))) else (some false)) = some r := H
 have A3 := Aside0.mk A30
 clear A30
 by_cases c4 : t513 = true
 ·subst c4
  have H1 : ((lodgerref05_Many.f k a0_0 a0_1).bind fun t514 => (if t514 ≤ 256 then (if (l1.length : Int) ≤ 300 then ((lodgerref09_May.f k a0_0 a0_1 l0_2 a0_3 a0_4 a0_5 a0_6 l1).bind fun t515 => (some t515)) else (some false)) else (some false))) = some r := by rw [if_pos rfl] at H; exact H
  clear H
  have H := H1
  clear H1
  replace H := Option.bind_eq_some_iff.mp H
  obtain ⟨t514, A50, H⟩ := H
  replace H : (if t514 ≤ 256 then (if (l1.length : Int) ≤ 300 then ((lodgerref09_May.f k a0_0 a0_1 l0_2 a0_3 a0_4 a0_5 a0_6 l1).bind fun t515 => (some t515)) else (some false)) else (some false)) = some r := H
  have A5 := Aside0.mk A50
  clear A50
  by_cases c6 : t514 ≤ 256
  ·rw [if_pos c6] at H
   have c6b0 : decide (t514 ≤ 256) = true := decide_eq_true c6
   clear c6
   by_cases c7 : (l1.length : Int) ≤ 300
   ·rw [if_pos c7] at H
    have c7b0 : decide ((l1.length : Int) ≤ 300) = true := decide_eq_true c7
    have c7b1 : decide (l1.length ≤ 300) = true := decide_eq_true (by omega)
    clear c7
    replace H := Option.bind_eq_some_iff.mp H
    obtain ⟨t515, A80, H⟩ := H
    replace H : (some t515) = some r := H
    have A8 := Aside0.mk A80
    clear A80
    obtain rfl := Option.some.inj H
    go_enter Tryd.func10, Tryd.ntmps10
    go_wp2_with (first | ((with_reducible refine gate_dst (N := 2) rfl ?_); (try (refine gate_guard (by rfl) ?_; dsimp only)); refine box_event ?hg (N := 2) ?hd (cs := #[.int .u32 a0_0, .int .i64 a0_1, .slice A0_2 l0_2.length c0_2, .int .i64 a0_3, .int .i64 a0_4, .int .i64 a0_5, .int .i64 a0_6]) (t := 27) ?hr ?_; (case hd => rfl); (case hg => rfl); (case hr => first | (go_simp; done) | (go_simp; rfl)); intro gb512 hg w9 hbox hb; have n1_ := Aside0.mk (hbox); have n2_ := gG_ (w := w) hg HB; have n3_ := gG_ (w := w) hg HB; have BK512 := n1_; have GW512 := n2_; have GE512 := n3_; replace HB := hS_ HB hb; clear n1_ n2_ n3_; clear hb hbox hg; obtain ⟨hcz10_0, hcz10_1, hcz10_2, hcz10_3, hcz10_4, hcz10_5, hcz10_6, hfz10_0, hfz10_1, hfz10_2, hfz10_3, hfz10_4, hfz10_5, hfz10_6⟩ := cz7_ (w := w9) BK512) | ((with_reducible refine gate_callee (f := 29) rfl ?_); refine goesL_ (some 6) rfl rfl Tryd.func29 (by kernel_rfl) rfl #[.agg #[.int .u32 a0_0, .int .i64 a0_1, .slice A0_2 l0_2.length c0_2, .int .i64 a0_3, .int .i64 a0_4, .int .i64 a0_5, .int .i64 a0_6]] rfl am_ ?_; (with_reducible refine (lodgerref05_May.calls k a0_0 a0_1 _ _ l0_2 a0_3 a0_4 a0_5 a0_6 true _ ?side1 ?side2 A3.out).mono ?_); (case side1 => exact cC_ HR0_2 HB); (case side2 => exact HC0_2.out); rintro e w11 ⟨rfl, hb⟩; refine ⟨_, rfl, ?_⟩; have n1_ := Aside0.mk (below_step (hB_ HB) hb); clear HB; have HB := n1_; replace BK512 := bB_ BK512 hb; clear n1_; (try clear hb); (try clear hb2); (try clear hk); (try clear hi); obtain ⟨hcz12_0, hcz12_1, hcz12_2, hcz12_3, hcz12_4, hcz12_5, hcz12_6, hfz12_0, hfz12_1, hfz12_2, hfz12_3, hfz12_4, hfz12_5, hfz12_6⟩ := cz7_ (w := w11) BK512) | (go_at_call 30; (with_reducible refine (lodgerref05_Many.calls k a0_0 a0_1 t514 _ A5.out).mono ?_); rintro e w13 ⟨rfl, hb⟩; have n1_ := Aside0.mk (below_step (hB_ HB) hb); clear HB; have HB := n1_; replace BK512 := bB_ BK512 hb; clear n1_; (try clear hb); (try clear hb2); (try clear hk); (try clear hi); obtain ⟨hcz14_0, hcz14_1, hcz14_2, hcz14_3, hcz14_4, hcz14_5, hcz14_6, hfz14_0, hfz14_1, hfz14_2, hfz14_3, hfz14_4, hfz14_5, hfz14_6⟩ := cz7_ (w := w13) BK512) | (go_at_call 20; (with_reducible refine (lodgerref09_May.calls k a0_0 a0_1 _ _ l0_2 a0_3 a0_4 a0_5 a0_6 _ _ l1 t515 _ ?side1 ?side2 ?side3 ?side4 A8.out).mono ?_); (case side1 => exact cC_ HR0_2 HB); (case side2 => exact HC0_2.out); (case side3 => exact cC_ HR1 HB); (case side4 => exact HC1.out); rintro e w15 ⟨rfl, hb⟩; have n1_ := Aside0.mk (below_step (hB_ HB) hb); clear HB; have HB := n1_; replace BK512 := bB_ BK512 hb; clear n1_; (try clear hb); (try clear hb2); (try clear hk); (try clear hi)))
    go_ret
    exact ⟨er_, hB_ HB⟩
   ·rw [if_neg c7] at H
    have c7b0 : decide ((l1.length : Int) ≤ 300) = false := decide_eq_false c7
    have c7b1 : decide (l1.length ≤ 300) = false := decide_eq_false (by omega)
    clear c7
    obtain rfl := Option.some.inj H
    go_enter Tryd.func10, Tryd.ntmps10
    go_wp2_with (first | ((with_reducible refine gate_dst (N := 2) rfl ?_); (try (refine gate_guard (by rfl) ?_; dsimp only)); refine box_event ?hg (N := 2) ?hd (cs := #[.int .u32 a0_0, .int .i64 a0_1, .slice A0_2 l0_2.length c0_2, .int .i64 a0_3, .int .i64 a0_4, .int .i64 a0_5, .int .i64 a0_6]) (t := 27) ?hr ?_; (case hd => rfl); (case hg => rfl); (case hr => first | (go_simp; done) | (go_simp; rfl)); intro gb512 hg w16 hbox hb; have n1_ := Aside0.mk (hbox); have n2_ := gG_ (w := w) hg HB; have n3_ := gG_ (w := w) hg HB; have BK512 := n1_; have GW512 := n2_; have GE512 := n3_; replace HB := hS_ HB hb; clear n1_ n2_ n3_; clear hb hbox hg; obtain ⟨hcz17_0, hcz17_1, hcz17_2, hcz17_3, hcz17_4, hcz17_5, hcz17_6, hfz17_0, hfz17_1, hfz17_2, hfz17_3, hfz17_4, hfz17_5, hfz17_6⟩ := cz7_ (w := w16) BK512) | ((with_reducible refine gate_callee (f := 29) rfl ?_); refine goesL_ (some 6) rfl rfl Tryd.func29 (by kernel_rfl) rfl #[.agg #[.int .u32 a0_0, .int .i64 a0_1, .slice A0_2 l0_2.length c0_2, .int .i64 a0_3, .int .i64 a0_4, .int .i64 a0_5, .int .i64 a0_6]] rfl am_ ?_; (with_reducible refine (lodgerref05_May.calls k a0_0 a0_1 _ _ l0_2 a0_3 a0_4 a0_5 a0_6 true _ ?side1 ?side2 A3.out).mono ?_); (case side1 => exact cC_ HR0_2 HB); (case side2 => exact HC0_2.out); rintro e w18 ⟨rfl, hb⟩; refine ⟨_, rfl, ?_⟩; have n1_ := Aside0.mk (below_step (hB_ HB) hb); clear HB; have HB := n1_; replace BK512 := bB_ BK512 hb; clear n1_; (try clear hb); (try clear hb2); (try clear hk); (try clear hi); obtain ⟨hcz19_0, hcz19_1, hcz19_2, hcz19_3, hcz19_4, hcz19_5, hcz19_6, hfz19_0, hfz19_1, hfz19_2, hfz19_3, hfz19_4, hfz19_5, hfz19_6⟩ := cz7_ (w := w18) BK512) | (go_at_call 30; (with_reducible refine (lodgerref05_Many.calls k a0_0 a0_1 t514 _ A5.out).mono ?_); rintro e w20 ⟨rfl, hb⟩; have n1_ := Aside0.mk (below_step (hB_ HB) hb); clear HB; have HB := n1_; replace BK512 := bB_ BK512 hb; clear n1_; (try clear hb); (try clear hb2); (try clear hk); (try clear hi)))
    go_ret
    exact ⟨er_, hB_ HB⟩
  ·rw [if_neg c6] at H
   have c6b0 : decide (t514 ≤ 256) = false := decide_eq_false c6
   clear c6
   obtain rfl := Option.some.inj H
   go_enter Tryd.func10, Tryd.ntmps10
   go_wp2_with (first | ((with_reducible refine gate_dst (N := 2) rfl ?_); (try (refine gate_guard (by rfl) ?_; dsimp only)); refine box_event ?hg (N := 2) ?hd (cs := #[.int .u32 a0_0, .int .i64 a0_1, .slice A0_2 l0_2.length c0_2, .int .i64 a0_3, .int .i64 a0_4, .int .i64 a0_5, .int .i64 a0_6]) (t := 27) ?hr ?_; (case hd => rfl); (case hg => rfl); (case hr => first | (go_simp; done) | (go_simp; rfl)); intro gb512 hg w21 hbox hb; have n1_ := Aside0.mk (hbox); have n2_ := gG_ (w := w) hg HB; have n3_ := gG_ (w := w) hg HB; have BK512 := n1_; have GW512 := n2_; have GE512 := n3_; replace HB := hS_ HB hb; clear n1_ n2_ n3_; clear hb hbox hg; obtain ⟨hcz22_0, hcz22_1, hcz22_2, hcz22_3, hcz22_4, hcz22_5, hcz22_6, hfz22_0, hfz22_1, hfz22_2, hfz22_3, hfz22_4, hfz22_5, hfz22_6⟩ := cz7_ (w := w21) BK512) | ((with_reducible refine gate_callee (f := 29) rfl ?_); refine goesL_ (some 6) rfl rfl Tryd.func29 (by kernel_rfl) rfl #[.agg #[.int .u32 a0_0, .int .i64 a0_1, .slice A0_2 l0_2.length c0_2, .int .i64 a0_3, .int .i64 a0_4, .int .i64 a0_5, .int .i64 a0_6]] rfl am_ ?_; (with_reducible refine (lodgerref05_May.calls k a0_0 a0_1 _ _ l0_2 a0_3 a0_4 a0_5 a0_6 true _ ?side1 ?side2 A3.out).mono ?_); (case side1 => exact cC_ HR0_2 HB); (case side2 => exact HC0_2.out); rintro e w23 ⟨rfl, hb⟩; refine ⟨_, rfl, ?_⟩; have n1_ := Aside0.mk (below_step (hB_ HB) hb); clear HB; have HB := n1_; replace BK512 := bB_ BK512 hb; clear n1_; (try clear hb); (try clear hb2); (try clear hk); (try clear hi); obtain ⟨hcz24_0, hcz24_1, hcz24_2, hcz24_3, hcz24_4, hcz24_5, hcz24_6, hfz24_0, hfz24_1, hfz24_2, hfz24_3, hfz24_4, hfz24_5, hfz24_6⟩ := cz7_ (w := w23) BK512) | (go_at_call 30; (with_reducible refine (lodgerref05_Many.calls k a0_0 a0_1 t514 _ A5.out).mono ?_); rintro e w25 ⟨rfl, hb⟩; have n1_ := Aside0.mk (below_step (hB_ HB) hb); clear HB; have HB := n1_; replace BK512 := bB_ BK512 hb; clear n1_; (try clear hb); (try clear hb2); (try clear hk); (try clear hi)))
   go_ret
   exact ⟨er_, hB_ HB⟩
 ·replace c4 := Bool.eq_false_iff.mpr c4
  subst c4
  have H1 : (some false) = some r := by rw [if_neg (show ¬ (false = true) by decide)] at H; exact H
  clear H
  have H := H1
  clear H1
  obtain rfl := Option.some.inj H
  go_enter Tryd.func10, Tryd.ntmps10
  go_wp2_with (first | ((with_reducible refine gate_dst (N := 2) rfl ?_); (try (refine gate_guard (by rfl) ?_; dsimp only)); refine box_event ?hg (N := 2) ?hd (cs := #[.int .u32 a0_0, .int .i64 a0_1, .slice A0_2 l0_2.length c0_2, .int .i64 a0_3, .int .i64 a0_4, .int .i64 a0_5, .int .i64 a0_6]) (t := 27) ?hr ?_; (case hd => rfl); (case hg => rfl); (case hr => first | (go_simp; done) | (go_simp; rfl)); intro gb512 hg w26 hbox hb; have n1_ := Aside0.mk (hbox); have n2_ := gG_ (w := w) hg HB; have n3_ := gG_ (w := w) hg HB; have BK512 := n1_; have GW512 := n2_; have GE512 := n3_; replace HB := hS_ HB hb; clear n1_ n2_ n3_; clear hb hbox hg; obtain ⟨hcz27_0, hcz27_1, hcz27_2, hcz27_3, hcz27_4, hcz27_5, hcz27_6, hfz27_0, hfz27_1, hfz27_2, hfz27_3, hfz27_4, hfz27_5, hfz27_6⟩ := cz7_ (w := w26) BK512) | ((with_reducible refine gate_callee (f := 29) rfl ?_); refine goesL_ (some 6) rfl rfl Tryd.func29 (by kernel_rfl) rfl #[.agg #[.int .u32 a0_0, .int .i64 a0_1, .slice A0_2 l0_2.length c0_2, .int .i64 a0_3, .int .i64 a0_4, .int .i64 a0_5, .int .i64 a0_6]] rfl am_ ?_; (with_reducible refine (lodgerref05_May.calls k a0_0 a0_1 _ _ l0_2 a0_3 a0_4 a0_5 a0_6 false _ ?side1 ?side2 A3.out).mono ?_); (case side1 => exact cC_ HR0_2 HB); (case side2 => exact HC0_2.out); rintro e w28 ⟨rfl, hb⟩; refine ⟨_, rfl, ?_⟩; have n1_ := Aside0.mk (below_step (hB_ HB) hb); clear HB; have HB := n1_; replace BK512 := bB_ BK512 hb; clear n1_; (try clear hb); (try clear hb2); (try clear hk); (try clear hi)))
  go_ret
  exact ⟨er_, hB_ HB⟩

/-! ### lodgerref10_Few: function 11 -/
def lodgerref10_Few.f (a0_0 : Int) (a0_1 : Int) (l0_2 : List Int) : Option (Bool) := some (decide ((l0_2.length : Int) ≤ 100))
set_option maxHeartbeats 8000000 in
set_option maxRecDepth 100000 in
theorem lodgerref10_Few.calls (a0_0 : Int) (a0_1 : Int) (A0_2 : Option Addr) (c0_2 : Nat) (l0_2 : List Int) (r : Bool) (w : World) (hr0_2 : Kd.C (Kd.int .u32) w A0_2 l0_2.length l0_2) (hc0_2 : l0_2.length ≤ c0_2) (h : lodgerref10_Few.f a0_0 a0_1 l0_2 = some r) :
  Calls Tryd.prog 11 #[.agg #[.int .i64 a0_0, .int .u32 a0_1, .slice A0_2 l0_2.length c0_2]] w fun e w' => e = .returned (.bool r) ∧ Below w.heap.size w w' := by
 have hu30 := Tryd.underlying30
 have HR0_2 := Aside0.mk hr0_2
 have HC0_2 := Aside0.mk hc0_2
 clear hr0_2 hc0_2
 have HB := Aside0.mk (Below.refl w.heap.size w)
 have H : (some (decide ((l0_2.length : Int) ≤ 100))) = some r := h
 clear h
 obtain rfl := Option.some.inj H
 go_enter Tryd.func11, Tryd.ntmps11
 go_wp2_with (first | ((with_reducible refine gate_dst (N := 1) rfl ?_); refine box_event ?hg (N := 1) ?hd (cs := #[.int .i64 a0_0, .int .u32 a0_1, .slice A0_2 l0_2.length c0_2]) (t := 30) ?hr ?_; (case hd => rfl); (case hg => rfl); (case hr => first | (go_simp; done) | (go_simp; rfl)); intro gb516 hg w2 hbox hb; have n1_ := Aside0.mk (hbox); have n2_ := gG_ (w := w) hg HB; have n3_ := gG_ (w := w) hg HB; have BK516 := n1_; have GW516 := n2_; have GE516 := n3_; replace HB := hS_ HB hb; clear n1_ n2_ n3_; clear hb hbox hg; obtain ⟨hcz3_0, hcz3_1, hcz3_2, hfz3_0, hfz3_1, hfz3_2⟩ := cz3_ (w := w2) BK516))
 go_ret
 exact ⟨er_, hB_ HB⟩

/-! ### lodgerlaw11_SpecWhole: function 8 -/
def lodgerlaw11_SpecWhole.j0 : Nat → List Int → Int → Bool → Int → Int → List Int → Int → Int → Int → Int → Int → Int → List Int → Option (Bool)
 | 0, _, _, _, _, _, _, _, _, _, _, _, _, _ => none
 | k + 1, x1, x3, x31, x518000, x518001, x518002, x518003, x518004, x518005, x518006, x519000, x519001, x519002 => if x31 = true then ((lodgerlaw11_awake.f k).bind fun t522 => (some t522)) else ((spec_Legal.f k x518000 x518001 x518002 x518003 x518004 x518005 x518006 x1 x519000 x519001 x519002 10 0 false ([] : List Int) ([] : List Int)).bind fun bt523 => ((spec_Legal.f k x518000 x518001 x518002 x518003 x518004 x518005 x518006 x1 x519000 x519001 x519002 12 0 false ([] : List Int) ([] : List Int)).bind fun bt527 => ((spec_Legal.f k x518000 x518001 x518002 x518003 x518004 x518005 x518006 x1 x519000 x519001 x519002 11 0 false ([] : List Int) ([] : List Int)).bind fun bt531 => ((spec_Legal.f k x518000 x518001 x518002 x518003 x518004 x518005 x518006 x1 x519000 x519001 x519002 ((1 + (Int.tmod x3 12)) % 256) 1 false ([] : List Int) ([] : List Int)).bind fun bt535 => ((spec_Legal.f k x518000 x518001 x518002 x518003 x518004 x518005 x518006 x1 x519000 x519001 x519002 ((1 + (Int.tmod x3 12)) % 256) 0 false ([] : List Int) (([0] : List Int))).bind fun bt542 => (if bt523.2 = true then (if bt527.2 = true then ((lodgerref03_Ints.f k bt523.1 x1).bind fun t546 => (if t546 = true then ((lodgerref03_Ints.f k bt527.1 x1).bind fun t547 => (if t547 = true then (if (bt531.2 == (x519000 == 6)) = true then (if bt535.2 = true then (some false) else (some (!bt542.2))) else (some false)) else (some false))) else (some false))) else (some false)) else (some false)))))))
def lodgerlaw11_SpecWhole.f (k : Nat) (a0_0 : Int) (a0_1 : Int) (l0_2 : List Int) (a0_3 : Int) (a0_4 : Int) (a0_5 : Int) (a0_6 : Int) (l1 : List Int) (a2_0 : Int) (a2_1 : Int) (l2_2 : List Int) (a3 : Int) : Option (Bool) := (lodgerlaw11_awake.f k).bind fun t519 => (if t519 = true then ((lodgerref11_Fits.f k a0_0 a0_1 l0_2 a0_3 a0_4 a0_5 a0_6 l1).bind fun t520 => (if t520 = true then ((lodgerref10_Few.f a2_0 a2_1 l2_2).bind fun t521 => (lodgerlaw11_SpecWhole.j0 k l1 a3 (!t521) a0_0 a0_1 l0_2 a0_3 a0_4 a0_5 a0_6 a2_0 a2_1 l2_2)) else (lodgerlaw11_SpecWhole.j0 k l1 a3 true a0_0 a0_1 l0_2 a0_3 a0_4 a0_5 a0_6 a2_0 a2_1 l2_2))) else (lodgerlaw11_SpecWhole.j0 k l1 a3 true a0_0 a0_1 l0_2 a0_3 a0_4 a0_5 a0_6 a2_0 a2_1 l2_2))
theorem lodgerlaw11_SpecWhole.mono_l : ∀ k, (∀ y0 y1 y2 y3 y4 y5 y6 y7 y8 y9 y10 y11 y12, LeO (lodgerlaw11_SpecWhole.j0 k y0 y1 y2 y3 y4 y5 y6 y7 y8 y9 y10 y11 y12) (lodgerlaw11_SpecWhole.j0 (k + 1) y0 y1 y2 y3 y4 y5 y6 y7 y8 y9 y10 y11 y12))
 | 0 => fun _ _ _ _ _ _ _ _ _ _ _ _ _ r h => by simp [lodgerlaw11_SpecWhole.j0] at h
 | k + 1 => by
  have ih0 := lodgerlaw11_SpecWhole.mono_l k
  ·intro y0 y1 y2 y3 y4 y5 y6 y7 y8 y9 y10 y11 y12
   unfold lodgerlaw11_SpecWhole.j0
   repeat' first
   | (with_reducible exact ih0 _ _ _ _ _ _ _ _ _ _ _ _ _)
   | (with_reducible exact lodgerlaw11_awake.mono _)
   | (with_reducible exact lodgerref03_Ints.mono _ _ _)
   | (with_reducible exact lodgerref11_Fits.mono _ _ _ _ _ _ _ _ _)
   | (with_reducible exact spec_Legal.mono _ _ _ _ _ _ _ _ _ _ _ _ _ _ _ _ _)
   | (with_reducible exact LeO.refl _)
   | (with_reducible exact LeO.none _)
   | (with_reducible refine LeO.ite ?_ ?_)
   | (with_reducible refine LeO.bind ?_ (fun _ => ?_))
   | exact ih0 _ _ _ _ _ _ _ _ _ _ _ _ _
   | exact lodgerlaw11_awake.mono _
   | exact lodgerref03_Ints.mono _ _ _
   | exact lodgerref11_Fits.mono _ _ _ _ _ _ _ _ _
   | exact spec_Legal.mono _ _ _ _ _ _ _ _ _ _ _ _ _ _ _ _ _
   | exact LeO.none _
   | refine LeO.ite ?_ ?_
   | refine LeO.bind ?_ (fun _ => ?_)
theorem lodgerlaw11_SpecWhole.mono : ∀ a0 a1 a2 a3 a4 a5 a6 a7 a8 a9 a10 a11 k, LeO (lodgerlaw11_SpecWhole.f k a0 a1 a2 a3 a4 a5 a6 a7 a8 a9 a10 a11) (lodgerlaw11_SpecWhole.f (k + 1) a0 a1 a2 a3 a4 a5 a6 a7 a8 a9 a10 a11) := by
 intro a0 a1 a2 a3 a4 a5 a6 a7 a8 a9 a10 a11 k
 have ih0 := lodgerlaw11_SpecWhole.mono_l k
 unfold lodgerlaw11_SpecWhole.f
 repeat' first
   | (with_reducible exact ih0 _ _ _ _ _ _ _ _ _ _ _ _ _)
   | (with_reducible exact lodgerlaw11_awake.mono _)
   | (with_reducible exact lodgerref03_Ints.mono _ _ _)
   | (with_reducible exact lodgerref11_Fits.mono _ _ _ _ _ _ _ _ _)
   | (with_reducible exact spec_Legal.mono _ _ _ _ _ _ _ _ _ _ _ _ _ _ _ _ _)
   | (with_reducible exact LeO.refl _)
   | (with_reducible exact LeO.none _)
   | (with_reducible refine LeO.ite ?_ ?_)
   | (with_reducible refine LeO.bind ?_ (fun _ => ?_))
   | exact ih0 _ _ _ _ _ _ _ _ _ _ _ _ _
   | exact lodgerlaw11_awake.mono _
   | exact lodgerref03_Ints.mono _ _ _
   | exact lodgerref11_Fits.mono _ _ _ _ _ _ _ _ _
   | exact spec_Legal.mono _ _ _ _ _ _ _ _ _ _ _ _ _ _ _ _ _
   | exact LeO.none _
   | refine LeO.ite ?_ ?_
   | refine LeO.bind ?_ (fun _ => ?_)
set_option maxHeartbeats 8000000 in
set_option maxRecDepth 100000 in
theorem lodgerlaw11_SpecWhole.calls (k : Nat) (a0_0 : Int) (a0_1 : Int) (A0_2 : Option Addr) (c0_2 : Nat) (l0_2 : List Int) (a0_3 : Int) (a0_4 : Int) (a0_5 : Int) (a0_6 : Int) (A1 : Option Addr) (c1 : Nat) (l1 : List Int) (a2_0 : Int) (a2_1 : Int) (A2_2 : Option Addr) (c2_2 : Nat) (l2_2 : List Int) (a3 : Int) (r : Bool) (w : World) (hr0_2 : Kd.C (Kd.int .i64) w A0_2 l0_2.length l0_2) (hc0_2 : l0_2.length ≤ c0_2) (hr1 : Kd.C (Kd.int .i64) w A1 l1.length l1) (hc1 : l1.length ≤ c1) (hr2_2 : Kd.C (Kd.int .u32) w A2_2 l2_2.length l2_2) (hc2_2 : l2_2.length ≤ c2_2) (hG : Lg w) (hr_ : r = true) (h : lodgerlaw11_SpecWhole.f k a0_0 a0_1 l0_2 a0_3 a0_4 a0_5 a0_6 l1 a2_0 a2_1 l2_2 a3 = some r) :
  Calls Tryd.prog 8 #[.agg #[.int .u32 a0_0, .int .i64 a0_1, .slice A0_2 l0_2.length c0_2, .int .i64 a0_3, .int .i64 a0_4, .int .i64 a0_5, .int .i64 a0_6], .slice A1 l1.length c1, .agg #[.int .i64 a2_0, .int .u32 a2_1, .slice A2_2 l2_2.length c2_2], .int .u8 a3] w fun e w' => e = .returned (.bool r) ∧ Below w.heap.size w w' := by
 have hu27 := Tryd.underlying27
 have hu30 := Tryd.underlying30
 have hu34 := Tryd.underlying34
 have HR0_2 := Aside0.mk hr0_2
 have HC0_2 := Aside0.mk hc0_2
 clear hr0_2 hc0_2
 have HR1 := Aside0.mk hr1
 have HC1 := Aside0.mk hc1
 clear hr1 hc1
 have HR2_2 := Aside0.mk hr2_2
 have HC2_2 := Aside0.mk hc2_2
 clear hr2_2 hc2_2
 have HB := Aside0.mk (Below.refl w.heap.size w)
 have HG := Aside0.mk hG
 clear hG
 replace hr_ := Aside0.mk hr_
 have H : ((lodgerlaw11_awake.f k).bind fun t519 => (if t519 = true then ((lodgerref11_Fits.f k a0_0 a0_1 l0_2 a0_3 a0_4 a0_5 a0_6 l1).bind fun t520 => (if t520 = true then ((lodgerref10_Few.f a2_0 a2_1 l2_2).bind fun t521 => (lodgerlaw11_SpecWhole.j0 k l1 a3 (!t521) a0_0 a0_1 l0_2 a0_3 a0_4 a0_5 a0_6 a2_0 a2_1 l2_2)) else (lodgerlaw11_SpecWhole.j0 k l1 a3 true a0_0 a0_1 l0_2 a0_3 a0_4 a0_5 a0_6 a2_0 a2_1 l2_2))) else (lodgerlaw11_SpecWhole.j0 k l1 a3 true a0_0 a0_1 l0_2 a0_3 a0_4 a0_5 a0_6 a2_0 a2_1 l2_2))) = some r := h
 clear h
 have HC5 := Aside0.mk H
 clear H
 go_enter Tryd.func8, Tryd.ntmps8
 go_upto_region 1 with (first | ((with_reducible refine gate_dst (N := 4) rfl ?_); refine box_event ?hg (N := 4) ?hd (cs := #[.int .u32 a0_0, .int .i64 a0_1, .slice A0_2 l0_2.length c0_2, .int .i64 a0_3, .int .i64 a0_4, .int .i64 a0_5, .int .i64 a0_6]) (t := 27) ?hr ?_; (case hd => rfl); (case hg => rfl); (case hr => first | (go_simp; done) | (go_simp; rfl)); intro gb517 hg w6 hbox hb; have n1_ := Aside0.mk (hbox); have n2_ := gG_ (w := w) hg HB; have n3_ := gG_ (w := w) hg HB; have BK517 := n1_; have GW517 := n2_; have GE517 := n3_; replace HB := hS_ HB hb; clear n1_ n2_ n3_; clear hb hbox hg) | ((with_reducible refine gate_dst (N := 6) rfl ?_); refine box_event ?hg (N := 6) ?hd (cs := #[.int .i64 a2_0, .int .u32 a2_1, .slice A2_2 l2_2.length c2_2]) (t := 30) ?hr ?_; (case hd => rfl); (case hg => rfl); (case hr => first | (go_simp; done) | (go_simp; rfl)); intro gb518 hg w7 hbox hb; have n1_ := Aside0.mk (below_step (hB_ HB) hb); have n2_ := Aside0.mk (hbox); have n3_ := gG_ (w := w) hg HB; have n4_ := gG_ (w := w) hg HB; have n5_ := nL_ hg BK517; have n6_ := nG_ hg BK517; clear HB; have HB := n1_; have BK518 := n2_; have GW518 := n3_; have GE518 := n4_; have NB517_518 := n5_; have NB518_517 := n6_; replace BK517 := bB_ BK517 hb; clear n1_ n2_ n3_ n4_ n5_ n6_; clear hb hbox hg))
 (try simp only [Act.put, List.setIfInBounds_toArray, List.set_cons_zero, List.set_cons_succ])
 go_cut [31] (fun v31 wc => ∃ (kq : Nat) (x31_4 : Bool), v31 = .bool x31_4 ∧ Aside0 (lodgerlaw11_SpecWhole.j0 kq l1 a3 x31_4 a0_0 a0_1 l0_2 a0_3 a0_4 a0_5 a0_6 a2_0 a2_1 l2_2 = some r) ∧ Aside0 (kq ≤ k) ∧ Aside0 (wc.heap[gb517]? = some (.cells #[.int .u32 a0_0, .int .i64 a0_1, (.slice A0_2 l0_2.length c0_2), .int .i64 a0_3, .int .i64 a0_4, .int .i64 a0_5, .int .i64 a0_6] 27 (0, 0))) ∧ Aside0 (wc.heap[gb518]? = some (.cells #[.int .i64 a2_0, .int .u32 a2_1, (.slice A2_2 l2_2.length c2_2)] 30 (0, 0))) ∧ Aside0 (Below w.heap.size w wc))
 case first =>
  have H := HC5.out
  clear HC5
  replace H := Option.bind_eq_some_iff.mp H
  obtain ⟨t519, A80, H⟩ := H
  replace H : (if t519 = true then ((lodgerref11_Fits.f k a0_0 a0_1 l0_2 a0_3 a0_4 a0_5 a0_6 l1).bind fun t520 => (if t520 = true then ((lodgerref10_Few.f a2_0 a2_1 l2_2).bind fun t521 => (lodgerlaw11_SpecWhole.j0 k l1 a3 (!t521) a0_0 a0_1 l0_2 a0_3 a0_4 a0_5 a0_6 a2_0 a2_1 l2_2)) else (lodgerlaw11_SpecWhole.j0 k l1 a3 true a0_0 a0_1 l0_2 a0_3 a0_4 a0_5 a0_6 a2_0 a2_1 l2_2))) else (lodgerlaw11_SpecWhole.j0 k l1 a3 true a0_0 a0_1 l0_2 a0_3 a0_4 a0_5 a0_6 a2_0 a2_1 l2_2)) = some r := H
  have A8 := Aside0.mk A80
  clear A80
  by_cases c9 : t519 = true
  ·subst c9
   have H1 : ((lodgerref11_Fits.f k a0_0 a0_1 l0_2 a0_3 a0_4 a0_5 a0_6 l1).bind fun t520 => (if t520 = true then ((lodgerref10_Few.f a2_0 a2_1 l2_2).bind fun t521 => (lodgerlaw11_SpecWhole.j0 k l1 a3 (!t521) a0_0 a0_1 l0_2 a0_3 a0_4 a0_5 a0_6 a2_0 a2_1 l2_2)) else (lodgerlaw11_SpecWhole.j0 k l1 a3 true a0_0 a0_1 l0_2 a0_3 a0_4 a0_5 a0_6 a2_0 a2_1 l2_2))) = some r := by rw [if_pos rfl] at H; exact H
   clear H
   have H := H1
   clear H1
   replace H := Option.bind_eq_some_iff.mp H
   obtain ⟨t520, A100, H⟩ := H
   replace H : (if t520 = true then ((lodgerref10_Few.f a2_0 a2_1 l2_2).bind fun t521 => (lodgerlaw11_SpecWhole.j0 k l1 a3 (!t521) a0_0 a0_1 l0_2 a0_3 a0_4 a0_5 a0_6 a2_0 a2_1 l2_2)) else (lodgerlaw11_SpecWhole.j0 k l1 a3 true a0_0 a0_1 l0_2 a0_3 a0_4 a0_5 a0_6 a2_0 a2_1 l2_2)) = some r := H
   have A10 := Aside0.mk A100
   clear A100
   by_cases c11 : t520 = true
   ·subst c11
    have H1 : ((lodgerref10_Few.f a2_0 a2_1 l2_2).bind fun t521 => (lodgerlaw11_SpecWhole.j0 k l1 a3 (!t521) a0_0 a0_1 l0_2 a0_3 a0_4 a0_5 a0_6 a2_0 a2_1 l2_2)) = some r := by rw [if_pos rfl] at H; exact H
    clear H
    have H := H1
    clear H1
    replace H := Option.bind_eq_some_iff.mp H
    obtain ⟨t521, A120, H⟩ := H
    replace H : (lodgerlaw11_SpecWhole.j0 k l1 a3 (!t521) a0_0 a0_1 l0_2 a0_3 a0_4 a0_5 a0_6 a2_0 a2_1 l2_2) = some r := H
    have A12 := Aside0.mk A120
    clear A120
    have H' := Aside0.mk H
    clear H
    go_wp2_with (first | ((with_reducible refine gate_callee (f := 9) rfl ?_); refine goesL_ (some 19) rfl rfl Tryd.func9 (by kernel_rfl) rfl #[] rfl am_ ?_; (with_reducible refine (lodgerlaw11_awake.calls k  true _ ?side1 A8.out).mono ?_); (case side1 => exact Lg_below HG.out (hB_ HB)); rintro e w13 ⟨rfl, hb⟩; refine ⟨_, rfl, ?_⟩; have n1_ := bB_ BK518 hb; clear BK518; have BK518 := n1_; replace BK517 := bB_ BK517 hb; replace HB := hS_ HB hb; clear n1_; (try clear hb); (try clear hb2); (try clear hk); (try clear hi); have hnb14 := NB517_518.out; have hnc14 := NB518_517.out; obtain ⟨hcz15_0, hcz15_1, hcz15_2, hcz15_3, hcz15_4, hcz15_5, hcz15_6, hfz15_0, hfz15_1, hfz15_2, hfz15_3, hfz15_4, hfz15_5, hfz15_6⟩ := cz7_ (w := w13) BK517) | (go_at_call 10; (with_reducible refine (lodgerref11_Fits.calls k a0_0 a0_1 _ _ l0_2 a0_3 a0_4 a0_5 a0_6 _ _ l1 true _ ?side1 ?side2 ?side3 ?side4 A10.out).mono ?_); (case side1 => exact cC_ HR0_2 HB); (case side2 => exact HC0_2.out); (case side3 => exact cC_ HR1 HB); (case side4 => exact HC1.out); rintro e w16 ⟨rfl, hb⟩; have n1_ := bB_ BK518 hb; clear BK518; have BK518 := n1_; replace BK517 := bB_ BK517 hb; replace HB := hS_ HB hb; clear n1_; (try clear hb); (try clear hb2); (try clear hk); (try clear hi); obtain ⟨hcz17_0, hcz17_1, hcz17_2, hfz17_0, hfz17_1, hfz17_2⟩ := cz3_ (w := w16) BK518) | (go_at_call 11; (with_reducible refine (lodgerref10_Few.calls a2_0 a2_1 _ _ l2_2 t521 _ ?side1 ?side2 A12.out).mono ?_); (case side1 => exact cC_ HR2_2 HB); (case side2 => exact HC2_2.out); rintro e w18 ⟨rfl, hb⟩; have n1_ := bB_ BK518 hb; clear BK518; have BK518 := n1_; replace BK517 := bB_ BK517 hb; replace HB := hS_ HB hb; clear n1_; (try clear hb); (try clear hb2); (try clear hk); (try clear hi)))
    go_meet
    case rel => exact ⟨_, (!t521), rs_, H', ⟨by first | omega | exact Nat.le_refl _⟩, ⟨bk_ BK517⟩, ⟨bk_ BK518⟩, ⟨hB_ HB⟩⟩
   ·replace c11 := Bool.eq_false_iff.mpr c11
    subst c11
    have H1 : (lodgerlaw11_SpecWhole.j0 k l1 a3 true a0_0 a0_1 l0_2 a0_3 a0_4 a0_5 a0_6 a2_0 a2_1 l2_2) = some r := by rw [if_neg (show ¬ (false = true) by decide)] at H; exact H
    clear H
    have H := H1
    clear H1
    have H' := Aside0.mk H
    clear H
    go_wp2_with (first | ((with_reducible refine gate_callee (f := 9) rfl ?_); refine goesL_ (some 19) rfl rfl Tryd.func9 (by kernel_rfl) rfl #[] rfl am_ ?_; (with_reducible refine (lodgerlaw11_awake.calls k  true _ ?side1 A8.out).mono ?_); (case side1 => exact Lg_below HG.out (hB_ HB)); rintro e w19 ⟨rfl, hb⟩; refine ⟨_, rfl, ?_⟩; have n1_ := bB_ BK518 hb; clear BK518; have BK518 := n1_; replace BK517 := bB_ BK517 hb; replace HB := hS_ HB hb; clear n1_; (try clear hb); (try clear hb2); (try clear hk); (try clear hi); have hnb20 := NB517_518.out; have hnc20 := NB518_517.out; obtain ⟨hcz21_0, hcz21_1, hcz21_2, hcz21_3, hcz21_4, hcz21_5, hcz21_6, hfz21_0, hfz21_1, hfz21_2, hfz21_3, hfz21_4, hfz21_5, hfz21_6⟩ := cz7_ (w := w19) BK517) | (go_at_call 10; (with_reducible refine (lodgerref11_Fits.calls k a0_0 a0_1 _ _ l0_2 a0_3 a0_4 a0_5 a0_6 _ _ l1 false _ ?side1 ?side2 ?side3 ?side4 A10.out).mono ?_); (case side1 => exact cC_ HR0_2 HB); (case side2 => exact HC0_2.out); (case side3 => exact cC_ HR1 HB); (case side4 => exact HC1.out); rintro e w22 ⟨rfl, hb⟩; have n1_ := bB_ BK518 hb; clear BK518; have BK518 := n1_; replace BK517 := bB_ BK517 hb; replace HB := hS_ HB hb; clear n1_; (try clear hb); (try clear hb2); (try clear hk); (try clear hi)))
    go_meet
    case rel => exact ⟨_, (true), rs_, H', ⟨by first | omega | exact Nat.le_refl _⟩, ⟨bk_ BK517⟩, ⟨bk_ BK518⟩, ⟨hB_ HB⟩⟩
  ·replace c9 := Bool.eq_false_iff.mpr c9
   subst c9
   have H1 : (lodgerlaw11_SpecWhole.j0 k l1 a3 true a0_0 a0_1 l0_2 a0_3 a0_4 a0_5 a0_6 a2_0 a2_1 l2_2) = some r := by rw [if_neg (show ¬ (false = true) by decide)] at H; exact H
   clear H
   have H := H1
   clear H1
   have H' := Aside0.mk H
   clear H
   go_wp2_with (first | ((with_reducible refine gate_callee (f := 9) rfl ?_); refine goesL_ (some 19) rfl rfl Tryd.func9 (by kernel_rfl) rfl #[] rfl am_ ?_; (with_reducible refine (lodgerlaw11_awake.calls k  false _ ?side1 A8.out).mono ?_); (case side1 => exact Lg_below HG.out (hB_ HB)); rintro e w23 ⟨rfl, hb⟩; refine ⟨_, rfl, ?_⟩; have n1_ := bB_ BK518 hb; clear BK518; have BK518 := n1_; replace BK517 := bB_ BK517 hb; replace HB := hS_ HB hb; clear n1_; (try clear hb); (try clear hb2); (try clear hk); (try clear hi)))
   go_meet
   case rel => exact ⟨_, (true), rs_, H', ⟨by first | omega | exact Nat.le_refl _⟩, ⟨bk_ BK517⟩, ⟨bk_ BK518⟩, ⟨hB_ HB⟩⟩
 case rest =>
  clear HC5
  try clear c1
  try clear c2
  try clear p2
  try clear c8
  try clear c9
  try clear c11
  try clear c14
  try clear c20
  try clear hcz15_0 hcz15_1 hcz15_2 hcz15_3 hcz15_4 hcz15_5 hcz15_6
  try clear hcz17_0 hcz17_1 hcz17_2
  try clear hcz21_0 hcz21_1 hcz21_2 hcz21_3 hcz21_4 hcz21_5 hcz21_6
  try clear hfz15_0 hfz15_1 hfz15_2 hfz15_3 hfz15_4 hfz15_5 hfz15_6
  try clear hfz17_0 hfz17_1 hfz17_2
  try clear hfz21_0 hfz21_1 hfz21_2 hfz21_3 hfz21_4 hfz21_5 hfz21_6
  obtain ⟨kq, x31_4, rfl, HA, HJ4, BK517, BK518, HB⟩ := hcut
  cases kq with
  | zero => exact absurd HA.out (by simp [lodgerlaw11_SpecWhole.j0])
  | succ kj4 =>
   have H := HA.out
   clear HA
   simp only [lodgerlaw11_SpecWhole.j0] at H
   by_cases c24 : x31_4 = true
   ·subst c24
    have H1 : ((lodgerlaw11_awake.f kj4).bind fun t522 => (some t522)) = some r := by rw [if_pos rfl] at H; exact H
    clear H
    have H := H1
    clear H1
    replace H := Option.bind_eq_some_iff.mp H
    obtain ⟨t522, A250, H⟩ := H
    replace H : (some t522) = some r := H
    have A25 := Aside0.mk A250
    clear A250
    first | (exfalso; rw [hr_.out] at H; exact absurd (Option.some.inj H) (by decide)) | (try clear hr_)
    all_goals
     obtain rfl := Option.some.inj H
     go_wp2_with (first | ((with_reducible refine gate_callee (f := 9) rfl ?_); refine goesL_ (some 32) rfl rfl Tryd.func9 (by kernel_rfl) rfl #[] rfl am_ ?_; (with_reducible refine (lodgerlaw11_awake.calls kj4  t522 _ ?side1 A25.out).mono ?_); (case side1 => exact Lg_below HG.out (hB_ HB)); rintro e w26 ⟨rfl, hb⟩; refine ⟨_, rfl, ?_⟩; have n1_ := bB_ BK518 hb; clear BK518; have BK518 := n1_; replace BK517 := bB_ BK517 hb; replace HB := hS_ HB hb; clear n1_; (try clear hb); (try clear hb2); (try clear hk); (try clear hi)))
     go_ret
     exact ⟨er_, hB_ HB⟩
   ·replace c24 := Bool.eq_false_iff.mpr c24
    subst c24
    have H1 : ((spec_Legal.f kj4 a0_0 a0_1 l0_2 a0_3 a0_4 a0_5 a0_6 l1 a2_0 a2_1 l2_2 10 0 false ([] : List Int) ([] : List Int)).bind fun bt523 => ((spec_Legal.f kj4 a0_0 a0_1 l0_2 a0_3 a0_4 a0_5 a0_6 l1 a2_0 a2_1 l2_2 12 0 false ([] : List Int) ([] : List Int)).bind fun bt527 => ((spec_Legal.f kj4 a0_0 a0_1 l0_2 a0_3 a0_4 a0_5 a0_6 l1 a2_0 a2_1 l2_2 11 0 false ([] : List Int) ([] : List Int)).bind fun bt531 => ((spec_Legal.f kj4 a0_0 a0_1 l0_2 a0_3 a0_4 a0_5 a0_6 l1 a2_0 a2_1 l2_2 ((1 + (Int.tmod a3 12)) % 256) 1 false ([] : List Int) ([] : List Int)).bind fun bt535 => ((spec_Legal.f kj4 a0_0 a0_1 l0_2 a0_3 a0_4 a0_5 a0_6 l1 a2_0 a2_1 l2_2 ((1 + (Int.tmod a3 12)) % 256) 0 false ([] : List Int) (([0] : List Int))).bind fun bt542 => (if bt523.2 = true then (if bt527.2 = true then ((lodgerref03_Ints.f kj4 bt523.1 l1).bind fun t546 => (if t546 = true then ((lodgerref03_Ints.f kj4 bt527.1 l1).bind fun t547 => (if t547 = true then (if (bt531.2 == (a2_0 == 6)) = true then (if bt535.2 = true then (some false) else (some (!bt542.2))) else (some false)) else (some false))) else (some false))) else (some false)) else (some false))))))) = some r := by rw [if_neg (show ¬ (false = true) by decide)] at H; exact H
    clear H
    have H := H1
    clear H1
    replace H := Option.bind_eq_some_iff.mp H
    obtain ⟨⟨t523, t526⟩, A270, H⟩ := H
    replace H : ((spec_Legal.f kj4 a0_0 a0_1 l0_2 a0_3 a0_4 a0_5 a0_6 l1 a2_0 a2_1 l2_2 12 0 false ([] : List Int) ([] : List Int)).bind fun bt527 => ((spec_Legal.f kj4 a0_0 a0_1 l0_2 a0_3 a0_4 a0_5 a0_6 l1 a2_0 a2_1 l2_2 11 0 false ([] : List Int) ([] : List Int)).bind fun bt531 => ((spec_Legal.f kj4 a0_0 a0_1 l0_2 a0_3 a0_4 a0_5 a0_6 l1 a2_0 a2_1 l2_2 ((1 + (Int.tmod a3 12)) % 256) 1 false ([] : List Int) ([] : List Int)).bind fun bt535 => ((spec_Legal.f kj4 a0_0 a0_1 l0_2 a0_3 a0_4 a0_5 a0_6 l1 a2_0 a2_1 l2_2 ((1 + (Int.tmod a3 12)) % 256) 0 false ([] : List Int) (([0] : List Int))).bind fun bt542 => (if t526 = true then (if bt527.2 = true then ((lodgerref03_Ints.f kj4 t523 l1).bind fun t546 => (if t546 = true then ((lodgerref03_Ints.f kj4 bt527.1 l1).bind fun t547 => (if t547 = true then (if (bt531.2 == (a2_0 == 6)) = true then (if bt535.2 = true then (some false) else (some (!bt542.2))) else (some false)) else (some false))) else (some false))) else (some false)) else (some false)))))) = some r := H
    have A27 := Aside0.mk A270
    clear A270
    replace H := Option.bind_eq_some_iff.mp H
    obtain ⟨⟨t527, t530⟩, A280, H⟩ := H
    replace H : ((spec_Legal.f kj4 a0_0 a0_1 l0_2 a0_3 a0_4 a0_5 a0_6 l1 a2_0 a2_1 l2_2 11 0 false ([] : List Int) ([] : List Int)).bind fun bt531 => ((spec_Legal.f kj4 a0_0 a0_1 l0_2 a0_3 a0_4 a0_5 a0_6 l1 a2_0 a2_1 l2_2 ((1 + (Int.tmod a3 12)) % 256) 1 false ([] : List Int) ([] : List Int)).bind fun bt535 => ((spec_Legal.f kj4 a0_0 a0_1 l0_2 a0_3 a0_4 a0_5 a0_6 l1 a2_0 a2_1 l2_2 ((1 + (Int.tmod a3 12)) % 256) 0 false ([] : List Int) (([0] : List Int))).bind fun bt542 => (if t526 = true then (if t530 = true then ((lodgerref03_Ints.f kj4 t523 l1).bind fun t546 => (if t546 = true then ((lodgerref03_Ints.f kj4 t527 l1).bind fun t547 => (if t547 = true then (if (bt531.2 == (a2_0 == 6)) = true then (if bt535.2 = true then (some false) else (some (!bt542.2))) else (some false)) else (some false))) else (some false))) else (some false)) else (some false))))) = some r := H
    have A28 := Aside0.mk A280
    clear A280
    replace H := Option.bind_eq_some_iff.mp H
    obtain ⟨⟨t531, t534⟩, A290, H⟩ := H
    replace H : ((spec_Legal.f kj4 a0_0 a0_1 l0_2 a0_3 a0_4 a0_5 a0_6 l1 a2_0 a2_1 l2_2 ((1 + (Int.tmod a3 12)) % 256) 1 false ([] : List Int) ([] : List Int)).bind fun bt535 => ((spec_Legal.f kj4 a0_0 a0_1 l0_2 a0_3 a0_4 a0_5 a0_6 l1 a2_0 a2_1 l2_2 ((1 + (Int.tmod a3 12)) % 256) 0 false ([] : List Int) (([0] : List Int))).bind fun bt542 => (if t526 = true then (if t530 = true then ((lodgerref03_Ints.f kj4 t523 l1).bind fun t546 => (if t546 = true then ((lodgerref03_Ints.f kj4 t527 l1).bind fun t547 => (if t547 = true then (if (t534 == (a2_0 == 6)) = true then (if bt535.2 = true then (some false) else (some (!bt542.2))) else (some false)) else (some false))) else (some false))) else (some false)) else (some false)))) = some r := H
    have A29 := Aside0.mk A290
    clear A290
    replace H := Option.bind_eq_some_iff.mp H
    obtain ⟨⟨t535, t538⟩, A300, H⟩ := H
    replace H : ((spec_Legal.f kj4 a0_0 a0_1 l0_2 a0_3 a0_4 a0_5 a0_6 l1 a2_0 a2_1 l2_2 ((1 + (Int.tmod a3 12)) % 256) 0 false ([] : List Int) (([0] : List Int))).bind fun bt542 => (if t526 = true then (if t530 = true then ((lodgerref03_Ints.f kj4 t523 l1).bind fun t546 => (if t546 = true then ((lodgerref03_Ints.f kj4 t527 l1).bind fun t547 => (if t547 = true then (if (t534 == (a2_0 == 6)) = true then (if t538 = true then (some false) else (some (!bt542.2))) else (some false)) else (some false))) else (some false))) else (some false)) else (some false))) = some r := H
    have A30 := Aside0.mk A300
    clear A300
    obtain ⟨y539, hy539⟩ : ∃ y_ : List Int, y_ = (([0] : List Int)) := ⟨_, rfl⟩
    replace H : ((spec_Legal.f kj4 a0_0 a0_1 l0_2 a0_3 a0_4 a0_5 a0_6 l1 a2_0 a2_1 l2_2 ((1 + (Int.tmod a3 12)) % 256) 0 false ([] : List Int) y539).bind fun bt542 => (if t526 = true then (if t530 = true then ((lodgerref03_Ints.f kj4 t523 l1).bind fun t546 => (if t546 = true then ((lodgerref03_Ints.f kj4 t527 l1).bind fun t547 => (if t547 = true then (if (t534 == (a2_0 == 6)) = true then (if t538 = true then (some false) else (some (!bt542.2))) else (some false)) else (some false))) else (some false))) else (some false)) else (some false))) = some r := by first | (rw [hy539]; with_reducible exact H) | (have H2_ := (Option.bind_some _ _).symm.trans H; rw [hy539]; with_reducible exact H2_) | (have H2_ := (Option.bind_some _ _).symm.trans H; with_reducible exact H2_) | with_reducible exact H | (rw [hy539]; exact H) | exact H
    have Ny539 := Aside0.mk hy539
    clear hy539
    replace H := Option.bind_eq_some_iff.mp H
    obtain ⟨⟨t542, t545⟩, A310, H⟩ := H
    replace H : (if t526 = true then (if t530 = true then ((lodgerref03_Ints.f kj4 t523 l1).bind fun t546 => (if t546 = true then ((lodgerref03_Ints.f kj4 t527 l1).bind fun t547 => (if t547 = true then (if (t534 == (a2_0 == 6)) = true then (if t538 = true then (some false) else (some (!t545))) else (some false)) else (some false))) else (some false))) else (some false)) else (some false)) = some r := H
    have A31 := Aside0.mk A310
    clear A310
    by_cases c32 : t526 = true
    ·subst c32
     have H1 : (if t530 = true then ((lodgerref03_Ints.f kj4 t523 l1).bind fun t546 => (if t546 = true then ((lodgerref03_Ints.f kj4 t527 l1).bind fun t547 => (if t547 = true then (if (t534 == (a2_0 == 6)) = true then (if t538 = true then (some false) else (some (!t545))) else (some false)) else (some false))) else (some false))) else (some false)) = some r := by rw [if_pos rfl] at H; exact H
     clear H
     have H := H1
     clear H1
     by_cases c33 : t530 = true
     ·subst c33
      have H1 : ((lodgerref03_Ints.f kj4 t523 l1).bind fun t546 => (if t546 = true then ((lodgerref03_Ints.f kj4 t527 l1).bind fun t547 => (if t547 = true then (if (t534 == (a2_0 == 6)) = true then (if t538 = true then (some false) else (some (!t545))) else (some false)) else (some false))) else (some false))) = some r := by rw [if_pos rfl] at H; exact H
      clear H
      have H := H1
      clear H1
      replace H := Option.bind_eq_some_iff.mp H
      obtain ⟨t546, A340, H⟩ := H
      replace H : (if t546 = true then ((lodgerref03_Ints.f kj4 t527 l1).bind fun t547 => (if t547 = true then (if (t534 == (a2_0 == 6)) = true then (if t538 = true then (some false) else (some (!t545))) else (some false)) else (some false))) else (some false)) = some r := H
      have A34 := Aside0.mk A340
      clear A340
      by_cases c35 : t546 = true
      ·subst c35
       have H1 : ((lodgerref03_Ints.f kj4 t527 l1).bind fun t547 => (if t547 = true then (if (t534 == (a2_0 == 6)) = true then (if t538 = true then (some false) else (some (!t545))) else (some false)) else (some false))) = some r := by rw [if_pos rfl] at H; exact H
       clear H
       have H := H1
       clear H1
       replace H := Option.bind_eq_some_iff.mp H
       obtain ⟨t547, A360, H⟩ := H
       replace H : (if t547 = true then (if (t534 == (a2_0 == 6)) = true then (if t538 = true then (some false) else (some (!t545))) else (some false)) else (some false)) = some r := H
       have A36 := Aside0.mk A360
       clear A360
       by_cases c37 : t547 = true
       ·subst c37
        have H1 : (if (t534 == (a2_0 == 6)) = true then (if t538 = true then (some false) else (some (!t545))) else (some false)) = some r := by rw [if_pos rfl] at H; exact H
        clear H
        have H := H1
        clear H1
        by_cases c38 : (t534 == (a2_0 == 6)) = true
        ·rw [if_pos c38] at H
         have c38b0 : (t534 == (a2_0 == 6)) = true := c38
         (try (have c38b1 : decide (t534 = (a2_0 == 6)) = true := by simpa using c38))
         (try (have c38b2 : (t534 == (a2_0 == 6)) = true := by simpa using c38))
         clear c38
         by_cases c39 : t538 = true
         ·subst c39
          have H1 : (some false) = some r := by rw [if_pos rfl] at H; exact H
          rw [hr_.out] at H1
          exact absurd (Option.some.inj H1) (by decide)
         ·replace c39 := Bool.eq_false_iff.mpr c39
          subst c39
          have H1 : (some (!t545)) = some r := by rw [if_neg (show ¬ (false = true) by decide)] at H; exact H
          clear H
          have H := H1
          clear H1
          first | (exfalso; rw [hr_.out] at H; exact absurd (Option.some.inj H) (by decide)) | (try clear hr_)
          all_goals
           obtain rfl := Option.some.inj H
           have hnb62 := NB517_518.out
           have hnc62 := NB518_517.out
           obtain ⟨hcz63_0, hcz63_1, hcz63_2, hcz63_3, hcz63_4, hcz63_5, hcz63_6, hfz63_0, hfz63_1, hfz63_2, hfz63_3, hfz63_4, hfz63_5, hfz63_6⟩ := cz7_ (w := wc) BK517
           obtain ⟨hcz64_0, hcz64_1, hcz64_2, hfz64_0, hfz64_1, hfz64_2⟩ := cz3_ (w := wc) BK518
           go_wp2_with (first | ((with_reducible refine gate_callee (f := 13) rfl ?_); refine goesL_ (some 38) rfl rfl Tryd.func13 (by kernel_rfl) rfl #[.agg #[.int .u32 a0_0, .int .i64 a0_1, .slice A0_2 l0_2.length c0_2, .int .i64 a0_3, .int .i64 a0_4, .int .i64 a0_5, .int .i64 a0_6], .slice A1 l1.length c1, .agg #[.int .i64 a2_0, .int .u32 a2_1, .slice A2_2 l2_2.length c2_2], .agg #[.int .i64 10, .int .u32 0, .bool false, .slice none 0 0, .slice none 0 0]] rfl am_ ?_; (refine (spec_Legal.calls kj4 a0_0 a0_1 _ _ l0_2 a0_3 a0_4 a0_5 a0_6 (fun k_ => k_ < w.heap.size) _ _ l1 a2_0 a2_1 _ _ l2_2 10 0 false _ _ ([] : List Int) _ _ ([] : List Int) t523 true _ ?side1 ?side2 ?side3 ?side4 ?side5 ?side6 ?side7 ?side8 ?side9 ?side10 A27.out).mono ?_); (case side1 => exact cC_ HR0_2 HB); (case side2 => exact HC0_2.out); (case side3 => exact Kd.V_mk HC1.out (Kd.F_below (Kd.C_F (Kd.heap_int .i64) HR1.out) (hB_ HB))); (case side4 => exact cC_ HR2_2 HB); (case side5 => exact HC2_2.out); (case side6 => exact Kd.C_nil _ _); (case side7 => exact Nat.le_refl _); (case side8 => exact Kd.C_nil _ _); (case side9 => exact Nat.le_refl _); (case side10 => exact Lg_below HG.out (hB_ HB)); rintro e w65 ⟨v524, rfl, ho0, hb⟩; refine ⟨_, rfl, ?_⟩; have n0_ := Aside0.mk (Kd.V_lower (Kd.V_mono (ok' := fun k_ => k_ ≠ gb517 ∧ k_ ≠ gb518) ho0 (fun k_ hk_ => ⟨Or.elim hk_ (fun hs_ => fun e_ => Nat.not_le.2 hs_ (by rw [e_]; exact GW517.out)) (fun hn_ => (fB_ BK517 k_ hn_)), Or.elim hk_ (fun hs_ => fun e_ => Nat.not_le.2 hs_ (by rw [e_]; exact GW518.out)) (fun hn_ => (fB_ BK518 k_ hn_))⟩)) (below_size (hB_ HB))); have n2_ := bB_ BK518 hb; clear BK518; have HO525 := n0_; have BK518 := n2_; replace BK517 := bB_ BK517 hb; replace HB := hS_ HB hb; clear n0_ n2_; (try clear hb); (try clear hb2); (try clear hk); (try clear hi); (try clear ho0); obtain ⟨hcz66_0, hcz66_1, hcz66_2, hcz66_3, hcz66_4, hcz66_5, hcz66_6, hfz66_0, hfz66_1, hfz66_2, hfz66_3, hfz66_4, hfz66_5, hfz66_6⟩ := cz7_ (w := w65) BK517; obtain ⟨hcz67_0, hcz67_1, hcz67_2, hfz67_0, hfz67_1, hfz67_2⟩ := cz3_ (w := w65) BK518) | ((with_reducible refine gate_callee (f := 13) rfl ?_); refine goesL_ (some 46) rfl rfl Tryd.func13 (by kernel_rfl) rfl #[.agg #[.int .u32 a0_0, .int .i64 a0_1, .slice A0_2 l0_2.length c0_2, .int .i64 a0_3, .int .i64 a0_4, .int .i64 a0_5, .int .i64 a0_6], .slice A1 l1.length c1, .agg #[.int .i64 a2_0, .int .u32 a2_1, .slice A2_2 l2_2.length c2_2], .agg #[.int .i64 12, .int .u32 0, .bool false, .slice none 0 0, .slice none 0 0]] rfl am_ ?_; (refine (spec_Legal.calls kj4 a0_0 a0_1 _ _ l0_2 a0_3 a0_4 a0_5 a0_6 (fun k_ => k_ < w.heap.size) _ _ l1 a2_0 a2_1 _ _ l2_2 12 0 false _ _ ([] : List Int) _ _ ([] : List Int) t527 true _ ?side1 ?side2 ?side3 ?side4 ?side5 ?side6 ?side7 ?side8 ?side9 ?side10 A28.out).mono ?_); (case side1 => exact cC_ HR0_2 HB); (case side2 => exact HC0_2.out); (case side3 => exact Kd.V_mk HC1.out (Kd.F_below (Kd.C_F (Kd.heap_int .i64) HR1.out) (hB_ HB))); (case side4 => exact cC_ HR2_2 HB); (case side5 => exact HC2_2.out); (case side6 => exact Kd.C_nil _ _); (case side7 => exact Nat.le_refl _); (case side8 => exact Kd.C_nil _ _); (case side9 => exact Nat.le_refl _); (case side10 => exact Lg_below HG.out (hB_ HB)); rintro e w68 ⟨v528, rfl, ho0, hb⟩; refine ⟨_, rfl, ?_⟩; have n0_ := Aside0.mk (Kd.V_below (vV_ HO525) hb); have n1_ := Aside0.mk (Kd.V_lower (Kd.V_mono (ok' := fun k_ => k_ ≠ gb517 ∧ k_ ≠ gb518) ho0 (fun k_ hk_ => ⟨Or.elim hk_ (fun hs_ => fun e_ => Nat.not_le.2 hs_ (by rw [e_]; exact GW517.out)) (fun hn_ => (fB_ BK517 k_ hn_)), Or.elim hk_ (fun hs_ => fun e_ => Nat.not_le.2 hs_ (by rw [e_]; exact GW518.out)) (fun hn_ => (fB_ BK518 k_ hn_))⟩)) (below_size (hB_ HB))); have n3_ := bB_ BK518 hb; clear HO525; clear BK518; have HO525 := n0_; have HO529 := n1_; have BK518 := n3_; replace BK517 := bB_ BK517 hb; replace HB := hS_ HB hb; clear n0_ n1_ n3_; (try clear hb); (try clear hb2); (try clear hk); (try clear hi); (try clear ho0); obtain ⟨hcz69_0, hcz69_1, hcz69_2, hcz69_3, hcz69_4, hcz69_5, hcz69_6, hfz69_0, hfz69_1, hfz69_2, hfz69_3, hfz69_4, hfz69_5, hfz69_6⟩ := cz7_ (w := w68) BK517; obtain ⟨hcz70_0, hcz70_1, hcz70_2, hfz70_0, hfz70_1, hfz70_2⟩ := cz3_ (w := w68) BK518) | ((with_reducible refine gate_callee (f := 13) rfl ?_); refine goesL_ (some 54) rfl rfl Tryd.func13 (by kernel_rfl) rfl #[.agg #[.int .u32 a0_0, .int .i64 a0_1, .slice A0_2 l0_2.length c0_2, .int .i64 a0_3, .int .i64 a0_4, .int .i64 a0_5, .int .i64 a0_6], .slice A1 l1.length c1, .agg #[.int .i64 a2_0, .int .u32 a2_1, .slice A2_2 l2_2.length c2_2], .agg #[.int .i64 11, .int .u32 0, .bool false, .slice none 0 0, .slice none 0 0]] rfl am_ ?_; (refine (spec_Legal.calls kj4 a0_0 a0_1 _ _ l0_2 a0_3 a0_4 a0_5 a0_6 (fun k_ => k_ < w.heap.size) _ _ l1 a2_0 a2_1 _ _ l2_2 11 0 false _ _ ([] : List Int) _ _ ([] : List Int) t531 t534 _ ?side1 ?side2 ?side3 ?side4 ?side5 ?side6 ?side7 ?side8 ?side9 ?side10 A29.out).mono ?_); (case side1 => exact cC_ HR0_2 HB); (case side2 => exact HC0_2.out); (case side3 => exact Kd.V_mk HC1.out (Kd.F_below (Kd.C_F (Kd.heap_int .i64) HR1.out) (hB_ HB))); (case side4 => exact cC_ HR2_2 HB); (case side5 => exact HC2_2.out); (case side6 => exact Kd.C_nil _ _); (case side7 => exact Nat.le_refl _); (case side8 => exact Kd.C_nil _ _); (case side9 => exact Nat.le_refl _); (case side10 => exact Lg_below HG.out (hB_ HB)); rintro e w71 ⟨v532, rfl, ho0, hb⟩; refine ⟨_, rfl, ?_⟩; have n0_ := Aside0.mk (Kd.V_below (vV_ HO525) hb); have n1_ := Aside0.mk (Kd.V_below (vV_ HO529) hb); have n2_ := Aside0.mk (Kd.V_lower (Kd.V_mono (ok' := fun k_ => k_ ≠ gb517 ∧ k_ ≠ gb518) ho0 (fun k_ hk_ => ⟨Or.elim hk_ (fun hs_ => fun e_ => Nat.not_le.2 hs_ (by rw [e_]; exact GW517.out)) (fun hn_ => (fB_ BK517 k_ hn_)), Or.elim hk_ (fun hs_ => fun e_ => Nat.not_le.2 hs_ (by rw [e_]; exact GW518.out)) (fun hn_ => (fB_ BK518 k_ hn_))⟩)) (below_size (hB_ HB))); have n4_ := bB_ BK518 hb; clear HO525; clear HO529; clear BK518; have HO525 := n0_; have HO529 := n1_; have HO533 := n2_; have BK518 := n4_; replace BK517 := bB_ BK517 hb; replace HB := hS_ HB hb; clear n0_ n1_ n2_ n4_; (try clear hb); (try clear hb2); (try clear hk); (try clear hi); (try clear ho0); obtain ⟨hcz72_0, hcz72_1, hcz72_2, hcz72_3, hcz72_4, hcz72_5, hcz72_6, hfz72_0, hfz72_1, hfz72_2, hfz72_3, hfz72_4, hfz72_5, hfz72_6⟩ := cz7_ (w := w71) BK517; obtain ⟨hcz73_0, hcz73_1, hcz73_2, hfz73_0, hfz73_1, hfz73_2⟩ := cz3_ (w := w71) BK518) | ((with_reducible refine gate_callee (f := 13) rfl ?_); refine goesL_ (some 66) rfl rfl Tryd.func13 (by kernel_rfl) rfl #[.agg #[.int .u32 a0_0, .int .i64 a0_1, .slice A0_2 l0_2.length c0_2, .int .i64 a0_3, .int .i64 a0_4, .int .i64 a0_5, .int .i64 a0_6], .slice A1 l1.length c1, .agg #[.int .i64 a2_0, .int .u32 a2_1, .slice A2_2 l2_2.length c2_2], .agg #[.int .i64 ((1 + (Int.tmod a3 12)) % 256), .int .u32 1, .bool false, .slice none 0 0, .slice none 0 0]] rfl am_ ?_; (refine (spec_Legal.calls kj4 a0_0 a0_1 _ _ l0_2 a0_3 a0_4 a0_5 a0_6 (fun k_ => k_ < w.heap.size) _ _ l1 a2_0 a2_1 _ _ l2_2 ((1 + (Int.tmod a3 12)) % 256) 1 false _ _ ([] : List Int) _ _ ([] : List Int) t535 false _ ?side1 ?side2 ?side3 ?side4 ?side5 ?side6 ?side7 ?side8 ?side9 ?side10 A30.out).mono ?_); (case side1 => exact cC_ HR0_2 HB); (case side2 => exact HC0_2.out); (case side3 => exact Kd.V_mk HC1.out (Kd.F_below (Kd.C_F (Kd.heap_int .i64) HR1.out) (hB_ HB))); (case side4 => exact cC_ HR2_2 HB); (case side5 => exact HC2_2.out); (case side6 => exact Kd.C_nil _ _); (case side7 => exact Nat.le_refl _); (case side8 => exact Kd.C_nil _ _); (case side9 => exact Nat.le_refl _); (case side10 => exact Lg_below HG.out (hB_ HB)); rintro e w74 ⟨v536, rfl, ho0, hb⟩; refine ⟨_, rfl, ?_⟩; have n0_ := Aside0.mk (Kd.V_below (vV_ HO525) hb); have n1_ := Aside0.mk (Kd.V_below (vV_ HO529) hb); have n2_ := Aside0.mk (Kd.V_below (vV_ HO533) hb); have n3_ := Aside0.mk (Kd.V_lower (Kd.V_mono (ok' := fun k_ => k_ ≠ gb517 ∧ k_ ≠ gb518) ho0 (fun k_ hk_ => ⟨Or.elim hk_ (fun hs_ => fun e_ => Nat.not_le.2 hs_ (by rw [e_]; exact GW517.out)) (fun hn_ => (fB_ BK517 k_ hn_)), Or.elim hk_ (fun hs_ => fun e_ => Nat.not_le.2 hs_ (by rw [e_]; exact GW518.out)) (fun hn_ => (fB_ BK518 k_ hn_))⟩)) (below_size (hB_ HB))); have n5_ := bB_ BK518 hb; clear HO525; clear HO529; clear HO533; clear BK518; have HO525 := n0_; have HO529 := n1_; have HO533 := n2_; have HO537 := n3_; have BK518 := n5_; replace BK517 := bB_ BK517 hb; replace HB := hS_ HB hb; clear n0_ n1_ n2_ n3_ n5_; (try clear hb); (try clear hb2); (try clear hk); (try clear hi); (try clear ho0); obtain ⟨hcz75_0, hcz75_1, hcz75_2, hcz75_3, hcz75_4, hcz75_5, hcz75_6, hfz75_0, hfz75_1, hfz75_2, hfz75_3, hfz75_4, hfz75_5, hfz75_6⟩ := cz7_ (w := w74) BK517; obtain ⟨hcz76_0, hcz76_1, hcz76_2, hfz76_0, hfz76_1, hfz76_2⟩ := cz3_ (w := w74) BK518) | ((with_reducible refine gate_dst (N := 77) rfl ?_); refine Kd.R_lit (Kd.int .i64) _ 31 ?hg (N := 77) ?hd (xs := ([0] : List Int)) (inner := [.int .i64 0]) (ok := fun _ => True) (okp := fun _ => True) ?hr ?hp (fun _ hk => hk) trivial (Below.refl _ _) (Nat.le_refl _) (by simp) ?_; (case hd => rfl); (case hg => rfl); (case hr => first | (go_simp; done) | (go_simp; rfl)); (case hp => exact (Reps.one (show Kd.M (Kd.int .i64) _ _ _ 0 [.int .i64 0] from rfl) (Reps.none _ _))); intro v540 w77 ho78 hb hg_ hnew_; clear hg_ hnew_; (first | rw [← Ny539.out] at ho78 | (simp only [Int.reduceToNat] at ho78; rw [← Ny539.out] at ho78)); have n0_ := Aside0.mk (Kd.V_elder' (vV_ HO525) (Kd.R_base ho78) hb); have n1_ := Aside0.mk (Kd.V_elder' (vV_ HO529) (Kd.R_base ho78) hb); have n2_ := Aside0.mk (Kd.V_elder' (vV_ HO533) (Kd.R_base ho78) hb); have n3_ := Aside0.mk (Kd.V_elder' (vV_ HO537) (Kd.R_base ho78) hb); have n4_ := Aside0.mk (Kd.R_lower ho78 (below_size (hB_ HB))); have n6_ := bB_ BK518 hb; clear HO525; clear HO529; clear HO533; clear HO537; clear BK518; have HO525 := n0_; have HO529 := n1_; have HO533 := n2_; have HO537 := n3_; have HO541 := n4_; have BK518 := n6_; replace BK517 := bB_ BK517 hb; replace HB := hS_ HB hb; clear n0_ n1_ n2_ n3_ n4_ n6_; clear hb ho78; obtain ⟨Ao79, co79, eo79⟩ := Kd.R_slice HO541.out; subst eo79) | ((with_reducible refine gate_callee (f := 13) rfl ?_); refine goesL_ (some 79) rfl rfl Tryd.func13 (by kernel_rfl) rfl #[.agg #[.int .u32 a0_0, .int .i64 a0_1, .slice A0_2 l0_2.length c0_2, .int .i64 a0_3, .int .i64 a0_4, .int .i64 a0_5, .int .i64 a0_6], .slice A1 l1.length c1, .agg #[.int .i64 a2_0, .int .u32 a2_1, .slice A2_2 l2_2.length c2_2], .agg #[.int .i64 ((1 + (Int.tmod a3 12)) % 256), .int .u32 0, .bool false, .slice none 0 0, .slice Ao79 y539.length co79]] rfl am_ ?_; (refine (spec_Legal.calls kj4 a0_0 a0_1 _ _ l0_2 a0_3 a0_4 a0_5 a0_6 (fun k_ => k_ < w.heap.size) _ _ l1 a2_0 a2_1 _ _ l2_2 ((1 + (Int.tmod a3 12)) % 256) 0 false _ _ ([] : List Int) _ _ y539 t542 t545 _ ?side1 ?side2 ?side3 ?side4 ?side5 ?side6 ?side7 ?side8 ?side9 ?side10 A31.out).mono ?_); (case side1 => exact cC_ HR0_2 HB); (case side2 => exact HC0_2.out); (case side3 => exact Kd.V_mk HC1.out (Kd.F_below (Kd.C_F (Kd.heap_int .i64) HR1.out) (hB_ HB))); (case side4 => exact cC_ HR2_2 HB); (case side5 => exact HC2_2.out); (case side6 => exact Kd.C_nil _ _); (case side7 => exact Nat.le_refl _); (case side8 => repeat (first | exact (Kd.R_reads' HO541.out).2.2 | (with_reducible refine Kd.C_alloc ?_ _) | (with_reducible refine Kd.C_drewN ?_ _) | (with_reducible refine Kd.C_drew ?_))); (case side9 => exact (Kd.R_reads' HO541.out).2.1); (case side10 => exact Lg_below HG.out (hB_ HB)); rintro e w80 ⟨v543, rfl, ho0, hb⟩; refine ⟨_, rfl, ?_⟩; have n0_ := Aside0.mk (Kd.V_below (vV_ HO525) hb); have n1_ := Aside0.mk (Kd.V_below (vV_ HO529) hb); have n2_ := Aside0.mk (Kd.V_below (vV_ HO533) hb); have n3_ := Aside0.mk (Kd.V_below (vV_ HO537) hb); have n4_ := Aside0.mk (Kd.R_below (rR_ HO541) hb); have n5_ := Aside0.mk (Kd.V_lower (Kd.V_mono (ok' := fun k_ => some k_ ≠ (.slice Ao79 y539.length co79 : Value).ownBlock ∧ k_ ≠ gb517 ∧ k_ ≠ gb518) ho0 (fun k_ hk_ => ⟨Or.elim hk_ (fun hs_ => fun e_ => Nat.not_le.2 hs_ (Kd.R_base HO541.out k_ e_.symm)) (fun hn_ => (Kd.fresh' (Kd.R_lt (rR_ HO541)) k_ hn_)), Or.elim hk_ (fun hs_ => fun e_ => Nat.not_le.2 hs_ (by rw [e_]; exact GW517.out)) (fun hn_ => (fB_ BK517 k_ hn_)), Or.elim hk_ (fun hs_ => fun e_ => Nat.not_le.2 hs_ (by rw [e_]; exact GW518.out)) (fun hn_ => (fB_ BK518 k_ hn_))⟩)) (below_size (hB_ HB))); have n7_ := bB_ BK518 hb; clear HO525; clear HO529; clear HO533; clear HO537; clear HO541; clear BK518; have HO525 := n0_; have HO529 := n1_; have HO533 := n2_; have HO537 := n3_; have HO541 := n4_; have HO544 := n5_; have BK518 := n7_; replace BK517 := bB_ BK517 hb; replace HB := hS_ HB hb; clear n0_ n1_ n2_ n3_ n4_ n5_ n7_; (try clear hb); (try clear hb2); (try clear hk); (try clear hi); (try clear ho0); obtain ⟨Ao81, co81, eo81⟩ := Kd.V_slice HO525.out; subst eo81) | (go_at_call 17; (with_reducible refine (lodgerref03_Ints.calls kj4 _ _ t523 _ _ l1 true _ ?side1 ?side2 ?side3 ?side4 A34.out).mono ?_); (case side1 => repeat (first | exact (Kd.V_reads' HO525.out).2.2 | (with_reducible refine Kd.C_alloc ?_ _) | (with_reducible refine Kd.C_drewN ?_ _) | (with_reducible refine Kd.C_drew ?_))); (case side2 => exact (Kd.V_reads' HO525.out).2.1); (case side3 => exact cC_ HR1 HB); (case side4 => exact HC1.out); rintro e w' ⟨rfl, ⟨nd, rfl⟩⟩; obtain ⟨Ao82, co82, eo82⟩ := Kd.V_slice HO529.out; subst eo82) | (go_at_call 17; (with_reducible refine (lodgerref03_Ints.calls kj4 _ _ t527 _ _ l1 true _ ?side1 ?side2 ?side3 ?side4 A36.out).mono ?_); (case side1 => repeat (first | exact (Kd.V_reads' HO529.out).2.2 | (with_reducible refine Kd.C_alloc ?_ _) | (with_reducible refine Kd.C_drewN ?_ _) | (with_reducible refine Kd.C_drew ?_))); (case side2 => exact (Kd.V_reads' HO529.out).2.1); (case side3 => repeat (first | exact (Kd.C_below HR1.out (hB_ HB)) | (with_reducible refine Kd.C_alloc ?_ _) | (with_reducible refine Kd.C_drewN ?_ _) | (with_reducible refine Kd.C_drew ?_))); (case side4 => exact HC1.out); rintro e w' ⟨rfl, ⟨nd, rfl⟩⟩; obtain ⟨hcz83_0, hcz83_1, hcz83_2, hfz83_0, hfz83_1, hfz83_2⟩ := cz3_ (w := w80) BK518))
           go_ret
           exact ⟨er_, hB_ HB⟩
        ·rw [if_neg c38] at H
         rw [hr_.out] at H
         exact absurd (Option.some.inj H) (by decide)
       ·replace c37 := Bool.eq_false_iff.mpr c37
        subst c37
        have H1 : (some false) = some r := by rw [if_neg (show ¬ (false = true) by decide)] at H; exact H
        rw [hr_.out] at H1
        exact absurd (Option.some.inj H1) (by decide)
      ·replace c35 := Bool.eq_false_iff.mpr c35
       subst c35
       have H1 : (some false) = some r := by rw [if_neg (show ¬ (false = true) by decide)] at H; exact H
       rw [hr_.out] at H1
       exact absurd (Option.some.inj H1) (by decide)
     ·replace c33 := Bool.eq_false_iff.mpr c33
      subst c33
      have H1 : (some false) = some r := by rw [if_neg (show ¬ (false = true) by decide)] at H; exact H
      rw [hr_.out] at H1
      exact absurd (Option.some.inj H1) (by decide)
    ·replace c32 := Bool.eq_false_iff.mpr c32
     subst c32
     have H1 : (some false) = some r := by rw [if_neg (show ¬ (false = true) by decide)] at H; exact H
     rw [hr_.out] at H1
     exact absurd (Option.some.inj H1) (by decide)

/-- THE ONE PURE STATEMENT of lodgerlaw11_SpecWhole: yours. -/
def lodgerlaw11_SpecWhole.Pure : Prop := ∀ (a0_0 : Int) (a0_1 : Int) (l0_2 : List Int) (a0_3 : Int) (a0_4 : Int) (a0_5 : Int) (a0_6 : Int) (l1 : List Int) (a2_0 : Int) (a2_1 : Int) (l2_2 : List Int) (a3 : Int), (Lit.int .u32 a0_0).wf = true → (Lit.int .i64 a0_1).wf = true → l0_2.length ≤ maxLen → (∀ x ∈ l0_2, (Lit.int .i64 x).wf = true) → (Lit.int .i64 a0_3).wf = true → (Lit.int .i64 a0_4).wf = true → (Lit.int .i64 a0_5).wf = true → (Lit.int .i64 a0_6).wf = true → l1.length ≤ maxLen → l1.length * 8 ≤ 140737488351232 → (∀ x ∈ l1, (Lit.int .i64 x).wf = true) → (Lit.int .i64 a2_0).wf = true → (Lit.int .u32 a2_1).wf = true → l2_2.length ≤ maxLen → (∀ x ∈ l2_2, (Lit.int .u32 x).wf = true) → (Lit.int .u8 a3).wf = true → ∃ k, lodgerlaw11_SpecWhole.f k a0_0 a0_1 l0_2 a0_3 a0_4 a0_5 a0_6 l1 a2_0 a2_1 l2_2 a3 = some true
theorem lodgerlaw11_SpecWhole.walk (P : lodgerlaw11_SpecWhole.Pure) (a0_0 : Int) (a0_1 : Int) (a0_2 : Option Addr) (len0_2 cap0_2 : Nat) (z0_2 : List Int) (a0_3 : Int) (a0_4 : Int) (a0_5 : Int) (a0_6 : Int) (a1 : Option Addr) (len1 cap1 : Nat) (z1 : List Int) (a2_0 : Int) (a2_1 : Int) (a2_2 : Option Addr) (len2_2 cap2_2 : Nat) (z2_2 : List Int) (a3 : Int) (w : World) (w0_0 : (Lit.int .u32 a0_0).wf = true) (w0_1 : (Lit.int .i64 a0_1).wf = true) (w0_2 : (a0_2 = none ∧ len0_2 = 0 ∧ cap0_2 = 0 ∧ z0_2 = []) ∨ ∃ x, a0_2 = some x ∧ len0_2 ≤ cap0_2 ∧ cap0_2 ≤ maxLen ∧ z0_2.length = cap0_2 ∧ (∀ i, i < z0_2.length → w.cell? (x.add i) = some (.int .i64 (z0_2.getD i 0))) ∧ ∀ n ∈ z0_2, (Lit.int .i64 n).wf = true) (w0_3 : (Lit.int .i64 a0_3).wf = true) (w0_4 : (Lit.int .i64 a0_4).wf = true) (w0_5 : (Lit.int .i64 a0_5).wf = true) (w0_6 : (Lit.int .i64 a0_6).wf = true) (w1 : (a1 = none ∧ len1 = 0 ∧ cap1 = 0 ∧ z1 = []) ∨ ∃ x, a1 = some x ∧ len1 ≤ cap1 ∧ cap1 ≤ maxLen ∧ z1.length = cap1 ∧ (∀ i, i < z1.length → w.cell? (x.add i) = some (.int .i64 (z1.getD i 0))) ∧ ∀ n ∈ z1, (Lit.int .i64 n).wf = true) (y1 : len1 * 8 ≤ 140737488351232) (w2_0 : (Lit.int .i64 a2_0).wf = true) (w2_1 : (Lit.int .u32 a2_1).wf = true) (w2_2 : (a2_2 = none ∧ len2_2 = 0 ∧ cap2_2 = 0 ∧ z2_2 = []) ∨ ∃ x, a2_2 = some x ∧ len2_2 ≤ cap2_2 ∧ cap2_2 ≤ maxLen ∧ z2_2.length = cap2_2 ∧ (∀ i, i < z2_2.length → w.cell? (x.add i) = some (.int .u32 (z2_2.getD i 0))) ∧ ∀ n ∈ z2_2, (Lit.int .u32 n).wf = true) (w3 : (Lit.int .u8 a3).wf = true) (hG : Lg w) :
  Calls Tryd.prog 8 #[.agg #[.int .u32 a0_0, .int .i64 a0_1, .slice a0_2 len0_2 cap0_2, .int .i64 a0_3, .int .i64 a0_4, .int .i64 a0_5, .int .i64 a0_6], .slice a1 len1 cap1, .agg #[.int .i64 a2_0, .int .u32 a2_1, .slice a2_2 len2_2 cap2_2], .int .u8 a3] w fun e w' => e = .returned (.bool true) ∧ Below w.heap.size w w' := by
 obtain ⟨l0_2, rfl, hr0_2, hm0_2, hw0_2, hc0_2⟩ := ReadsInt.ofRowC w0_2
 obtain ⟨l1, rfl, hr1, hm1, hw1, hc1⟩ := ReadsInt.ofRowC w1
 obtain ⟨l2_2, rfl, hr2_2, hm2_2, hw2_2, hc2_2⟩ := ReadsInt.ofRowC w2_2
 obtain ⟨k, h⟩ := P a0_0 a0_1 l0_2 a0_3 a0_4 a0_5 a0_6 l1 a2_0 a2_1 l2_2 a3 w0_0 w0_1 hm0_2 hw0_2 w0_3 w0_4 w0_5 w0_6 hm1 y1 hw1 w2_0 w2_1 hm2_2 hw2_2 w3
 refine (lodgerlaw11_SpecWhole.calls k a0_0 a0_1 _ _ l0_2 a0_3 a0_4 a0_5 a0_6 _ _ l1 a2_0 a2_1 _ _ l2_2 a3 true w (Kd.C_of_reads (d := (0 : Int)) (h1 := fun _ => rfl) hr0_2) hc0_2 (Kd.C_of_reads (d := (0 : Int)) (h1 := fun _ => rfl) hr1) hc1 (Kd.C_of_reads (d := (0 : Int)) (h1 := fun _ => rfl) hr2_2) hc2_2 hG rfl h).mono ?_
 rintro e w' ⟨rfl, hd⟩
 exact ⟨rfl, hd⟩

end Go.Proofs.YtkiimboedgnoiaaDoor.PSpecWhole
