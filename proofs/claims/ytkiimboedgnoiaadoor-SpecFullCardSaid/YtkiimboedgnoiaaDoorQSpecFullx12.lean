/- The walk of SpecFull, part of it: what the Go functions answer; no condition. -/
import Derived.Test.YtkiimboedgnoiaaDoorQSpecFullx0
import Derived.Test.YtkiimboedgnoiaaDoorQSpecFullx7
import Derived.Test.YtkiimboedgnoiaaDoorQSpecFullx8
import Derived.Test.YtkiimboedgnoiaaDoorQSpecFullx9
import Derived.Test.YtkiimboedgnoiaaDoorQSpecFullx11
namespace Go.Proofs.YtkiimboedgnoiaaDoor.PSpecFull
open Go.RowKit Go.Proofs.YtkiimboedgnoiaaDoorW.PrintWords Go.Proofs.YtkiimboedgnoiaaDoorW.PrintLast Go.Proofs.YtkiimboedgnoiaaDoorW.PrintMore
attribute [local go_sem] max2_int min2_int max_two min_two max_three min_three max_four min_four   -- for this text's walks alone
set_option linter.unusedVariables false
set_option linter.unusedSimpArgs false

/-! ### lodgerref11_Fits: function 10 -/
def lodgerref11_Fits.f (k : Nat) (a0_0 : Int) (a0_1 : Int) (l0_2 : List Int) (a0_3 : Int) (a0_4 : Int) (a0_5 : Int) (a0_6 : Int) (l1 : List Int) : Option (Bool) := (lodgerref05_May.f k a0_0 a0_1 l0_2 a0_3 a0_4 a0_5 a0_6).bind fun t513 => (if t513 = true then ((lodgerref05_Many.f k a0_0 a0_1).bind fun t514 => (if t514 ≤ 256 then (if (l1.length : Int) ≤ 300 then ((lodgerref09_May.f k a0_0 a0_1 l0_2 a0_3 a0_4 a0_5 a0_6 l1).bind fun t515 => (some t515)) else (some false)) else (some false))) else (some false))
theorem lodgerref11_Fits.mono : ∀ a0 a1 a2 a3 a4 a5 a6 a7 k, LeO (lodgerref11_Fits.f k a0 a1 a2 a3 a4 a5 a6 a7) (lodgerref11_Fits.f (k + 1) a0 a1 a2 a3 a4 a5 a6 a7) := by
 intro a0 a1 a2 a3 a4 a5 a6 a7 k
 unfold lodgerref11_Fits.f
 repeat' first
   | (with_reducible exact lodgerref05_Many.mono _ _ _)
   | (with_reducible exact lodgerref05_May.mono _ _ _ _ _ _ _ _)
   | (with_reducible exact lodgerref09_May.mono _ _ _ _ _ _ _ _ _)
   | (with_reducible exact LeO.refl _)
   | (with_reducible exact LeO.none _)
   | (with_reducible refine LeO.ite ?_ ?_)
   | (with_reducible refine LeO.bind ?_ (fun _ => ?_))
   | exact lodgerref05_Many.mono _ _ _
   | exact lodgerref05_May.mono _ _ _ _ _ _ _ _
   | exact lodgerref09_May.mono _ _ _ _ _ _ _ _ _
   | exact LeO.none _
   | refine LeO.ite ?_ ?_
   | refine LeO.bind ?_ (fun _ => ?_)
set_option maxHeartbeats 8000000 in
set_option maxRecDepth 100000 in
theorem lodgerref11_Fits.calls (k : Nat) (a0_0 : Int) (a0_1 : Int) (A0_2 : Option Addr) (c0_2 : Nat) (l0_2 : List Int) (a0_3 : Int) (a0_4 : Int) (a0_5 : Int) (a0_6 : Int) (A1 : Option Addr) (c1 : Nat) (l1 : List Int) (r : Bool) (w : World) (hr0_2 : Kd.C (Kd.int .i64) w A0_2 l0_2.length l0_2) (hc0_2 : l0_2.length ≤ c0_2) (hr1 : Kd.C (Kd.int .i64) w A1 l1.length l1) (hc1 : l1.length ≤ c1) (h : lodgerref11_Fits.f k a0_0 a0_1 l0_2 a0_3 a0_4 a0_5 a0_6 l1 = some r) :
  Calls Tryd.prog 10 #[.agg #[.int .u32 a0_0, .int .i64 a0_1, .slice A0_2 l0_2.length c0_2, .int .i64 a0_3, .int .i64 a0_4, .int .i64 a0_5, .int .i64 a0_6], .slice A1 l1.length c1] w fun e w' => e = .returned (.bool r) ∧ Below w.heap.size w w' := by
 have hu27 := Tryd.underlying27
 have hu24 := Tryd.underlying24
 have HR0_2 := Aside0.mk hr0_2
 have HC0_2 := Aside0.mk hc0_2
 clear hr0_2 hc0_2
 have HR1 := Aside0.mk hr1
 have HC1 := Aside0.mk hc1
 clear hr1 hc1
 have HB := Aside0.mk (Below.refl w.heap.size w)
 have H : ((lodgerref05_May.f k a0_0 a0_1 l0_2 a0_3 a0_4 a0_5 a0_6).bind fun t513 => (if t513 = true then ((lodgerref05_Many.f k a0_0 a0_1).bind fun t514 => (if t514 ≤ 256 then (if (l1.length : Int) ≤ 300 then ((lodgerref09_May.f k a0_0 a0_1 l0_2 a0_3 a0_4 a0_5 a0_6 l1).bind fun t515 => (some t515)) else (some false)) else (some false))) else (some false))) = some r := h
 clear h
 replace H := Option.bind_eq_some_iff.mp H
 obtain ⟨t513, A30, H⟩ := H
 replace H : (if t513 = true then ((lodgerref05_Many.f k a0_0 a0_1).bind fun t514 => (if t514 ≤ 256 then (if (l1.length : Int) ≤ 300 then ((lodgerref09_May.f k a0_0 a0_1 l0_2 a0_3 a0_4 a0_5 a0_6 l1).bind fun t515 => (some t515)) else (some false)) else (some false))) else (some false)) = some r := H
 have A3 := Aside0.mk A30
 clear A30
 by_cases c4 : t513 = true
 ·subst c4
  have H1 : ((lodgerref05_Many.f k a0_0 a0_1).bind fun t514 => (if t514 ≤ 256 then (if (l1.length : Int) ≤ 300 then ((lodgerref09_May.f k a0_0 a0_1 l0_2 a0_3 a0_4 a0_5 a0_6 l1).bind fun t515 => (some t515)) else (some false)) else (some false))) = some r := by rw [if_pos rfl] at H; exact H
  clear H
  have H := H1
  clear H1
  replace H := Option.bind_eq_some_iff.mp H
  obtain ⟨t514, A50, H⟩ := H
  replace H : (if t514 ≤ 256 then (if (l1.length : Int) ≤ 300 then ((lodgerref09_May.f k a0_0 a0_1 l0_2 a0_3 a0_4 a0_5 a0_6 l1).bind fun t515 => (some t515)) else (some false)) else (some false)) = some r := H
  have A5 := Aside0.mk A50
  clear A50
  by_cases c6 : t514 ≤ 256
  ·rw [if_pos c6] at H
   have c6b0 : decide (t514 ≤ 256) = true := decide_eq_true c6
   clear c6
   by_cases c7 : (l1.length : Int) ≤ 300
   ·rw [if_pos c7] at H
    have c7b0 : decide ((l1.length : Int) ≤ 300) = true := decide_eq_true c7
    have c7b1 : decide (l1.length ≤ 300) = true := decide_eq_true (by omega)
    clear c7
    replace H := Option.bind_eq_some_iff.mp H
    obtain ⟨t515, A80, H⟩ := H
    replace H : (some t515) = some r := H
    have A8 := Aside0.mk A80
    clear A80
    obtain rfl := Option.some.inj H
    go_enter Tryd.func10, Tryd.ntmps10
    go_wp2_with (first | ((with_reducible refine gate_dst (N := 2) rfl ?_); (try (refine gate_guard (by rfl) ?_; dsimp only)); refine box_event ?hg (N := 2) ?hd (cs := #[.int .u32 a0_0, .int .i64 a0_1, .slice A0_2 l0_2.length c0_2, .int .i64 a0_3, .int .i64 a0_4, .int .i64 a0_5, .int .i64 a0_6]) (t := 27) ?hr ?_; (case hd => rfl); (case hg => rfl); (case hr => first | (go_simp; done) | (go_simp; rfl)); intro gb512 hg w9 hbox hb; have n1_ := Aside0.mk (hbox); have n2_ := gG_ (w := w) hg HB; have n3_ := gG_ (w := w) hg HB; have BK512 := n1_; have GW512 := n2_; have GE512 := n3_; replace HB := hS_ HB hb; clear n1_ n2_ n3_; clear hb hbox hg; obtain ⟨hcz10_0, hcz10_1, hcz10_2, hcz10_3, hcz10_4, hcz10_5, hcz10_6, hfz10_0, hfz10_1, hfz10_2, hfz10_3, hfz10_4, hfz10_5, hfz10_6⟩ := cz7_ (w := w9) BK512) | ((with_reducible refine gate_callee (f := 29) rfl ?_); refine goesL_ (some 6) rfl rfl Tryd.func29 (by kernel_rfl) rfl #[.agg #[.int .u32 a0_0, .int .i64 a0_1, .slice A0_2 l0_2.length c0_2, .int .i64 a0_3, .int .i64 a0_4, .int .i64 a0_5, .int .i64 a0_6]] rfl am_ ?_; (with_reducible refine (lodgerref05_May.calls k a0_0 a0_1 _ _ l0_2 a0_3 a0_4 a0_5 a0_6 true _ ?side1 ?side2 A3.out).mono ?_); (case side1 => exact cC_ HR0_2 HB); (case side2 => exact HC0_2.out); rintro e w11 ⟨rfl, hb⟩; refine ⟨_, rfl, ?_⟩; have n1_ := Aside0.mk (below_step (hB_ HB) hb); clear HB; have HB := n1_; replace BK512 := bB_ BK512 hb; clear n1_; (try clear hb); (try clear hb2); (try clear hk); (try clear hi); obtain ⟨hcz12_0, hcz12_1, hcz12_2, hcz12_3, hcz12_4, hcz12_5, hcz12_6, hfz12_0, hfz12_1, hfz12_2, hfz12_3, hfz12_4, hfz12_5, hfz12_6⟩ := cz7_ (w := w11) BK512) | (go_at_call 30; (with_reducible refine (lodgerref05_Many.calls k a0_0 a0_1 t514 _ A5.out).mono ?_); rintro e w13 ⟨rfl, hb⟩; have n1_ := Aside0.mk (below_step (hB_ HB) hb); clear HB; have HB := n1_; replace BK512 := bB_ BK512 hb; clear n1_; (try clear hb); (try clear hb2); (try clear hk); (try clear hi); obtain ⟨hcz14_0, hcz14_1, hcz14_2, hcz14_3, hcz14_4, hcz14_5, hcz14_6, hfz14_0, hfz14_1, hfz14_2, hfz14_3, hfz14_4, hfz14_5, hfz14_6⟩ := cz7_ (w := w13) BK512) | (go_at_call 20; (with_reducible refine (lodgerref09_May.calls k a0_0 a0_1 _ _ l0_2 a0_3 a0_4 a0_5 a0_6 _ _ l1 t515 _ ?side1 ?side2 ?side3 ?side4 A8.out).mono ?_); (case side1 => exact cC_ HR0_2 HB); (case side2 => exact HC0_2.out); (case side3 => exact cC_ HR1 HB); (case side4 => exact HC1.out); rintro e w15 ⟨rfl, hb⟩; have n1_ := Aside0.mk (below_step (hB_ HB) hb); clear HB; have HB := n1_; replace BK512 := bB_ BK512 hb; clear n1_; (try clear hb); (try clear hb2); (try clear hk); (try clear hi)))
    go_ret
    exact ⟨er_, hB_ HB⟩
   ·rw [if_neg c7] at H
    have c7b0 : decide ((l1.length : Int) ≤ 300) = false := decide_eq_false c7
    have c7b1 : decide (l1.length ≤ 300) = false := decide_eq_false (by omega)
    clear c7
    obtain rfl := Option.some.inj H
    go_enter Tryd.func10, Tryd.ntmps10
    go_wp2_with (first | ((with_reducible refine gate_dst (N := 2) rfl ?_); (try (refine gate_guard (by rfl) ?_; dsimp only)); refine box_event ?hg (N := 2) ?hd (cs := #[.int .u32 a0_0, .int .i64 a0_1, .slice A0_2 l0_2.length c0_2, .int .i64 a0_3, .int .i64 a0_4, .int .i64 a0_5, .int .i64 a0_6]) (t := 27) ?hr ?_; (case hd => rfl); (case hg => rfl); (case hr => first | (go_simp; done) | (go_simp; rfl)); intro gb512 hg w16 hbox hb; have n1_ := Aside0.mk (hbox); have n2_ := gG_ (w := w) hg HB; have n3_ := gG_ (w := w) hg HB; have BK512 := n1_; have GW512 := n2_; have GE512 := n3_; replace HB := hS_ HB hb; clear n1_ n2_ n3_; clear hb hbox hg; obtain ⟨hcz17_0, hcz17_1, hcz17_2, hcz17_3, hcz17_4, hcz17_5, hcz17_6, hfz17_0, hfz17_1, hfz17_2, hfz17_3, hfz17_4, hfz17_5, hfz17_6⟩ := cz7_ (w := w16) BK512) | ((with_reducible refine gate_callee (f := 29) rfl ?_); refine goesL_ (some 6) rfl rfl Tryd.func29 (by kernel_rfl) rfl #[.agg #[.int .u32 a0_0, .int .i64 a0_1, .slice A0_2 l0_2.length c0_2, .int .i64 a0_3, .int .i64 a0_4, .int .i64 a0_5, .int .i64 a0_6]] rfl am_ ?_; (with_reducible refine (lodgerref05_May.calls k a0_0 a0_1 _ _ l0_2 a0_3 a0_4 a0_5 a0_6 true _ ?side1 ?side2 A3.out).mono ?_); (case side1 => exact cC_ HR0_2 HB); (case side2 => exact HC0_2.out); rintro e w18 ⟨rfl, hb⟩; refine ⟨_, rfl, ?_⟩; have n1_ := Aside0.mk (below_step (hB_ HB) hb); clear HB; have HB := n1_; replace BK512 := bB_ BK512 hb; clear n1_; (try clear hb); (try clear hb2); (try clear hk); (try clear hi); obtain ⟨hcz19_0, hcz19_1, hcz19_2, hcz19_3, hcz19_4, hcz19_5, hcz19_6, hfz19_0, hfz19_1, hfz19_2, hfz19_3, hfz19_4, hfz19_5, hfz19_6⟩ := cz7_ (w := w18) BK512) | (go_at_call 30; (with_reducible refine (lodgerref05_Many.calls k a0_0 a0_1 t514 _ A5.out).mono ?_); rintro e w20 ⟨rfl, hb⟩; have n1_ := Aside0.mk (below_step (hB_ HB) hb); clear HB; have HB := n1_; replace BK512 := bB_ BK512 hb; clear n1_; (try clear hb); (try clear hb2); (try clear hk); (try clear hi)))
    go_ret
    exact ⟨er_, hB_ HB⟩
  ·rw [if_neg c6] at H
   have c6b0 : decide (t514 ≤ 256) = false := decide_eq_false c6
   clear c6
   obtain rfl := Option.some.inj H
   go_enter Tryd.func10, Tryd.ntmps10
   go_wp2_with (first | ((with_reducible refine gate_dst (N := 2) rfl ?_); (try (refine gate_guard (by rfl) ?_; dsimp only)); refine box_event ?hg (N := 2) ?hd (cs := #[.int .u32 a0_0, .int .i64 a0_1, .slice A0_2 l0_2.length c0_2, .int .i64 a0_3, .int .i64 a0_4, .int .i64 a0_5, .int .i64 a0_6]) (t := 27) ?hr ?_; (case hd => rfl); (case hg => rfl); (case hr => first | (go_simp; done) | (go_simp; rfl)); intro gb512 hg w21 hbox hb; have n1_ := Aside0.mk (hbox); have n2_ := gG_ (w := w) hg HB; have n3_ := gG_ (w := w) hg HB; have BK512 := n1_; have GW512 := n2_; have GE512 := n3_; replace HB := hS_ HB hb; clear n1_ n2_ n3_; clear hb hbox hg; obtain ⟨hcz22_0, hcz22_1, hcz22_2, hcz22_3, hcz22_4, hcz22_5, hcz22_6, hfz22_0, hfz22_1, hfz22_2, hfz22_3, hfz22_4, hfz22_5, hfz22_6⟩ := cz7_ (w := w21) BK512) | ((with_reducible refine gate_callee (f := 29) rfl ?_); refine goesL_ (some 6) rfl rfl Tryd.func29 (by kernel_rfl) rfl #[.agg #[.int .u32 a0_0, .int .i64 a0_1, .slice A0_2 l0_2.length c0_2, .int .i64 a0_3, .int .i64 a0_4, .int .i64 a0_5, .int .i64 a0_6]] rfl am_ ?_; (with_reducible refine (lodgerref05_May.calls k a0_0 a0_1 _ _ l0_2 a0_3 a0_4 a0_5 a0_6 true _ ?side1 ?side2 A3.out).mono ?_); (case side1 => exact cC_ HR0_2 HB); (case side2 => exact HC0_2.out); rintro e w23 ⟨rfl, hb⟩; refine ⟨_, rfl, ?_⟩; have n1_ := Aside0.mk (below_step (hB_ HB) hb); clear HB; have HB := n1_; replace BK512 := bB_ BK512 hb; clear n1_; (try clear hb); (try clear hb2); (try clear hk); (try clear hi); obtain ⟨hcz24_0, hcz24_1, hcz24_2, hcz24_3, hcz24_4, hcz24_5, hcz24_6, hfz24_0, hfz24_1, hfz24_2, hfz24_3, hfz24_4, hfz24_5, hfz24_6⟩ := cz7_ (w := w23) BK512) | (go_at_call 30; (with_reducible refine (lodgerref05_Many.calls k a0_0 a0_1 t514 _ A5.out).mono ?_); rintro e w25 ⟨rfl, hb⟩; have n1_ := Aside0.mk (below_step (hB_ HB) hb); clear HB; have HB := n1_; replace BK512 := bB_ BK512 hb; clear n1_; (try clear hb); (try clear hb2); (try clear hk); (try clear hi)))
   go_ret
   exact ⟨er_, hB_ HB⟩
 ·replace c4 := Bool.eq_false_iff.mpr c4
  subst c4
  have H1 : (some false) = some r := by rw [if_neg (show ¬ (false = true) by decide)] at H; exact H
  clear H
  have H := H1
  clear H1
  obtain rfl := Option.some.inj H
  go_enter Tryd.func10, Tryd.ntmps10
  go_wp2_with (first | ((with_reducible refine gate_dst (N := 2) rfl ?_); (try (refine gate_guard (by rfl) ?_; dsimp only)); refine box_event ?hg (N := 2) ?hd (cs := #[.int .u32 a0_0, .int .i64 a0_1, .slice A0_2 l0_2.length c0_2, .int .i64 a0_3, .int .i64 a0_4, .int .i64 a0_5, .int .i64 a0_6]) (t := 27) ?hr ?_; (case hd => rfl); (case hg => rfl); (case hr => first | (go_simp; done) | (go_simp; rfl)); intro gb512 hg w26 hbox hb; have n1_ := Aside0.mk (hbox); have n2_ := gG_ (w := w) hg HB; have n3_ := gG_ (w := w) hg HB; have BK512 := n1_; have GW512 := n2_; have GE512 := n3_; replace HB := hS_ HB hb; clear n1_ n2_ n3_; clear hb hbox hg; obtain ⟨hcz27_0, hcz27_1, hcz27_2, hcz27_3, hcz27_4, hcz27_5, hcz27_6, hfz27_0, hfz27_1, hfz27_2, hfz27_3, hfz27_4, hfz27_5, hfz27_6⟩ := cz7_ (w := w26) BK512) | ((with_reducible refine gate_callee (f := 29) rfl ?_); refine goesL_ (some 6) rfl rfl Tryd.func29 (by kernel_rfl) rfl #[.agg #[.int .u32 a0_0, .int .i64 a0_1, .slice A0_2 l0_2.length c0_2, .int .i64 a0_3, .int .i64 a0_4, .int .i64 a0_5, .int .i64 a0_6]] rfl am_ ?_; (with_reducible refine (lodgerref05_May.calls k a0_0 a0_1 _ _ l0_2 a0_3 a0_4 a0_5 a0_6 false _ ?side1 ?side2 A3.out).mono ?_); (case side1 => exact cC_ HR0_2 HB); (case side2 => exact HC0_2.out); rintro e w28 ⟨rfl, hb⟩; refine ⟨_, rfl, ?_⟩; have n1_ := Aside0.mk (below_step (hB_ HB) hb); clear HB; have HB := n1_; replace BK512 := bB_ BK512 hb; clear n1_; (try clear hb); (try clear hb2); (try clear hk); (try clear hi)))
  go_ret
  exact ⟨er_, hB_ HB⟩

/-! ### lodgerref09_Has: function 21 -/
def lodgerref09_Has.l0 : Nat → List Int → Int → Int → Option (Bool)
 | 0, _, _, _ => none
 | k + 1, x0, x1, x5 => if x5 < (x0.length : Int) then (if 0 ≤ x5 then (if (rd x0 x5) = x1 then (some true) else (lodgerref09_Has.l0 k x0 x1 (wrap64 (x5 + 1)))) else (none)) else (some false)
def lodgerref09_Has.f (k : Nat) (l0 : List Int) (a1 : Int) : Option (Bool) := lodgerref09_Has.l0 k l0 a1 0
theorem lodgerref09_Has.mono_l : ∀ k, (∀ y0 y1 y2, LeO (lodgerref09_Has.l0 k y0 y1 y2) (lodgerref09_Has.l0 (k + 1) y0 y1 y2))
 | 0 => fun _ _ _ r h => by simp [lodgerref09_Has.l0] at h
 | k + 1 => by
  have ih0 := lodgerref09_Has.mono_l k
  ·intro y0 y1 y2
   unfold lodgerref09_Has.l0
   repeat' first
   | (with_reducible exact ih0 _ _ _)
   | (with_reducible exact LeO.refl _)
   | (with_reducible exact LeO.none _)
   | (with_reducible refine LeO.ite ?_ ?_)
   | (with_reducible refine LeO.bind ?_ (fun _ => ?_))
   | exact ih0 _ _ _
   | exact LeO.none _
   | refine LeO.ite ?_ ?_
   | refine LeO.bind ?_ (fun _ => ?_)
theorem lodgerref09_Has.mono : ∀ a0 a1 k, LeO (lodgerref09_Has.f k a0 a1) (lodgerref09_Has.f (k + 1) a0 a1) := by
 intro a0 a1 k
 have ih0 := lodgerref09_Has.mono_l k
 unfold lodgerref09_Has.f
 repeat' first
   | (with_reducible exact ih0 _ _ _)
   | (with_reducible exact LeO.refl _)
   | (with_reducible exact LeO.none _)
   | (with_reducible refine LeO.ite ?_ ?_)
   | (with_reducible refine LeO.bind ?_ (fun _ => ?_))
   | exact ih0 _ _ _
   | exact LeO.none _
   | refine LeO.ite ?_ ?_
   | refine LeO.bind ?_ (fun _ => ?_)
set_option maxHeartbeats 8000000 in
set_option maxRecDepth 100000 in
theorem lodgerref09_Has.calls (k : Nat) (A0 : Option Addr) (c0 : Nat) (l0 : List Int) (a1 : Int) (r : Bool) (w : World) (hr0 : Kd.C (Kd.int .i64) w A0 l0.length l0) (hc0 : l0.length ≤ c0) (h : lodgerref09_Has.f k l0 a1 = some r) :
  Calls Tryd.prog 21 #[.slice A0 l0.length c0, .int .i64 a1] w fun e w' => e = .returned (.bool r) ∧ Drawn0 w w' := by
 have HR0 := Aside0.mk hr0
 have HC0 := Aside0.mk hc0
 clear hr0 hc0
 have H : (lodgerref09_Has.l0 k l0 a1 0) = some r := h
 clear h
 have H' := Aside0.mk H
 clear H
 go_enter Tryd.func21, Tryd.ntmps21
 go_wp2
 go_loopg [5] k (fun kq v5 w' => ∃ (x5_1 : Int), v5 = .int .i64 x5_1 ∧ Aside0 (lodgerref09_Has.l0 kq l0 a1 x5_1 = some r) ∧ Aside0 (kq ≤ k) ∧ Drawn0 w w')
 case atStart => exact ⟨(0), rs_, H', ⟨Nat.le_refl _⟩, by repeat (first | exact Drawn0.refl _ | apply Drawn0.step)⟩
 case round =>
  clear H'
  try clear c2
  try clear p2
  obtain ⟨x5_1, rfl, HA, HK1, ⟨m1, rfl⟩⟩ := hrel
  cases gk with
  | zero => exact absurd HA.out (by simp [lodgerref09_Has.l0])
  | succ k1 =>
   have H := HA.out
   clear HA
   simp only [lodgerref09_Has.l0] at H
   by_cases c3 : x5_1 < (l0.length : Int)
   ·rw [if_pos c3] at H
    have c3b0 : decide (x5_1 < (l0.length : Int)) = true := decide_eq_true c3
    clear c3
    by_cases c4 : 0 ≤ x5_1
    ·rw [if_pos c4] at H
     have c4b0 : decide (0 ≤ x5_1) = true := decide_eq_true c4
     clear c4
     by_cases c5 : (rd l0 x5_1) = a1
     ·rw [if_pos c5] at H
      have c5b0 : ((rd l0 x5_1) == a1) = true := beq_iff_eq.mpr c5
      have c5b1 : ((rd l0 x5_1) != a1) = false := bne_eq_false_iff_eq.mpr c5
      clear c5
      obtain rfl := Option.some.inj H
      have p516 : 0 ≤ (x5_1 : Int) := od_
      have q516 : x5_1 < (l0.length : Int) := od_
      obtain ⟨ad516, e516, hx516_0⟩ := Kd.at_int HR0.out x5_1 p516 q516
      cases e516
      replace p516 := eq_true p516
      replace q516 := eq_true q516
      go_wp2
      go_ret
      exact ⟨by first | rfl | (simp; done) | (simp [*]; done), by repeat (first | exact Drawn0.refl _ | apply Drawn0.step)⟩
     ·rw [if_neg c5] at H
      have c5b0 : ((rd l0 x5_1) == a1) = false := beq_eq_false_iff_ne.mpr c5
      have c5b1 : ((rd l0 x5_1) != a1) = true := bne_iff_ne.mpr c5
      have H' := Aside0.mk H
      clear H
      have p516 : 0 ≤ (x5_1 : Int) := od_
      have q516 : x5_1 < (l0.length : Int) := od_
      obtain ⟨ad516, e516, hx516_0⟩ := Kd.at_int HR0.out x5_1 p516 q516
      cases e516
      replace p516 := eq_true p516
      replace q516 := eq_true q516
      go_wp2
      go_roundg k1
      case measure => have := HK1.out; omega
      case rel => exact ⟨(wrap64 (x5_1 + 1)), rs_, H', ⟨by have := HK1.out; omega⟩, by repeat (first | exact Drawn0.refl _ | apply Drawn0.step)⟩
    ·rw [if_neg c4] at H
     exact absurd H (by simp)
   ·rw [if_neg c3] at H
    have c3b0 : decide (x5_1 < (l0.length : Int)) = false := decide_eq_false c3
    clear c3
    obtain rfl := Option.some.inj H
    go_wp2
    go_ret
    exact ⟨by first | rfl | (simp; done) | (simp [*]; done), by repeat (first | exact Drawn0.refl _ | apply Drawn0.step)⟩

/-! ### lodgerref09_Full: function 27 -/
def lodgerref09_Full.l0 : Nat → List Int → Int → Int → Int → List Int → Int → Int → Int → Int → Option (Bool)
 | 0, _, _, _, _, _, _, _, _, _ => none
 | k + 1, x1, x5, x518000, x518001, x518002, x518003, x518004, x518005, x518006 => (lodgerref05_Many.f k x518000 x518001).bind fun t518 => (if x5 < t518 then ((lodgerref05_Held.f k x518000 x518001 x518002 x518003 x518004 x518005 x518006 x5).bind fun t519 => (if t519 = true then (lodgerref09_Full.l0 k x1 (wrap64 (x5 + 1)) x518000 x518001 x518002 x518003 x518004 x518005 x518006) else ((lodgerref09_Has.f k x1 x5).bind fun t520 => (if t520 = true then (lodgerref09_Full.l0 k x1 (wrap64 (x5 + 1)) x518000 x518001 x518002 x518003 x518004 x518005 x518006) else (some false))))) else (some true))
def lodgerref09_Full.f (k : Nat) (a0_0 : Int) (a0_1 : Int) (l0_2 : List Int) (a0_3 : Int) (a0_4 : Int) (a0_5 : Int) (a0_6 : Int) (l1 : List Int) : Option (Bool) := lodgerref09_Full.l0 k l1 0 a0_0 a0_1 l0_2 a0_3 a0_4 a0_5 a0_6
theorem lodgerref09_Full.mono_l : ∀ k, (∀ y0 y1 y2 y3 y4 y5 y6 y7 y8, LeO (lodgerref09_Full.l0 k y0 y1 y2 y3 y4 y5 y6 y7 y8) (lodgerref09_Full.l0 (k + 1) y0 y1 y2 y3 y4 y5 y6 y7 y8))
 | 0 => fun _ _ _ _ _ _ _ _ _ r h => by simp [lodgerref09_Full.l0] at h
 | k + 1 => by
  have ih0 := lodgerref09_Full.mono_l k
  ·intro y0 y1 y2 y3 y4 y5 y6 y7 y8
   unfold lodgerref09_Full.l0
   repeat' first
   | (with_reducible exact ih0 _ _ _ _ _ _ _ _ _)
   | (with_reducible exact lodgerref05_Held.mono _ _ _ _ _ _ _ _ _)
   | (with_reducible exact lodgerref05_Many.mono _ _ _)
   | (with_reducible exact lodgerref09_Has.mono _ _ _)
   | (with_reducible exact LeO.refl _)
   | (with_reducible exact LeO.none _)
   | (with_reducible refine LeO.ite ?_ ?_)
   | (with_reducible refine LeO.bind ?_ (fun _ => ?_))
   | exact ih0 _ _ _ _ _ _ _ _ _
   | exact lodgerref05_Held.mono _ _ _ _ _ _ _ _ _
   | exact lodgerref05_Many.mono _ _ _
   | exact lodgerref09_Has.mono _ _ _
   | exact LeO.none _
   | refine LeO.ite ?_ ?_
   | refine LeO.bind ?_ (fun _ => ?_)
theorem lodgerref09_Full.mono : ∀ a0 a1 a2 a3 a4 a5 a6 a7 k, LeO (lodgerref09_Full.f k a0 a1 a2 a3 a4 a5 a6 a7) (lodgerref09_Full.f (k + 1) a0 a1 a2 a3 a4 a5 a6 a7) := by
 intro a0 a1 a2 a3 a4 a5 a6 a7 k
 have ih0 := lodgerref09_Full.mono_l k
 unfold lodgerref09_Full.f
 repeat' first
   | (with_reducible exact ih0 _ _ _ _ _ _ _ _ _)
   | (with_reducible exact lodgerref05_Held.mono _ _ _ _ _ _ _ _ _)
   | (with_reducible exact lodgerref05_Many.mono _ _ _)
   | (with_reducible exact lodgerref09_Has.mono _ _ _)
   | (with_reducible exact LeO.refl _)
   | (with_reducible exact LeO.none _)
   | (with_reducible refine LeO.ite ?_ ?_)
   | (with_reducible refine LeO.bind ?_ (fun _ => ?_))
   | exact ih0 _ _ _ _ _ _ _ _ _
   | exact lodgerref05_Held.mono _ _ _ _ _ _ _ _ _
   | exact lodgerref05_Many.mono _ _ _
   | exact lodgerref09_Has.mono _ _ _
   | exact LeO.none _
   | refine LeO.ite ?_ ?_
   | refine LeO.bind ?_ (fun _ => ?_)
set_option maxHeartbeats 8000000 in
set_option maxRecDepth 100000 in
theorem lodgerref09_Full.calls (k : Nat) (a0_0 : Int) (a0_1 : Int) (A0_2 : Option Addr) (c0_2 : Nat) (l0_2 : List Int) (a0_3 : Int) (a0_4 : Int) (a0_5 : Int) (a0_6 : Int) (A1 : Option Addr) (c1 : Nat) (l1 : List Int) (r : Bool) (w : World) (hr0_2 : Kd.C (Kd.int .i64) w A0_2 l0_2.length l0_2) (hc0_2 : l0_2.length ≤ c0_2) (hr1 : Kd.C (Kd.int .i64) w A1 l1.length l1) (hc1 : l1.length ≤ c1) (h : lodgerref09_Full.f k a0_0 a0_1 l0_2 a0_3 a0_4 a0_5 a0_6 l1 = some r) :
  Calls Tryd.prog 27 #[.agg #[.int .u32 a0_0, .int .i64 a0_1, .slice A0_2 l0_2.length c0_2, .int .i64 a0_3, .int .i64 a0_4, .int .i64 a0_5, .int .i64 a0_6], .slice A1 l1.length c1] w fun e w' => e = .returned (.bool r) ∧ Below w.heap.size w w' := by
 have hu27 := Tryd.underlying27
 have hu24 := Tryd.underlying24
 have HR0_2 := Aside0.mk hr0_2
 have HC0_2 := Aside0.mk hc0_2
 clear hr0_2 hc0_2
 have HR1 := Aside0.mk hr1
 have HC1 := Aside0.mk hc1
 clear hr1 hc1
 have HB := Aside0.mk (Below.refl w.heap.size w)
 have H : (lodgerref09_Full.l0 k l1 0 a0_0 a0_1 l0_2 a0_3 a0_4 a0_5 a0_6) = some r := h
 clear h
 have H' := Aside0.mk H
 clear H
 go_enter Tryd.func27, Tryd.ntmps27
 go_wp2_with (first | ((with_reducible refine gate_dst (N := 2) rfl ?_); refine box_event ?hg (N := 2) ?hd (cs := #[.int .u32 a0_0, .int .i64 a0_1, .slice A0_2 l0_2.length c0_2, .int .i64 a0_3, .int .i64 a0_4, .int .i64 a0_5, .int .i64 a0_6]) (t := 27) ?hr ?_; (case hd => rfl); (case hg => rfl); (case hr => first | (go_simp; done) | (go_simp; rfl)); intro gb517 hg w3 hbox hb; have n1_ := Aside0.mk (hbox); have n2_ := gG_ (w := w) hg HB; have n3_ := gG_ (w := w) hg HB; have BK517 := n1_; have GW517 := n2_; have GE517 := n3_; replace HB := hS_ HB hb; clear n1_ n2_ n3_; clear hb hbox hg))
 go_loopg [5] k (fun kq v5 w' => ∃ (x5_1 : Int), v5 = .int .i64 x5_1 ∧ Aside0 (lodgerref09_Full.l0 kq l1 x5_1 a0_0 a0_1 l0_2 a0_3 a0_4 a0_5 a0_6 = some r) ∧ Aside0 (kq ≤ k) ∧ Aside0 (w'.heap[gb517]? = some (.cells #[.int .u32 a0_0, .int .i64 a0_1, (.slice A0_2 l0_2.length c0_2), .int .i64 a0_3, .int .i64 a0_4, .int .i64 a0_5, .int .i64 a0_6] 27 (0, 0))) ∧ Aside0 (Below w.heap.size w w'))
 case atStart => exact ⟨(0), rs_, H', ⟨Nat.le_refl _⟩, ⟨bk_ BK517⟩, ⟨hB_ HB⟩⟩
 case round =>
  clear H'
  try clear c1
  try clear c2
  try clear p2
  obtain ⟨x5_1, rfl, HA, HK1, BK517, HB⟩ := hrel
  cases gk with
  | zero => exact absurd HA.out (by simp [lodgerref09_Full.l0])
  | succ k1 =>
   have H := HA.out
   clear HA
   simp only [lodgerref09_Full.l0] at H
   replace H := Option.bind_eq_some_iff.mp H
   obtain ⟨t518, A40, H⟩ := H
   replace H : (if x5_1 < t518 then ((lodgerref05_Held.f k1 a0_0 a0_1 l0_2 a0_3 a0_4 a0_5 a0_6 x5_1).bind fun t519 => (if t519 = true then (lodgerref09_Full.l0 k1 l1 (wrap64 (x5_1 + 1)) a0_0 a0_1 l0_2 a0_3 a0_4 a0_5 a0_6) else ((lodgerref09_Has.f k1 l1 x5_1).bind fun t520 => (if t520 = true then (lodgerref09_Full.l0 k1 l1 (wrap64 (x5_1 + 1)) a0_0 a0_1 l0_2 a0_3 a0_4 a0_5 a0_6) else (some false))))) else (some true)) = some r := H
   have A4 := Aside0.mk A40
   clear A40
   by_cases c5 : x5_1 < t518
   ·rw [if_pos c5] at H
    have c5b0 : decide (x5_1 < t518) = true := decide_eq_true c5
    clear c5
    replace H := Option.bind_eq_some_iff.mp H
    obtain ⟨t519, A60, H⟩ := H
    replace H : (if t519 = true then (lodgerref09_Full.l0 k1 l1 (wrap64 (x5_1 + 1)) a0_0 a0_1 l0_2 a0_3 a0_4 a0_5 a0_6) else ((lodgerref09_Has.f k1 l1 x5_1).bind fun t520 => (if t520 = true then (lodgerref09_Full.l0 k1 l1 (wrap64 (x5_1 + 1)) a0_0 a0_1 l0_2 a0_3 a0_4 a0_5 a0_6) else (some false)))) = some r := H
    have A6 := Aside0.mk A60
    clear A60
    by_cases c7 : t519 = true
    ·subst c7
     have H1 : (lodgerref09_Full.l0 k1 l1 (wrap64 (x5_1 + 1)) a0_0 a0_1 l0_2 a0_3 a0_4 a0_5 a0_6) = some r := by rw [if_pos rfl] at H; exact H
     clear H
     have H := H1
     clear H1
     have H' := Aside0.mk H
     clear H
     obtain ⟨hcz8_0, hcz8_1, hcz8_2, hcz8_3, hcz8_4, hcz8_5, hcz8_6, hfz8_0, hfz8_1, hfz8_2, hfz8_3, hfz8_4, hfz8_5, hfz8_6⟩ := cz7_ (w := wr) BK517
     go_wp2_with (first | ((with_reducible refine gate_callee (f := 30) rfl ?_); refine goesL_ (some 9) rfl rfl Tryd.func30 (by kernel_rfl) rfl #[.agg #[.int .u32 a0_0, .int .i64 a0_1]] rfl am_ ?_; (with_reducible refine (lodgerref05_Many.calls k1 a0_0 a0_1 t518 _ A4.out).mono ?_); rintro e w9 ⟨rfl, hb⟩; refine ⟨_, rfl, ?_⟩; have n1_ := Aside0.mk (below_step (hB_ HB) hb); clear HB; have HB := n1_; replace BK517 := bB_ BK517 hb; clear n1_; (try clear hb); (try clear hb2); (try clear hk); (try clear hi); obtain ⟨hcz10_0, hcz10_1, hcz10_2, hcz10_3, hcz10_4, hcz10_5, hcz10_6, hfz10_0, hfz10_1, hfz10_2, hfz10_3, hfz10_4, hfz10_5, hfz10_6⟩ := cz7_ (w := w9) BK517) | ((with_reducible refine gate_callee (f := 22) rfl ?_); refine goesL_ (some 15) rfl rfl Tryd.func22 (by kernel_rfl) rfl #[.agg #[.int .u32 a0_0, .int .i64 a0_1, .slice A0_2 l0_2.length c0_2, .int .i64 a0_3, .int .i64 a0_4, .int .i64 a0_5, .int .i64 a0_6], .int .i64 x5_1] rfl am_ ?_; (with_reducible refine (lodgerref05_Held.calls k1 a0_0 a0_1 _ _ l0_2 a0_3 a0_4 a0_5 a0_6 x5_1 true _ ?side1 ?side2 A6.out).mono ?_); (case side1 => exact cC_ HR0_2 HB); (case side2 => exact HC0_2.out); rintro e w11 ⟨rfl, hb⟩; refine ⟨_, rfl, ?_⟩; have n1_ := Aside0.mk (below_step (hB_ HB) hb); clear HB; have HB := n1_; replace BK517 := bB_ BK517 hb; clear n1_; (try clear hb); (try clear hb2); (try clear hk); (try clear hi)))
     go_roundg k1
     case measure => have := HK1.out; omega
     case rel => exact ⟨(wrap64 (x5_1 + 1)), rs_, H', ⟨by have := HK1.out; omega⟩, ⟨bk_ BK517⟩, ⟨hB_ HB⟩⟩
    ·replace c7 := Bool.eq_false_iff.mpr c7
     subst c7
     have H1 : ((lodgerref09_Has.f k1 l1 x5_1).bind fun t520 => (if t520 = true then (lodgerref09_Full.l0 k1 l1 (wrap64 (x5_1 + 1)) a0_0 a0_1 l0_2 a0_3 a0_4 a0_5 a0_6) else (some false))) = some r := by rw [if_neg (show ¬ (false = true) by decide)] at H; exact H
     clear H
     have H := H1
     clear H1
     replace H := Option.bind_eq_some_iff.mp H
     obtain ⟨t520, A120, H⟩ := H
     replace H : (if t520 = true then (lodgerref09_Full.l0 k1 l1 (wrap64 (x5_1 + 1)) a0_0 a0_1 l0_2 a0_3 a0_4 a0_5 a0_6) else (some false)) = some r := H
     have A12 := Aside0.mk A120
     clear A120
     by_cases c13 : t520 = true
     ·subst c13
      have H1 : (lodgerref09_Full.l0 k1 l1 (wrap64 (x5_1 + 1)) a0_0 a0_1 l0_2 a0_3 a0_4 a0_5 a0_6) = some r := by rw [if_pos rfl] at H; exact H
      clear H
      have H := H1
      clear H1
      have H' := Aside0.mk H
      clear H
      obtain ⟨hcz14_0, hcz14_1, hcz14_2, hcz14_3, hcz14_4, hcz14_5, hcz14_6, hfz14_0, hfz14_1, hfz14_2, hfz14_3, hfz14_4, hfz14_5, hfz14_6⟩ := cz7_ (w := wr) BK517
      go_wp2_with (first | ((with_reducible refine gate_callee (f := 30) rfl ?_); refine goesL_ (some 9) rfl rfl Tryd.func30 (by kernel_rfl) rfl #[.agg #[.int .u32 a0_0, .int .i64 a0_1]] rfl am_ ?_; (with_reducible refine (lodgerref05_Many.calls k1 a0_0 a0_1 t518 _ A4.out).mono ?_); rintro e w15 ⟨rfl, hb⟩; refine ⟨_, rfl, ?_⟩; have n1_ := Aside0.mk (below_step (hB_ HB) hb); clear HB; have HB := n1_; replace BK517 := bB_ BK517 hb; clear n1_; (try clear hb); (try clear hb2); (try clear hk); (try clear hi); obtain ⟨hcz16_0, hcz16_1, hcz16_2, hcz16_3, hcz16_4, hcz16_5, hcz16_6, hfz16_0, hfz16_1, hfz16_2, hfz16_3, hfz16_4, hfz16_5, hfz16_6⟩ := cz7_ (w := w15) BK517) | ((with_reducible refine gate_callee (f := 22) rfl ?_); refine goesL_ (some 15) rfl rfl Tryd.func22 (by kernel_rfl) rfl #[.agg #[.int .u32 a0_0, .int .i64 a0_1, .slice A0_2 l0_2.length c0_2, .int .i64 a0_3, .int .i64 a0_4, .int .i64 a0_5, .int .i64 a0_6], .int .i64 x5_1] rfl am_ ?_; (with_reducible refine (lodgerref05_Held.calls k1 a0_0 a0_1 _ _ l0_2 a0_3 a0_4 a0_5 a0_6 x5_1 false _ ?side1 ?side2 A6.out).mono ?_); (case side1 => exact cC_ HR0_2 HB); (case side2 => exact HC0_2.out); rintro e w17 ⟨rfl, hb⟩; refine ⟨_, rfl, ?_⟩; have n1_ := Aside0.mk (below_step (hB_ HB) hb); clear HB; have HB := n1_; replace BK517 := bB_ BK517 hb; clear n1_; (try clear hb); (try clear hb2); (try clear hk); (try clear hi)) | (go_at_call 21; (with_reducible refine (lodgerref09_Has.calls k1 _ _ l1 x5_1 true _ ?side1 ?side2 A12.out).mono ?_); (case side1 => exact cC_ HR1 HB); (case side2 => exact HC1.out); rintro e w' ⟨rfl, ⟨nd, rfl⟩⟩))
      go_roundg k1
      case measure => have := HK1.out; omega
      case rel => exact ⟨(wrap64 (x5_1 + 1)), rs_, H', ⟨by have := HK1.out; omega⟩, ⟨bk_ BK517⟩, ⟨hB_ HB⟩⟩
     ·replace c13 := Bool.eq_false_iff.mpr c13
      subst c13
      have H1 : (some false) = some r := by rw [if_neg (show ¬ (false = true) by decide)] at H; exact H
      clear H
      have H := H1
      clear H1
      obtain rfl := Option.some.inj H
      obtain ⟨hcz18_0, hcz18_1, hcz18_2, hcz18_3, hcz18_4, hcz18_5, hcz18_6, hfz18_0, hfz18_1, hfz18_2, hfz18_3, hfz18_4, hfz18_5, hfz18_6⟩ := cz7_ (w := wr) BK517
      go_wp2_with (first | ((with_reducible refine gate_callee (f := 30) rfl ?_); refine goesL_ (some 9) rfl rfl Tryd.func30 (by kernel_rfl) rfl #[.agg #[.int .u32 a0_0, .int .i64 a0_1]] rfl am_ ?_; (with_reducible refine (lodgerref05_Many.calls k1 a0_0 a0_1 t518 _ A4.out).mono ?_); rintro e w19 ⟨rfl, hb⟩; refine ⟨_, rfl, ?_⟩; have n1_ := Aside0.mk (below_step (hB_ HB) hb); clear HB; have HB := n1_; replace BK517 := bB_ BK517 hb; clear n1_; (try clear hb); (try clear hb2); (try clear hk); (try clear hi); obtain ⟨hcz20_0, hcz20_1, hcz20_2, hcz20_3, hcz20_4, hcz20_5, hcz20_6, hfz20_0, hfz20_1, hfz20_2, hfz20_3, hfz20_4, hfz20_5, hfz20_6⟩ := cz7_ (w := w19) BK517) | ((with_reducible refine gate_callee (f := 22) rfl ?_); refine goesL_ (some 15) rfl rfl Tryd.func22 (by kernel_rfl) rfl #[.agg #[.int .u32 a0_0, .int .i64 a0_1, .slice A0_2 l0_2.length c0_2, .int .i64 a0_3, .int .i64 a0_4, .int .i64 a0_5, .int .i64 a0_6], .int .i64 x5_1] rfl am_ ?_; (with_reducible refine (lodgerref05_Held.calls k1 a0_0 a0_1 _ _ l0_2 a0_3 a0_4 a0_5 a0_6 x5_1 false _ ?side1 ?side2 A6.out).mono ?_); (case side1 => exact cC_ HR0_2 HB); (case side2 => exact HC0_2.out); rintro e w21 ⟨rfl, hb⟩; refine ⟨_, rfl, ?_⟩; have n1_ := Aside0.mk (below_step (hB_ HB) hb); clear HB; have HB := n1_; replace BK517 := bB_ BK517 hb; clear n1_; (try clear hb); (try clear hb2); (try clear hk); (try clear hi)) | (go_at_call 21; (with_reducible refine (lodgerref09_Has.calls k1 _ _ l1 x5_1 false _ ?side1 ?side2 A12.out).mono ?_); (case side1 => exact cC_ HR1 HB); (case side2 => exact HC1.out); rintro e w' ⟨rfl, ⟨nd, rfl⟩⟩))
      go_ret
      exact ⟨er_, hB_ HB⟩
   ·rw [if_neg c5] at H
    have c5b0 : decide (x5_1 < t518) = false := decide_eq_false c5
    clear c5
    obtain rfl := Option.some.inj H
    obtain ⟨hcz22_0, hcz22_1, hcz22_2, hcz22_3, hcz22_4, hcz22_5, hcz22_6, hfz22_0, hfz22_1, hfz22_2, hfz22_3, hfz22_4, hfz22_5, hfz22_6⟩ := cz7_ (w := wr) BK517
    go_wp2_with (first | ((with_reducible refine gate_callee (f := 30) rfl ?_); refine goesL_ (some 9) rfl rfl Tryd.func30 (by kernel_rfl) rfl #[.agg #[.int .u32 a0_0, .int .i64 a0_1]] rfl am_ ?_; (with_reducible refine (lodgerref05_Many.calls k1 a0_0 a0_1 t518 _ A4.out).mono ?_); rintro e w23 ⟨rfl, hb⟩; refine ⟨_, rfl, ?_⟩; have n1_ := Aside0.mk (below_step (hB_ HB) hb); clear HB; have HB := n1_; replace BK517 := bB_ BK517 hb; clear n1_; (try clear hb); (try clear hb2); (try clear hk); (try clear hi)))
    go_ret
    exact ⟨er_, hB_ HB⟩

end Go.Proofs.YtkiimboedgnoiaaDoor.PSpecFull
