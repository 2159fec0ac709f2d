/- The walk of SpecFull, part of it: what the Go functions answer; no condition. -/
import Derived.Test.YtkiimboedgnoiaaDoorQSpecFullx0
import Derived.Test.YtkiimboedgnoiaaDoorQSpecFullx1
import Derived.Test.YtkiimboedgnoiaaDoorQSpecFullx5
import Derived.Test.YtkiimboedgnoiaaDoorQSpecFullx6
import Derived.Test.YtkiimboedgnoiaaDoorQSpecFullx7
import Derived.Test.YtkiimboedgnoiaaDoorQSpecFullx12
namespace Go.Proofs.YtkiimboedgnoiaaDoor.PSpecFull
open Go.RowKit Go.Proofs.YtkiimboedgnoiaaDoorW.PrintWords Go.Proofs.YtkiimboedgnoiaaDoorW.PrintLast Go.Proofs.YtkiimboedgnoiaaDoorW.PrintMore
attribute [local go_sem] max2_int min2_int max_two min_two max_three min_three max_four min_four   -- for this text's walks alone
set_option linter.unusedVariables false
set_option linter.unusedSimpArgs false

/-! ### lodgerlaw11_SpecFull: function 7 -/
mutual
def lodgerlaw11_SpecFull.j0 : Nat → List Int → Bool → Int → Int → List Int → Int → Int → Int → Int → Option (Bool)
 | 0, _, _, _, _, _, _, _, _, _ => none
 | k + 1, x1, x21, x522000, x522001, x522002, x522003, x522004, x522005, x522006 => if x21 = true then ((lodgerlaw11_awake.f k).bind fun t524 => (some t524)) else (lodgerlaw11_SpecFull.l0 k x1 0 0 x522000 x522001 x522002 x522003 x522004 x522005 x522006 1 0 9 0 false)
def lodgerlaw11_SpecFull.l0 : Nat → List Int → Int → Int → Int → Int → List Int → Int → Int → Int → Int → Int → Int → Int → Int → Bool → Option (Bool)
 | 0, _, _, _, _, _, _, _, _, _, _, _, _, _, _, _ => none
 | k + 1, x5, x8, x9, x522000, x522001, x522002, x522003, x522004, x522005, x522006, x526000, x526001, x527000, x527001, x527002 => if x9 < 257 then ((spec_Legal.f k x522000 x522001 x522002 x522003 x522004 x522005 x522006 x5 x526000 x526001 ([] : List Int) x527000 x527001 x527002 ([] : List Int) ([] : List Int)).bind fun bt527 => ((spec_Some.f k x522000 x522001 x522002 x522003 x522004 x522005 x522006 x5 x526000 x526001 ([] : List Int)).bind fun bt531 => (if (bt527.2 != (bt531.2.1 == 9)) = true then (lodgerlaw11_SpecFull.j2 k x5 x8 x9 bt527.2 bt531.1 true x522000 x522001 x522002 x522003 x522004 x522005 x522006 x526000 x526001 x527000 x527001 x527002 bt531.2.1 bt531.2.2.1 bt531.2.2.2.1 bt531.2.2.2.2.1 bt531.2.2.2.2.2) else ((lodgerref09_Full.f k x522000 x522001 x522002 x522003 x522004 x522005 x522006 x5).bind fun t544 => (lodgerlaw11_SpecFull.j2 k x5 x8 x9 bt527.2 bt531.1 (bt527.2 != t544) x522000 x522001 x522002 x522003 x522004 x522005 x522006 x526000 x526001 x527000 x527001 x527002 bt531.2.1 bt531.2.2.1 bt531.2.2.2.1 bt531.2.2.2.2.1 bt531.2.2.2.2.2))))) else (some false)
def lodgerlaw11_SpecFull.j2 : Nat → List Int → Int → Int → Bool → List Int → Bool → Int → Int → List Int → Int → Int → Int → Int → Int → Int → Int → Int → Bool → Int → Int → Bool → List Int → List Int → Option (Bool)
 | 0, _, _, _, _, _, _, _, _, _, _, _, _, _, _, _, _, _, _, _, _, _, _, _ => none
 | k + 1, x5, x8, x9, x11, x12, x56, x522000, x522001, x522002, x522003, x522004, x522005, x522006, x526000, x526001, x527000, x527001, x527002, x544000, x544001, x544002, x544003, x544004 => if x56 = true then (some false) else (if x11 = true then ((lodgerref03_Ints.f k x12 x5).bind fun t545 => (some t545)) else (if x9 > 0 then (if x544001 ≤ x8 then (some false) else (if (x12.length : Int) = (wrap64 ((x5.length : Int) + 1)) then (lodgerlaw11_SpecFull.l0 k x12 x544001 (wrap64 (x9 + 1)) x522000 x522001 x522002 x522003 x522004 x522005 x522006 x526000 x526001 x527000 x527001 x527002) else (some false))) else (if (x12.length : Int) = (wrap64 ((x5.length : Int) + 1)) then (lodgerlaw11_SpecFull.l0 k x12 x544001 (wrap64 (x9 + 1)) x522000 x522001 x522002 x522003 x522004 x522005 x522006 x526000 x526001 x527000 x527001 x527002) else (some false))))
end
def lodgerlaw11_SpecFull.f (k : Nat) (a0_0 : Int) (a0_1 : Int) (l0_2 : List Int) (a0_3 : Int) (a0_4 : Int) (a0_5 : Int) (a0_6 : Int) (l1 : List Int) : Option (Bool) := (lodgerlaw11_awake.f k).bind fun t522 => (if t522 = true then ((lodgerref11_Fits.f k a0_0 a0_1 l0_2 a0_3 a0_4 a0_5 a0_6 l1).bind fun t523 => (lodgerlaw11_SpecFull.j0 k l1 (!t523) a0_0 a0_1 l0_2 a0_3 a0_4 a0_5 a0_6)) else (lodgerlaw11_SpecFull.j0 k l1 true a0_0 a0_1 l0_2 a0_3 a0_4 a0_5 a0_6))
theorem lodgerlaw11_SpecFull.mono_l : ∀ k, (∀ y0 y1 y2 y3 y4 y5 y6 y7 y8, LeO (lodgerlaw11_SpecFull.j0 k y0 y1 y2 y3 y4 y5 y6 y7 y8) (lodgerlaw11_SpecFull.j0 (k + 1) y0 y1 y2 y3 y4 y5 y6 y7 y8)) ∧ (∀ y0 y1 y2 y3 y4 y5 y6 y7 y8 y9 y10 y11 y12 y13 y14, LeO (lodgerlaw11_SpecFull.l0 k y0 y1 y2 y3 y4 y5 y6 y7 y8 y9 y10 y11 y12 y13 y14) (lodgerlaw11_SpecFull.l0 (k + 1) y0 y1 y2 y3 y4 y5 y6 y7 y8 y9 y10 y11 y12 y13 y14)) ∧ (∀ y0 y1 y2 y3 y4 y5 y6 y7 y8 y9 y10 y11 y12 y13 y14 y15 y16 y17 y18 y19 y20 y21 y22, LeO (lodgerlaw11_SpecFull.j2 k y0 y1 y2 y3 y4 y5 y6 y7 y8 y9 y10 y11 y12 y13 y14 y15 y16 y17 y18 y19 y20 y21 y22) (lodgerlaw11_SpecFull.j2 (k + 1) y0 y1 y2 y3 y4 y5 y6 y7 y8 y9 y10 y11 y12 y13 y14 y15 y16 y17 y18 y19 y20 y21 y22))
 | 0 => ⟨fun _ _ _ _ _ _ _ _ _ r h => by simp [lodgerlaw11_SpecFull.j0] at h, fun _ _ _ _ _ _ _ _ _ _ _ _ _ _ _ r h => by simp [lodgerlaw11_SpecFull.l0] at h, fun _ _ _ _ _ _ _ _ _ _ _ _ _ _ _ _ _ _ _ _ _ _ _ r h => by simp [lodgerlaw11_SpecFull.j2] at h⟩
 | k + 1 => by
  obtain ⟨ih0, ih1, ih2⟩ := lodgerlaw11_SpecFull.mono_l k
  refine ⟨?_, ?_, ?_⟩
  ·intro y0 y1 y2 y3 y4 y5 y6 y7 y8
   unfold lodgerlaw11_SpecFull.j0
   repeat' first
   | (with_reducible exact ih0 _ _ _ _ _ _ _ _ _)
   | (with_reducible exact ih1 _ _ _ _ _ _ _ _ _ _ _ _ _ _ _)
   | (with_reducible exact ih2 _ _ _ _ _ _ _ _ _ _ _ _ _ _ _ _ _ _ _ _ _ _ _)
   | (with_reducible exact lodgerlaw11_awake.mono _)
   | (with_reducible exact lodgerref03_Ints.mono _ _ _)
   | (with_reducible exact lodgerref09_Full.mono _ _ _ _ _ _ _ _ _)
   | (with_reducible exact lodgerref11_Fits.mono _ _ _ _ _ _ _ _ _)
   | (with_reducible exact spec_Legal.mono _ _ _ _ _ _ _ _ _ _ _ _ _ _ _ _ _)
   | (with_reducible exact spec_Some.mono _ _ _ _ _ _ _ _ _ _ _ _)
   | (with_reducible exact LeO.refl _)
   | (with_reducible exact LeO.none _)
   | (with_reducible refine LeO.ite ?_ ?_)
   | (with_reducible refine LeO.bind ?_ (fun _ => ?_))
   | exact ih0 _ _ _ _ _ _ _ _ _
   | exact ih1 _ _ _ _ _ _ _ _ _ _ _ _ _ _ _
   | exact ih2 _ _ _ _ _ _ _ _ _ _ _ _ _ _ _ _ _ _ _ _ _ _ _
   | exact lodgerlaw11_awake.mono _
   | exact lodgerref03_Ints.mono _ _ _
   | exact lodgerref09_Full.mono _ _ _ _ _ _ _ _ _
   | exact lodgerref11_Fits.mono _ _ _ _ _ _ _ _ _
   | exact spec_Legal.mono _ _ _ _ _ _ _ _ _ _ _ _ _ _ _ _ _
   | exact spec_Some.mono _ _ _ _ _ _ _ _ _ _ _ _
   | exact LeO.none _
   | refine LeO.ite ?_ ?_
   | refine LeO.bind ?_ (fun _ => ?_)
  ·intro y0 y1 y2 y3 y4 y5 y6 y7 y8 y9 y10 y11 y12 y13 y14
   unfold lodgerlaw11_SpecFull.l0
   repeat' first
   | (with_reducible exact ih0 _ _ _ _ _ _ _ _ _)
   | (with_reducible exact ih1 _ _ _ _ _ _ _ _ _ _ _ _ _ _ _)
   | (with_reducible exact ih2 _ _ _ _ _ _ _ _ _ _ _ _ _ _ _ _ _ _ _ _ _ _ _)
   | (with_reducible exact lodgerlaw11_awake.mono _)
   | (with_reducible exact lodgerref03_Ints.mono _ _ _)
   | (with_reducible exact lodgerref09_Full.mono _ _ _ _ _ _ _ _ _)
   | (with_reducible exact lodgerref11_Fits.mono _ _ _ _ _ _ _ _ _)
   | (with_reducible exact spec_Legal.mono _ _ _ _ _ _ _ _ _ _ _ _ _ _ _ _ _)
   | (with_reducible exact spec_Some.mono _ _ _ _ _ _ _ _ _ _ _ _)
   | (with_reducible exact LeO.refl _)
   | (with_reducible exact LeO.none _)
   | (with_reducible refine LeO.ite ?_ ?_)
   | (with_reducible refine LeO.bind ?_ (fun _ => ?_))
   | exact ih0 _ _ _ _ _ _ _ _ _
   | exact ih1 _ _ _ _ _ _ _ _ _ _ _ _ _ _ _
   | exact ih2 _ _ _ _ _ _ _ _ _ _ _ _ _ _ _ _ _ _ _ _ _ _ _
   | exact lodgerlaw11_awake.mono _
   | exact lodgerref03_Ints.mono _ _ _
   | exact lodgerref09_Full.mono _ _ _ _ _ _ _ _ _
   | exact lodgerref11_Fits.mono _ _ _ _ _ _ _ _ _
   | exact spec_Legal.mono _ _ _ _ _ _ _ _ _ _ _ _ _ _ _ _ _
   | exact spec_Some.mono _ _ _ _ _ _ _ _ _ _ _ _
   | exact LeO.none _
   | refine LeO.ite ?_ ?_
   | refine LeO.bind ?_ (fun _ => ?_)
  ·intro y0 y1 y2 y3 y4 y5 y6 y7 y8 y9 y10 y11 y12 y13 y14 y15 y16 y17 y18 y19 y20 y21 y22
   unfold lodgerlaw11_SpecFull.j2
   repeat' first
   | (with_reducible exact ih0 _ _ _ _ _ _ _ _ _)
   | (with_reducible exact ih1 _ _ _ _ _ _ _ _ _ _ _ _ _ _ _)
   | (with_reducible exact ih2 _ _ _ _ _ _ _ _ _ _ _ _ _ _ _ _ _ _ _ _ _ _ _)
   | (with_reducible exact lodgerlaw11_awake.mono _)
   | (with_reducible exact lodgerref03_Ints.mono _ _ _)
   | (with_reducible exact lodgerref09_Full.mono _ _ _ _ _ _ _ _ _)
   | (with_reducible exact lodgerref11_Fits.mono _ _ _ _ _ _ _ _ _)
   | (with_reducible exact spec_Legal.mono _ _ _ _ _ _ _ _ _ _ _ _ _ _ _ _ _)
   | (with_reducible exact spec_Some.mono _ _ _ _ _ _ _ _ _ _ _ _)
   | (with_reducible exact LeO.refl _)
   | (with_reducible exact LeO.none _)
   | (with_reducible refine LeO.ite ?_ ?_)
   | (with_reducible refine LeO.bind ?_ (fun _ => ?_))
   | exact ih0 _ _ _ _ _ _ _ _ _
   | exact ih1 _ _ _ _ _ _ _ _ _ _ _ _ _ _ _
   | exact ih2 _ _ _ _ _ _ _ _ _ _ _ _ _ _ _ _ _ _ _ _ _ _ _
   | exact lodgerlaw11_awake.mono _
   | exact lodgerref03_Ints.mono _ _ _
   | exact lodgerref09_Full.mono _ _ _ _ _ _ _ _ _
   | exact lodgerref11_Fits.mono _ _ _ _ _ _ _ _ _
   | exact spec_Legal.mono _ _ _ _ _ _ _ _ _ _ _ _ _ _ _ _ _
   | exact spec_Some.mono _ _ _ _ _ _ _ _ _ _ _ _
   | exact LeO.none _
   | refine LeO.ite ?_ ?_
   | refine LeO.bind ?_ (fun _ => ?_)
theorem lodgerlaw11_SpecFull.mono : ∀ a0 a1 a2 a3 a4 a5 a6 a7 k, LeO (lodgerlaw11_SpecFull.f k a0 a1 a2 a3 a4 a5 a6 a7) (lodgerlaw11_SpecFull.f (k + 1) a0 a1 a2 a3 a4 a5 a6 a7) := by
 intro a0 a1 a2 a3 a4 a5 a6 a7 k
 obtain ⟨ih0, ih1, ih2⟩ := lodgerlaw11_SpecFull.mono_l k
 unfold lodgerlaw11_SpecFull.f
 repeat' first
   | (with_reducible exact ih0 _ _ _ _ _ _ _ _ _)
   | (with_reducible exact ih1 _ _ _ _ _ _ _ _ _ _ _ _ _ _ _)
   | (with_reducible exact ih2 _ _ _ _ _ _ _ _ _ _ _ _ _ _ _ _ _ _ _ _ _ _ _)
   | (with_reducible exact lodgerlaw11_awake.mono _)
   | (with_reducible exact lodgerref03_Ints.mono _ _ _)
   | (with_reducible exact lodgerref09_Full.mono _ _ _ _ _ _ _ _ _)
   | (with_reducible exact lodgerref11_Fits.mono _ _ _ _ _ _ _ _ _)
   | (with_reducible exact spec_Legal.mono _ _ _ _ _ _ _ _ _ _ _ _ _ _ _ _ _)
   | (with_reducible exact spec_Some.mono _ _ _ _ _ _ _ _ _ _ _ _)
   | (with_reducible exact LeO.refl _)
   | (with_reducible exact LeO.none _)
   | (with_reducible refine LeO.ite ?_ ?_)
   | (with_reducible refine LeO.bind ?_ (fun _ => ?_))
   | exact ih0 _ _ _ _ _ _ _ _ _
   | exact ih1 _ _ _ _ _ _ _ _ _ _ _ _ _ _ _
   | exact ih2 _ _ _ _ _ _ _ _ _ _ _ _ _ _ _ _ _ _ _ _ _ _ _
   | exact lodgerlaw11_awake.mono _
   | exact lodgerref03_Ints.mono _ _ _
   | exact lodgerref09_Full.mono _ _ _ _ _ _ _ _ _
   | exact lodgerref11_Fits.mono _ _ _ _ _ _ _ _ _
   | exact spec_Legal.mono _ _ _ _ _ _ _ _ _ _ _ _ _ _ _ _ _
   | exact spec_Some.mono _ _ _ _ _ _ _ _ _ _ _ _
   | exact LeO.none _
   | refine LeO.ite ?_ ?_
   | refine LeO.bind ?_ (fun _ => ?_)
set_option maxHeartbeats 8000000 in
set_option maxRecDepth 100000 in
theorem lodgerlaw11_SpecFull.calls (k : Nat) (a0_0 : Int) (a0_1 : Int) (A0_2 : Option Addr) (c0_2 : Nat) (l0_2 : List Int) (a0_3 : Int) (a0_4 : Int) (a0_5 : Int) (a0_6 : Int) (P1_ : Nat → Prop) (A1 : Option Addr) (c1 : Nat) (l1 : List Int) (r : Bool) (w : World) (hr0_2 : Kd.C (Kd.int .i64) w A0_2 l0_2.length l0_2) (hc0_2 : l0_2.length ≤ c0_2) (hs1 : Kd.V (Kd.int .i64) 3 w w.heap.size (fun k_ => P1_ k_) (.slice A1 l1.length c1) l1) (hG : Lg w) (hr_ : r = true) (h : lodgerlaw11_SpecFull.f k a0_0 a0_1 l0_2 a0_3 a0_4 a0_5 a0_6 l1 = some r) :
  Calls Tryd.prog 7 #[.agg #[.int .u32 a0_0, .int .i64 a0_1, .slice A0_2 l0_2.length c0_2, .int .i64 a0_3, .int .i64 a0_4, .int .i64 a0_5, .int .i64 a0_6], .slice A1 l1.length c1] w fun e w' => e = .returned (.bool r) ∧ Below w.heap.size w w' := by
 have hu27 := Tryd.underlying27
 have hu30 := Tryd.underlying30
 have hu34 := Tryd.underlying34
 have HR0_2 := Aside0.mk hr0_2
 have HC0_2 := Aside0.mk hc0_2
 clear hr0_2 hc0_2
 have HO1 := Aside0.mk (show Kd.V (Kd.int .i64) 3 w w.heap.size (fun k_ => (P1_ k_ ∨ w.heap.size ≤ k_)) (.slice A1 l1.length c1) l1 from Kd.V_mono hs1 (fun k_ hk => .inl hk))
 have HB := Aside0.mk (Below.refl w.heap.size w)
 have HG := Aside0.mk hG
 clear hG
 replace hr_ := Aside0.mk hr_
 have H : ((lodgerlaw11_awake.f k).bind fun t522 => (if t522 = true then ((lodgerref11_Fits.f k a0_0 a0_1 l0_2 a0_3 a0_4 a0_5 a0_6 l1).bind fun t523 => (lodgerlaw11_SpecFull.j0 k l1 (!t523) a0_0 a0_1 l0_2 a0_3 a0_4 a0_5 a0_6)) else (lodgerlaw11_SpecFull.j0 k l1 true a0_0 a0_1 l0_2 a0_3 a0_4 a0_5 a0_6))) = some r := h
 clear h
 have HC3 := Aside0.mk H
 clear H
 go_enter Tryd.func7, Tryd.ntmps7
 go_upto_region 1 with (first | ((with_reducible refine gate_dst (N := 2) rfl ?_); (try (refine gate_guard (by rfl) ?_; dsimp only)); refine box_event ?hg (N := 2) ?hd (cs := #[.int .u32 a0_0, .int .i64 a0_1, .slice A0_2 l0_2.length c0_2, .int .i64 a0_3, .int .i64 a0_4, .int .i64 a0_5, .int .i64 a0_6]) (t := 27) ?hr ?_; (case hd => rfl); (case hg => rfl); (case hr => first | (go_simp; done) | (go_simp; rfl)); intro gb521 hg w4 hbox hb; have n0_ := Aside0.mk (Kd.V_below (Kd.V_elderB (vV_ HO1) gb521 (Nat.le_of_eq hg.symm)) hb); have n2_ := Aside0.mk (hbox); have n3_ := gG_ (w := w) hg HB; have n4_ := gG_ (w := w) hg HB; clear HO1; have HO1 := n0_; have BK521 := n2_; have GW521 := n3_; have GE521 := n4_; replace HB := hS_ HB hb; clear n0_ n2_ n3_ n4_; clear hb hbox hg))
 (try simp only [Act.put, List.setIfInBounds_toArray, List.set_cons_zero, List.set_cons_succ])
 go_cut [21] (fun v21 wc => ∃ (kq : Nat) (x21_2 : Bool), v21 = .bool x21_2 ∧ Aside0 (lodgerlaw11_SpecFull.j0 kq l1 x21_2 a0_0 a0_1 l0_2 a0_3 a0_4 a0_5 a0_6 = some r) ∧ Aside0 (kq ≤ k) ∧ Aside0 (Kd.V (Kd.int .i64) 3 wc w.heap.size (fun k_ => (P1_ k_ ∨ w.heap.size ≤ k_) ∧ k_ ≠ gb521) (.slice A1 l1.length c1) l1) ∧ Aside0 (wc.heap[gb521]? = some (.cells #[.int .u32 a0_0, .int .i64 a0_1, (.slice A0_2 l0_2.length c0_2), .int .i64 a0_3, .int .i64 a0_4, .int .i64 a0_5, .int .i64 a0_6] 27 (0, 0))) ∧ Aside0 (Below w.heap.size w wc))
 case first =>
  have H := HC3.out
  clear HC3
  replace H := Option.bind_eq_some_iff.mp H
  obtain ⟨t522, A50, H⟩ := H
  replace H : (if t522 = true then ((lodgerref11_Fits.f k a0_0 a0_1 l0_2 a0_3 a0_4 a0_5 a0_6 l1).bind fun t523 => (lodgerlaw11_SpecFull.j0 k l1 (!t523) a0_0 a0_1 l0_2 a0_3 a0_4 a0_5 a0_6)) else (lodgerlaw11_SpecFull.j0 k l1 true a0_0 a0_1 l0_2 a0_3 a0_4 a0_5 a0_6)) = some r := H
  have A5 := Aside0.mk A50
  clear A50
  by_cases c6 : t522 = true
  ·subst c6
   have H1 : ((lodgerref11_Fits.f k a0_0 a0_1 l0_2 a0_3 a0_4 a0_5 a0_6 l1).bind fun t523 => (lodgerlaw11_SpecFull.j0 k l1 (!t523) a0_0 a0_1 l0_2 a0_3 a0_4 a0_5 a0_6)) = some r := by rw [if_pos rfl] at H; exact H
   clear H
   have H := H1
   clear H1
   replace H := Option.bind_eq_some_iff.mp H
   obtain ⟨t523, A70, H⟩ := H
   replace H : (lodgerlaw11_SpecFull.j0 k l1 (!t523) a0_0 a0_1 l0_2 a0_3 a0_4 a0_5 a0_6) = some r := H
   have A7 := Aside0.mk A70
   clear A70
   have H' := Aside0.mk H
   clear H
   go_wp2_with (first | ((with_reducible refine gate_callee (f := 9) rfl ?_); refine goesL_ (some 14) rfl rfl Tryd.func9 (by kernel_rfl) rfl #[] rfl am_ ?_; (with_reducible refine (lodgerlaw11_awake.calls k  true _ ?side1 A5.out).mono ?_); (case side1 => exact Lg_below HG.out (hB_ HB)); rintro e w8 ⟨rfl, hb⟩; refine ⟨_, rfl, ?_⟩; have n0_ := Aside0.mk (Kd.V_below (vV_ HO1) hb); have n2_ := Aside0.mk (below_step (hB_ HB) hb); clear HO1; clear HB; have HO1 := n0_; have HB := n2_; replace BK521 := bB_ BK521 hb; clear n0_ n2_; (try clear hb); (try clear hb2); (try clear hk); (try clear hi); obtain ⟨hcz9_0, hcz9_1, hcz9_2, hcz9_3, hcz9_4, hcz9_5, hcz9_6, hfz9_0, hfz9_1, hfz9_2, hfz9_3, hfz9_4, hfz9_5, hfz9_6⟩ := cz7_ (w := w8) BK521) | (go_at_call 10; (with_reducible refine (lodgerref11_Fits.calls k a0_0 a0_1 _ _ l0_2 a0_3 a0_4 a0_5 a0_6 _ _ l1 t523 _ ?side1 ?side2 ?side3 ?side4 A7.out).mono ?_); (case side1 => exact cC_ HR0_2 HB); (case side2 => exact HC0_2.out); (case side3 => repeat (first | exact (Kd.V_reads' HO1.out).2.2 | (with_reducible refine Kd.C_alloc ?_ _) | (with_reducible refine Kd.C_drewN ?_ _) | (with_reducible refine Kd.C_drew ?_))); (case side4 => exact (Kd.V_reads' HO1.out).2.1); rintro e w10 ⟨rfl, hb⟩; have n0_ := Aside0.mk (Kd.V_below (vV_ HO1) hb); have n2_ := Aside0.mk (below_step (hB_ HB) hb); clear HO1; clear HB; have HO1 := n0_; have HB := n2_; replace BK521 := bB_ BK521 hb; clear n0_ n2_; (try clear hb); (try clear hb2); (try clear hk); (try clear hi)))
   go_meet
   case rel => exact ⟨_, (!t523), rs_, H', ⟨by first | omega | exact Nat.le_refl _⟩, ⟨by (with_reducible repeat (first | apply Kd.V_alloc | apply Kd.V_drewN | apply Kd.V_drew)); exact HO1.out⟩, ⟨bk_ BK521⟩, ⟨hB_ HB⟩⟩
  ·replace c6 := Bool.eq_false_iff.mpr c6
   subst c6
   have H1 : (lodgerlaw11_SpecFull.j0 k l1 true a0_0 a0_1 l0_2 a0_3 a0_4 a0_5 a0_6) = some r := by rw [if_neg (show ¬ (false = true) by decide)] at H; exact H
   clear H
   have H := H1
   clear H1
   have H' := Aside0.mk H
   clear H
   go_wp2_with (first | ((with_reducible refine gate_callee (f := 9) rfl ?_); refine goesL_ (some 14) rfl rfl Tryd.func9 (by kernel_rfl) rfl #[] rfl am_ ?_; (with_reducible refine (lodgerlaw11_awake.calls k  false _ ?side1 A5.out).mono ?_); (case side1 => exact Lg_below HG.out (hB_ HB)); rintro e w11 ⟨rfl, hb⟩; refine ⟨_, rfl, ?_⟩; have n0_ := Aside0.mk (Kd.V_below (vV_ HO1) hb); have n2_ := Aside0.mk (below_step (hB_ HB) hb); clear HO1; clear HB; have HO1 := n0_; have HB := n2_; replace BK521 := bB_ BK521 hb; clear n0_ n2_; (try clear hb); (try clear hb2); (try clear hk); (try clear hi)))
   go_meet
   case rel => exact ⟨_, (true), rs_, H', ⟨by first | omega | exact Nat.le_refl _⟩, ⟨by (with_reducible repeat (first | apply Kd.V_alloc | apply Kd.V_drewN | apply Kd.V_drew)); exact HO1.out⟩, ⟨bk_ BK521⟩, ⟨hB_ HB⟩⟩
 case rest =>
  clear HC3
  try clear c1
  try clear p2
  try clear c6
  try clear c7
  try clear c9
  try clear hcz9_0 hcz9_1 hcz9_2 hcz9_3 hcz9_4 hcz9_5 hcz9_6
  try clear hfz9_0 hfz9_1 hfz9_2 hfz9_3 hfz9_4 hfz9_5 hfz9_6
  obtain ⟨kq, x21_2, rfl, HA, HJ2, HO_1, BK521, HB⟩ := hcut
  cases kq with
  | zero => exact absurd HA.out (by simp [lodgerlaw11_SpecFull.j0])
  | succ kj2 =>
   have H := HA.out
   clear HA
   simp only [lodgerlaw11_SpecFull.j0] at H
   by_cases c12 : x21_2 = true
   ·subst c12
    have H1 : ((lodgerlaw11_awake.f kj2).bind fun t524 => (some t524)) = some r := by rw [if_pos rfl] at H; exact H
    clear H
    have H := H1
    clear H1
    replace H := Option.bind_eq_some_iff.mp H
    obtain ⟨t524, A130, H⟩ := H
    replace H : (some t524) = some r := H
    have A13 := Aside0.mk A130
    clear A130
    first | (exfalso; rw [hr_.out] at H; exact absurd (Option.some.inj H) (by decide)) | (try clear hr_)
    all_goals
     obtain rfl := Option.some.inj H
     go_wp2_with (first | ((with_reducible refine gate_callee (f := 9) rfl ?_); refine goesL_ (some 22) rfl rfl Tryd.func9 (by kernel_rfl) rfl #[] rfl am_ ?_; (with_reducible refine (lodgerlaw11_awake.calls kj2  t524 _ ?side1 A13.out).mono ?_); (case side1 => exact Lg_below HG.out (hB_ HB)); rintro e w14 ⟨rfl, hb⟩; refine ⟨_, rfl, ?_⟩; have n0_ := Aside0.mk (Kd.V_below (vV_ HO_1) hb); have n2_ := Aside0.mk (below_step (hB_ HB) hb); clear HO_1; clear HB; have HO_1 := n0_; have HB := n2_; replace BK521 := bB_ BK521 hb; clear n0_ n2_; (try clear hb); (try clear hb2); (try clear hk); (try clear hi)))
     go_ret
     exact ⟨er_, hB_ HB⟩
   ·replace c12 := Bool.eq_false_iff.mpr c12
    subst c12
    have H1 : (lodgerlaw11_SpecFull.l0 kj2 l1 0 0 a0_0 a0_1 l0_2 a0_3 a0_4 a0_5 a0_6 1 0 9 0 false) = some r := by rw [if_neg (show ¬ (false = true) by decide)] at H; exact H
    clear H
    have H := H1
    clear H1
    have H' := Aside0.mk H
    clear H
    go_wp2_with (first | ((with_reducible refine gate_dst (N := 6) rfl ?_); (try (refine gate_guard (by rfl) ?_; dsimp only)); refine box_event ?hg (N := 6) ?hd (cs := #[.int .i64 0, .int .u32 0, .slice none 0 0]) (t := 30) ?hr ?_; (case hd => rfl); (case hg => rfl); (case hr => first | (go_simp; done) | (go_simp; rfl)); intro gb525 hg w15 hbox hb; have n0_ := Aside0.mk (Kd.V_below (Kd.V_elderB (vV_ HO_1) gb525 (Nat.le_of_eq hg.symm)) hb); have n2_ := Aside0.mk (below_step (hB_ HB) hb); have n3_ := Aside0.mk (hbox); have n4_ := gG_ (w := w) hg HB; have n5_ := gG_ (w := w) hg HB; have n6_ := nL_ hg BK521; have n7_ := nG_ hg BK521; clear HO_1; clear HB; have HO_1 := n0_; have HB := n2_; have BK525 := n3_; have GW525 := n4_; have GE525 := n5_; have NB521_525 := n6_; have NB525_521 := n7_; replace BK521 := bB_ BK521 hb; clear n0_ n2_ n3_ n4_ n5_ n6_ n7_; clear hb hbox hg; have hnb16 := NB525_521.out; have hnc16 := NB521_525.out; obtain ⟨hcz17_0, hcz17_1, hcz17_2, hfz17_0, hfz17_1, hfz17_2⟩ := cz3_ (w := w15) BK525) | ((with_reducible refine gate_dst (N := 7) rfl ?_); (try (refine gate_guard (by rfl) ?_; dsimp only)); refine box_event ?hg (N := 7) ?hd (cs := #[.int .i64 0, .int .u32 0, .bool false, .slice none 0 0, .slice none 0 0]) (t := 34) ?hr ?_; (case hd => rfl); (case hg => rfl); (case hr => first | (go_simp; done) | (go_simp; rfl)); intro gb526 hg w18 hbox hb; have n0_ := Aside0.mk (Kd.V_below (Kd.V_elderB (by (with_reducible repeat (first | apply Kd.V_alloc | apply Kd.V_drewN | apply Kd.V_drew)); exact (Kd.V_mono (vF3_ (g := gb525) (Kd.V_mono HO_1.out (fun k_ hk => (⟨hk, hk.2⟩ : _ ∧ k_ ≠ gb525))) (fun _ hk => hk.2)) (fun _ h_ => h_.1))) gb526 (Nat.le_of_eq hg.symm)) hb); have n1_ := Aside0.mk (blk_below (g := gb521) (o := .cells #[.int .u32 a0_0, .int .i64 a0_1, .slice A0_2 l0_2.length c0_2, .int .i64 a0_3, .int .i64 a0_4, .int .i64 a0_5, .int .i64 a0_6] 27 (0, 0)) (by (with_reducible repeat (first | refine blk_drewN ?_ _ | refine blk_drew ?_ | refine blk_alloc ?_ _)); refine blk_far ?_ NB521_525.out _; refine blk_far ?_ NB521_525.out _; refine blk_far ?_ NB521_525.out _; (with_reducible repeat (first | refine blk_drewN ?_ _ | refine blk_drew ?_ | refine blk_alloc ?_ _)); exact BK521.out) hb); have n2_ := Aside0.mk (blk_below (g := gb525) (o := .cells #[.int .i64 1, .int .u32 0, .slice none 0 0] 30 (0, 0)) (by (with_reducible repeat (first | refine blk_drewN ?_ _ | refine blk_drew ?_ | refine blk_alloc ?_ _)); refine blk_put (cs := #[.int .i64 1, .int .u32 0, .slice none 0 0]) ?_ 2 _ rfl; refine blk_put (cs := #[.int .i64 1, .int .u32 0, .slice none 0 0]) ?_ 1 _ rfl; refine blk_put (cs := #[.int .i64 0, .int .u32 0, .slice none 0 0]) ?_ 0 _ rfl; (with_reducible repeat (first | refine blk_drewN ?_ _ | refine blk_drew ?_ | refine blk_alloc ?_ _)); exact BK525.out) hb); have n4_ := Aside0.mk (hbox); have n5_ := gG_ (w := w) hg HB; have n6_ := gG_ (w := w) hg HB; have n7_ := Aside0.mk ((by rw [hg]; exact Nat.ne_of_lt (blk_lt (g := gb521) (o := .cells #[.int .u32 a0_0, .int .i64 a0_1, .slice A0_2 l0_2.length c0_2, .int .i64 a0_3, .int .i64 a0_4, .int .i64 a0_5, .int .i64 a0_6] 27 (0, 0)) (by (with_reducible repeat (first | refine blk_drewN ?_ _ | refine blk_drew ?_ | refine blk_alloc ?_ _)); refine blk_far ?_ NB521_525.out _; refine blk_far ?_ NB521_525.out _; refine blk_far ?_ NB521_525.out _; (with_reducible repeat (first | refine blk_drewN ?_ _ | refine blk_drew ?_ | refine blk_alloc ?_ _)); exact BK521.out)) : gb521 ≠ gb526)); have n8_ := Aside0.mk ((by rw [hg]; exact Nat.ne_of_gt (blk_lt (g := gb521) (o := .cells #[.int .u32 a0_0, .int .i64 a0_1, .slice A0_2 l0_2.length c0_2, .int .i64 a0_3, .int .i64 a0_4, .int .i64 a0_5, .int .i64 a0_6] 27 (0, 0)) (by (with_reducible repeat (first | refine blk_drewN ?_ _ | refine blk_drew ?_ | refine blk_alloc ?_ _)); refine blk_far ?_ NB521_525.out _; refine blk_far ?_ NB521_525.out _; refine blk_far ?_ NB521_525.out _; (with_reducible repeat (first | refine blk_drewN ?_ _ | refine blk_drew ?_ | refine blk_alloc ?_ _)); exact BK521.out)) : gb526 ≠ gb521)); have n9_ := Aside0.mk ((by rw [hg]; exact Nat.ne_of_lt (blk_lt (g := gb525) (o := .cells #[.int .i64 1, .int .u32 0, .slice none 0 0] 30 (0, 0)) (by (with_reducible repeat (first | refine blk_drewN ?_ _ | refine blk_drew ?_ | refine blk_alloc ?_ _)); refine blk_put (cs := #[.int .i64 1, .int .u32 0, .slice none 0 0]) ?_ 2 _ rfl; refine blk_put (cs := #[.int .i64 1, .int .u32 0, .slice none 0 0]) ?_ 1 _ rfl; refine blk_put (cs := #[.int .i64 0, .int .u32 0, .slice none 0 0]) ?_ 0 _ rfl; (with_reducible repeat (first | refine blk_drewN ?_ _ | refine blk_drew ?_ | refine blk_alloc ?_ _)); exact BK525.out)) : gb525 ≠ gb526)); have n10_ := Aside0.mk ((by rw [hg]; exact Nat.ne_of_gt (blk_lt (g := gb525) (o := .cells #[.int .i64 1, .int .u32 0, .slice none 0 0] 30 (0, 0)) (by (with_reducible repeat (first | refine blk_drewN ?_ _ | refine blk_drew ?_ | refine blk_alloc ?_ _)); refine blk_put (cs := #[.int .i64 1, .int .u32 0, .slice none 0 0]) ?_ 2 _ rfl; refine blk_put (cs := #[.int .i64 1, .int .u32 0, .slice none 0 0]) ?_ 1 _ rfl; refine blk_put (cs := #[.int .i64 0, .int .u32 0, .slice none 0 0]) ?_ 0 _ rfl; (with_reducible repeat (first | refine blk_drewN ?_ _ | refine blk_drew ?_ | refine blk_alloc ?_ _)); exact BK525.out)) : gb526 ≠ gb525)); clear HO_1; clear BK521; clear BK525; have HO_1 := n0_; have BK521 := n1_; have BK525 := n2_; have BK526 := n4_; have GW526 := n5_; have GE526 := n6_; have NB521_526 := n7_; have NB526_521 := n8_; have NB525_526 := n9_; have NB526_525 := n10_; replace HB := hS_ HB hb; clear n0_ n1_ n2_ n4_ n5_ n6_ n7_ n8_ n9_ n10_; clear hb hbox hg; have hnb19 := NB526_521.out; have hnc19 := NB521_526.out; have hnb20 := NB526_525.out; have hnc20 := NB525_526.out; obtain ⟨hcz21_0, hcz21_1, hcz21_2, hcz21_3, hcz21_4, hfz21_0, hfz21_1, hfz21_2, hfz21_3, hfz21_4⟩ := cz5_ (w := w18) BK526))
    go_loopg [5, 8, 9] kj2 (fun kq v5 v8 v9 w' => ∃ (x5_2 : List Int) (x8_2 : Int) (x9_2 : Int), v8 = .int .u32 x8_2 ∧ v9 = .int .i64 x9_2 ∧ Aside0 (lodgerlaw11_SpecFull.l0 kq x5_2 x8_2 x9_2 a0_0 a0_1 l0_2 a0_3 a0_4 a0_5 a0_6 1 0 9 0 false = some r) ∧ Aside0 (kq ≤ kj2) ∧ Aside0 (Kd.V (Kd.int .i64) 3 w' w.heap.size (fun k_ => (P1_ k_ ∨ w.heap.size ≤ k_) ∧ k_ ≠ gb521 ∧ k_ ≠ gb525 ∧ k_ ≠ gb526) v5 x5_2) ∧ Aside0 (w'.heap[gb521]? = some (.cells #[.int .u32 a0_0, .int .i64 a0_1, (.slice A0_2 l0_2.length c0_2), .int .i64 a0_3, .int .i64 a0_4, .int .i64 a0_5, .int .i64 a0_6] 27 (0, 0))) ∧ Aside0 (w'.heap[gb525]? = some (.cells #[.int .i64 1, .int .u32 0, (.slice none 0 0)] 30 (0, 0))) ∧ Aside0 (w'.heap[gb526]? = some (.cells #[.int .i64 9, .int .u32 0, .bool false, (.slice none 0 0), (.slice none 0 0)] 34 (0, 0))) ∧ Aside0 (Below w.heap.size w w'))
    case atStart => exact ⟨(l1), (0), (0), rs_, rs_, H', ⟨Nat.le_refl _⟩, ⟨by (with_reducible repeat (first | apply Kd.V_alloc | apply Kd.V_drewN | apply Kd.V_drew)); exact Kd.V_mono (vF5_ (g := gb526) (Kd.V_mono HO_1.out (fun k_ hk => (⟨hk, hk.2⟩ : _ ∧ k_ ≠ gb526))) (fun _ hk => hk.2)) (fun _ hk => ⟨hk.1.1.1.1, ⟨hk.1.1.1.2, ⟨hk.1.1.2, hk.1.2⟩⟩⟩)⟩, ⟨by (with_reducible repeat (first | refine blk_drewN ?_ _ | refine blk_drew ?_ | refine blk_alloc ?_ _)); refine blk_far ?_ NB521_526.out _; refine blk_far ?_ NB521_526.out _; refine blk_far ?_ NB521_526.out _; refine blk_far ?_ NB521_526.out _; refine blk_far ?_ NB521_526.out _; (with_reducible repeat (first | refine blk_drewN ?_ _ | refine blk_drew ?_ | refine blk_alloc ?_ _)); exact BK521.out⟩, ⟨by (with_reducible repeat (first | refine blk_drewN ?_ _ | refine blk_drew ?_ | refine blk_alloc ?_ _)); refine blk_far ?_ NB525_526.out _; refine blk_far ?_ NB525_526.out _; refine blk_far ?_ NB525_526.out _; refine blk_far ?_ NB525_526.out _; refine blk_far ?_ NB525_526.out _; (with_reducible repeat (first | refine blk_drewN ?_ _ | refine blk_drew ?_ | refine blk_alloc ?_ _)); exact BK525.out⟩, ⟨by (with_reducible repeat (first | refine blk_drewN ?_ _ | refine blk_drew ?_ | refine blk_alloc ?_ _)); refine blk_put (cs := #[.int .i64 9, .int .u32 0, .bool false, .slice none 0 0, .slice none 0 0]) ?_ 4 _ rfl; refine blk_put (cs := #[.int .i64 9, .int .u32 0, .bool false, .slice none 0 0, .slice none 0 0]) ?_ 3 _ rfl; refine blk_put (cs := #[.int .i64 9, .int .u32 0, .bool false, .slice none 0 0, .slice none 0 0]) ?_ 2 _ rfl; refine blk_put (cs := #[.int .i64 9, .int .u32 0, .bool false, .slice none 0 0, .slice none 0 0]) ?_ 1 _ rfl; refine blk_put (cs := #[.int .i64 0, .int .u32 0, .bool false, .slice none 0 0, .slice none 0 0]) ?_ 0 _ rfl; (with_reducible repeat (first | refine blk_drewN ?_ _ | refine blk_drew ?_ | refine blk_alloc ?_ _)); exact BK526.out⟩, ⟨hB_ HB⟩⟩
    case round =>
     clear H'
     try clear c1
     try clear c2
     try clear p2
     try clear c6
     try clear c7
     try clear c9
     try clear c12
     try clear c16
     try clear c19
     try clear c20
     try clear hcz17_0 hcz17_1 hcz17_2
     try clear hcz21_0 hcz21_1 hcz21_2 hcz21_3 hcz21_4
     try clear hcz9_0 hcz9_1 hcz9_2 hcz9_3 hcz9_4 hcz9_5 hcz9_6
     try clear hfz17_0 hfz17_1 hfz17_2
     try clear hfz21_0 hfz21_1 hfz21_2 hfz21_3 hfz21_4
     try clear hfz9_0 hfz9_1 hfz9_2 hfz9_3 hfz9_4 hfz9_5 hfz9_6
     try clear p2
     obtain ⟨x5_2, x8_2, x9_2, rfl, rfl, HA, HK2, HO_5, BK521, BK525, BK526, HB⟩ := hrel
     cases gk with
     | zero => exact absurd HA.out (by simp [lodgerlaw11_SpecFull.l0])
     | succ k2 =>
      have H := HA.out
      clear HA
      simp only [lodgerlaw11_SpecFull.l0] at H
      by_cases c22 : x9_2 < 257
      ·rw [if_pos c22] at H
       have c22b0 : decide (x9_2 < 257) = true := decide_eq_true c22
       clear c22
       replace H := Option.bind_eq_some_iff.mp H
       obtain ⟨⟨t527, t530⟩, A230, H⟩ := H
       replace H : ((spec_Some.f k2 a0_0 a0_1 l0_2 a0_3 a0_4 a0_5 a0_6 x5_2 1 0 ([] : List Int)).bind fun bt531 => (if (t530 != (bt531.2.1 == 9)) = true then (lodgerlaw11_SpecFull.j2 k2 x5_2 x8_2 x9_2 t530 bt531.1 true a0_0 a0_1 l0_2 a0_3 a0_4 a0_5 a0_6 1 0 9 0 false bt531.2.1 bt531.2.2.1 bt531.2.2.2.1 bt531.2.2.2.2.1 bt531.2.2.2.2.2) else ((lodgerref09_Full.f k2 a0_0 a0_1 l0_2 a0_3 a0_4 a0_5 a0_6 x5_2).bind fun t544 => (lodgerlaw11_SpecFull.j2 k2 x5_2 x8_2 x9_2 t530 bt531.1 (t530 != t544) a0_0 a0_1 l0_2 a0_3 a0_4 a0_5 a0_6 1 0 9 0 false bt531.2.1 bt531.2.2.1 bt531.2.2.2.1 bt531.2.2.2.2.1 bt531.2.2.2.2.2)))) = some r := H
       have A23 := Aside0.mk A230
       clear A230
       replace H := Option.bind_eq_some_iff.mp H
       obtain ⟨⟨t531, t534, t535, t536, t537, t540⟩, A240, H⟩ := H
       replace H : (if (t530 != (t534 == 9)) = true then (lodgerlaw11_SpecFull.j2 k2 x5_2 x8_2 x9_2 t530 t531 true a0_0 a0_1 l0_2 a0_3 a0_4 a0_5 a0_6 1 0 9 0 false t534 t535 t536 t537 t540) else ((lodgerref09_Full.f k2 a0_0 a0_1 l0_2 a0_3 a0_4 a0_5 a0_6 x5_2).bind fun t544 => (lodgerlaw11_SpecFull.j2 k2 x5_2 x8_2 x9_2 t530 t531 (t530 != t544) a0_0 a0_1 l0_2 a0_3 a0_4 a0_5 a0_6 1 0 9 0 false t534 t535 t536 t537 t540))) = some r := H
       have A24 := Aside0.mk A240
       clear A240
       have HC25 := Aside0.mk H
       clear H
       have hnb26 := NB521_525.out
       have hnc26 := NB525_521.out
       have hnb27 := NB521_526.out
       have hnc27 := NB526_521.out
       obtain ⟨hcz28_0, hcz28_1, hcz28_2, hcz28_3, hcz28_4, hcz28_5, hcz28_6, hfz28_0, hfz28_1, hfz28_2, hfz28_3, hfz28_4, hfz28_5, hfz28_6⟩ := cz7_ (w := wr) BK521
       have hnb29 := NB525_526.out
       have hnc29 := NB526_525.out
       obtain ⟨hcz30_0, hcz30_1, hcz30_2, hfz30_0, hfz30_1, hfz30_2⟩ := cz3_ (w := wr) BK525
       obtain ⟨hcz31_0, hcz31_1, hcz31_2, hcz31_3, hcz31_4, hfz31_0, hfz31_1, hfz31_2, hfz31_3, hfz31_4⟩ := cz5_ (w := wr) BK526
       obtain ⟨Ao32, co32, eo32⟩ := Kd.V_slice HO_5.out
       subst eo32
       go_upto_region 12 with (first | ((with_reducible refine gate_callee (f := 13) rfl ?_); refine goesL_ (some 35) rfl rfl Tryd.func13 (by kernel_rfl) rfl #[.agg #[.int .u32 a0_0, .int .i64 a0_1, .slice A0_2 l0_2.length c0_2, .int .i64 a0_3, .int .i64 a0_4, .int .i64 a0_5, .int .i64 a0_6], .slice Ao32 x5_2.length co32, .agg #[.int .i64 1, .int .u32 0, .slice none 0 0], .agg #[.int .i64 9, .int .u32 0, .bool false, .slice none 0 0, .slice none 0 0]] rfl am_ ?_; (refine (spec_Legal.calls k2 a0_0 a0_1 _ _ l0_2 a0_3 a0_4 a0_5 a0_6 (fun k_ => ((P1_ k_ ∨ w.heap.size ≤ k_) ∧ (k_ ≠ gb521 ∧ (k_ ≠ gb525 ∧ k_ ≠ gb526)))) _ _ x5_2 1 0 _ _ ([] : List Int) 9 0 false _ _ ([] : List Int) _ _ ([] : List Int) t527 t530 _ ?side1 ?side2 ?side3 ?side4 ?side5 ?side6 ?side7 ?side8 ?side9 ?side10 A23.out).mono ?_); (case side1 => exact cC_ HR0_2 HB); (case side2 => exact HC0_2.out); (case side3 => exact HO_5.out); (case side4 => exact Kd.C_nil _ _); (case side5 => exact Nat.le_refl _); (case side6 => exact Kd.C_nil _ _); (case side7 => exact Nat.le_refl _); (case side8 => exact Kd.C_nil _ _); (case side9 => exact Nat.le_refl _); (case side10 => exact Lg_below HG.out (hB_ HB)); rintro e w33 ⟨v528, rfl, ho0, hb⟩; refine ⟨_, rfl, ?_⟩; have n0_ := Aside0.mk (Kd.V_below (vV_ HO_5) hb); have n1_ := Aside0.mk (Kd.V_lower (Kd.V_mono (ok' := fun k_ => (P1_ k_ ∨ w.heap.size ≤ k_) ∧ k_ ≠ gb521 ∧ k_ ≠ gb525 ∧ k_ ≠ gb526) ho0 (fun k_ hk_ => ⟨Or.elim hk_ (fun hs_ => hs_.1) (fun hn_ => (.inr (Nat.le_trans (below_size (hB_ HB)) hn_))), Or.elim hk_ (fun hs_ => hs_.2.1) (fun hn_ => (fB_ BK521 k_ hn_)), Or.elim hk_ (fun hs_ => hs_.2.2.1) (fun hn_ => (fB_ BK525 k_ hn_)), Or.elim hk_ (fun hs_ => hs_.2.2.2) (fun hn_ => (fB_ BK526 k_ hn_))⟩)) (below_size (hB_ HB))); have n3_ := bB_ BK525 hb; have n5_ := Aside0.mk (below_step (hB_ HB) hb); clear HO_5; clear BK525; clear HB; have HO_5 := n0_; have HO529 := n1_; have BK525 := n3_; have HB := n5_; replace BK521 := bB_ BK521 hb; replace BK526 := bB_ BK526 hb; clear n0_ n1_ n3_ n5_; (try clear hb); (try clear hb2); (try clear hk); (try clear hi); (try clear ho0); obtain ⟨hcz34_0, hcz34_1, hcz34_2, hcz34_3, hcz34_4, hcz34_5, hcz34_6, hfz34_0, hfz34_1, hfz34_2, hfz34_3, hfz34_4, hfz34_5, hfz34_6⟩ := cz7_ (w := w33) BK521; obtain ⟨hcz35_0, hcz35_1, hcz35_2, hfz35_0, hfz35_1, hfz35_2⟩ := cz3_ (w := w33) BK525) | ((with_reducible refine gate_callee (f := 15) rfl ?_); refine goesL_ (some 42) rfl rfl Tryd.func15 (by kernel_rfl) rfl #[.agg #[.int .u32 a0_0, .int .i64 a0_1, .slice A0_2 l0_2.length c0_2, .int .i64 a0_3, .int .i64 a0_4, .int .i64 a0_5, .int .i64 a0_6], .slice Ao32 x5_2.length co32, .agg #[.int .i64 1, .int .u32 0, .slice none 0 0]] rfl am_ ?_; (refine (spec_Some.calls k2 a0_0 a0_1 _ _ l0_2 a0_3 a0_4 a0_5 a0_6 (fun k_ => ((P1_ k_ ∨ w.heap.size ≤ k_) ∧ (k_ ≠ gb521 ∧ (k_ ≠ gb525 ∧ k_ ≠ gb526)))) _ _ x5_2 1 0 _ _ ([] : List Int) t531 t534 t535 t536 t537 t540 _ ?side1 ?side2 ?side3 ?side4 ?side5 ?side6 A24.out).mono ?_); (case side1 => exact cC_ HR0_2 HB); (case side2 => exact HC0_2.out); (case side3 => exact HO_5.out); (case side4 => exact Kd.C_nil _ _); (case side5 => exact Nat.le_refl _); (case side6 => exact Lg_below HG.out (hB_ HB)); rintro e w36 ⟨v532, v538, v541, rfl, ho0, ho1, ho2, hb⟩; refine ⟨_, rfl, ?_⟩; have n0_ := Aside0.mk (Kd.V_mono (Kd.V_told (Kd.V_told (Kd.V_old (vV_ HO_5) hb) (Kd.R_base ho1)) (Kd.R_base ho2)) (fun _ h_ => h_.1)); have n1_ := Aside0.mk (Kd.V_mono (Kd.V_told (Kd.V_told (Kd.V_old (vV_ HO529) hb) (Kd.R_base ho1)) (Kd.R_base ho2)) (fun _ h_ => h_.1)); have n2_ := Aside0.mk (Kd.V_lower (Kd.V_mono (ok' := fun k_ => (P1_ k_ ∨ w.heap.size ≤ k_) ∧ some k_ ≠ (v538 : Value).ownBlock ∧ some k_ ≠ (v541 : Value).ownBlock ∧ k_ ≠ gb521 ∧ k_ ≠ gb525 ∧ k_ ≠ gb526) ho0 (fun k_ hk_ => ⟨Or.elim hk_.1 (fun hs_ => hs_.1) (fun hn_ => (.inr (Nat.le_trans (below_size (hB_ HB)) hn_))), hk_.2.1, hk_.2.2, Or.elim hk_.1 (fun hs_ => hs_.2.1) (fun hn_ => (fB_ BK521 k_ hn_)), Or.elim hk_.1 (fun hs_ => hs_.2.2.1) (fun hn_ => (fB_ BK525 k_ hn_)), Or.elim hk_.1 (fun hs_ => hs_.2.2.2) (fun hn_ => (fB_ BK526 k_ hn_))⟩)) (below_size (hB_ HB))); have n3_ := Aside0.mk (Kd.R_lower (Kd.R_newM (M := fun k_ => (w.heap.size ≤ k_)) (Kd.R_mono (ok' := fun k_ => True) ho1 (fun _ hk_ => trivial)) (below_size (hB_ HB)) (fun k_ h_ => h_)) (below_size (hB_ HB))); have n4_ := Aside0.mk (Kd.R_lower (Kd.R_newM (M := fun k_ => (w.heap.size ≤ k_)) (Kd.R_mono (ok' := fun k_ => True) ho2 (fun _ hk_ => trivial)) (below_size (hB_ HB)) (fun k_ h_ => h_)) (below_size (hB_ HB))); have n6_ := bB_ BK525 hb; have n8_ := Aside0.mk (below_step (hB_ HB) hb); clear HO_5; clear HO529; clear BK525; clear HB; have HO_5 := n0_; have HO529 := n1_; have HO533 := n2_; have HO539 := n3_; have HO542 := n4_; have BK525 := n6_; have HB := n8_; replace BK521 := bB_ BK521 hb; replace BK526 := bB_ BK526 hb; clear n0_ n1_ n2_ n3_ n4_ n6_ n8_; (try clear hb); (try clear hb2); (try clear hk); (try clear hi); (try clear ho0); (try clear ho1); (try clear ho2)) | ((with_reducible refine gate_dst (N := 13) rfl ?_); (try (refine gate_guard (by rfl) ?_; dsimp only)); refine box_event ?hg (N := 13) ?hd (cs := #[.int .i64 0, .int .u32 0, .bool false, .slice none 0 0, .slice none 0 0]) (t := 34) ?hr ?_; (case hd => rfl); (case hg => rfl); (case hr => first | (go_simp; done) | (go_simp; rfl)); intro gb543 hg w37 hbox hb; have n0_ := Aside0.mk (Kd.V_below (Kd.V_elderB (vV_ HO_5) gb543 (Nat.le_of_eq hg.symm)) hb); have n1_ := Aside0.mk (Kd.V_below (Kd.V_elderB (vV_ HO529) gb543 (Nat.le_of_eq hg.symm)) hb); have n2_ := Aside0.mk (Kd.V_below (Kd.V_elderB (vV_ HO533) gb543 (Nat.le_of_eq hg.symm)) hb); have n3_ := Aside0.mk (Kd.R_below (rR_ HO539) hb); have n4_ := Aside0.mk (Kd.R_below (rR_ HO542) hb); have n6_ := bB_ BK525 hb; have n8_ := Aside0.mk (below_step (hB_ HB) hb); have n9_ := Aside0.mk (hbox); have n10_ := gG_ (w := w) hg HB; have n11_ := gG_ (w := w) hg HB; have n12_ := nL_ hg BK521; have n13_ := nG_ hg BK521; have n14_ := nL_ hg BK525; have n15_ := nG_ hg BK525; have n16_ := nL_ hg BK526; have n17_ := nG_ hg BK526; clear HO_5; clear HO529; clear HO533; clear HO539; clear HO542; clear BK525; clear HB; have HO_5 := n0_; have HO529 := n1_; have HO533 := n2_; have HO539 := n3_; have HO542 := n4_; have BK525 := n6_; have HB := n8_; have BK543 := n9_; have GW543 := n10_; have GE543 := n11_; have NB521_543 := n12_; have NB543_521 := n13_; have NB525_543 := n14_; have NB543_525 := n15_; have NB526_543 := n16_; have NB543_526 := n17_; replace BK521 := bB_ BK521 hb; replace BK526 := bB_ BK526 hb; clear n0_ n1_ n2_ n3_ n4_ n6_ n8_ n9_ n10_ n11_ n12_ n13_ n14_ n15_ n16_ n17_; clear hb hbox hg; have hnb38 := NB543_521.out; have hnc38 := NB521_543.out; have hnb39 := NB543_525.out; have hnc39 := NB525_543.out; have hnb40 := NB543_526.out; have hnc40 := NB526_543.out; obtain ⟨hcz41_0, hcz41_1, hcz41_2, hcz41_3, hcz41_4, hfz41_0, hfz41_1, hfz41_2, hfz41_3, hfz41_4⟩ := cz5_ (w := w37) BK543; obtain ⟨Ao42, co42, eo42⟩ := Kd.R_slice HO539.out; subst eo42; obtain ⟨Ao43, co43, eo43⟩ := Kd.R_slice HO542.out; subst eo43))
       (try simp only [Act.put, List.setIfInBounds_toArray, List.set_cons_zero, List.set_cons_succ])
       go_cut [56] (fun v56 wc => ∃ (kq : Nat) (x56_24 : Bool), v56 = .bool x56_24 ∧ Aside0 (lodgerlaw11_SpecFull.j2 kq x5_2 x8_2 x9_2 t530 t531 x56_24 a0_0 a0_1 l0_2 a0_3 a0_4 a0_5 a0_6 1 0 9 0 false t534 t535 t536 t537 t540 = some r) ∧ Aside0 (kq ≤ k2) ∧ Aside0 (Kd.V (Kd.int .i64) 3 wc w.heap.size (fun k_ => (P1_ k_ ∨ w.heap.size ≤ k_) ∧ some k_ ≠ ((.slice Ao42 t537.length co42) : Value).ownBlock ∧ some k_ ≠ ((.slice Ao43 t540.length co43) : Value).ownBlock ∧ k_ ≠ gb521 ∧ k_ ≠ gb525 ∧ k_ ≠ gb526 ∧ k_ ≠ gb543) (.slice Ao32 x5_2.length co32) x5_2) ∧ Aside0 (Kd.V (Kd.int .i64) 3 wc w.heap.size (fun k_ => (P1_ k_ ∨ w.heap.size ≤ k_) ∧ some k_ ≠ ((.slice Ao42 t537.length co42) : Value).ownBlock ∧ some k_ ≠ ((.slice Ao43 t540.length co43) : Value).ownBlock ∧ k_ ≠ gb521 ∧ k_ ≠ gb525 ∧ k_ ≠ gb526 ∧ k_ ≠ gb543) v532 t531) ∧ Aside0 (Kd.R (Kd.int .u32) 22 wc w.heap.size (fun k_ => (w.heap.size ≤ k_)) (.slice Ao42 t537.length co42) t537) ∧ Aside0 (Kd.R (Kd.int .i64) 31 wc w.heap.size (fun k_ => (w.heap.size ≤ k_)) (.slice Ao43 t540.length co43) t540) ∧ Aside0 (wc.heap[gb521]? = some (.cells #[.int .u32 a0_0, .int .i64 a0_1, (.slice A0_2 l0_2.length c0_2), .int .i64 a0_3, .int .i64 a0_4, .int .i64 a0_5, .int .i64 a0_6] 27 (0, 0))) ∧ Aside0 (wc.heap[gb525]? = some (.cells #[.int .i64 1, .int .u32 0, (.slice none 0 0)] 30 (0, 0))) ∧ Aside0 (wc.heap[gb526]? = some (.cells #[.int .i64 9, .int .u32 0, .bool false, (.slice none 0 0), (.slice none 0 0)] 34 (0, 0))) ∧ Aside0 (wc.heap[gb543]? = some (.cells #[.int .i64 t534, .int .u32 t535, .bool t536, (.slice Ao42 t537.length co42), (.slice Ao43 t540.length co43)] 34 (0, 0))) ∧ Aside0 (Below w.heap.size w wc))
       case first =>
        have H := HC25.out
        clear HC25
        by_cases c44 : (t530 != (t534 == 9)) = true
        ·rw [if_pos c44] at H
         have c44b0 : (t530 != (t534 == 9)) = true := c44
         (try (have c44b1 : decide (t530 = (t534 == 9)) = false := by simpa using c44))
         (try (have c44b2 : (t530 == (t534 == 9)) = false := by simpa using c44))
         (try (have c44b3 : ¬ (t530 = (t534 == 9)) := by simpa using c44))
         clear c44
         (first | rw [c44b0] | (simp only [i64_w, i32_w]; rw [c44b0]) | skip)
         have H' := Aside0.mk H
         clear H
         have hnb45 := NB543_521.out
         have hnc45 := NB521_543.out
         have hnb46 := NB543_525.out
         have hnc46 := NB525_543.out
         have hnb47 := NB543_526.out
         have hnc47 := NB526_543.out
         obtain ⟨hcz48_0, hcz48_1, hcz48_2, hcz48_3, hcz48_4, hfz48_0, hfz48_1, hfz48_2, hfz48_3, hfz48_4⟩ := cz5_ (w := w37) BK543
         go_wp2
         go_meet
         case rel => exact ⟨_, (true), rs_, H', ⟨by have := HJ2.out; have := HK2.out; first | omega | exact Nat.le_refl _⟩, ⟨by (with_reducible repeat (first | apply Kd.V_alloc | apply Kd.V_drewN | apply Kd.V_drew)); exact Kd.V_mono (vF5_ (g := gb543) (Kd.V_mono HO_5.out (fun k_ hk => (⟨hk, hk.2⟩ : _ ∧ k_ ≠ gb543))) (fun _ hk => hk.2)) (fun _ hk => ⟨hk.1.1.1.1.1, ⟨hk.1.1.1.2, ⟨hk.1.1.2, ⟨hk.1.1.1.1.2.1, ⟨hk.1.1.1.1.2.2.1, ⟨hk.1.1.1.1.2.2.2, hk.1.2⟩⟩⟩⟩⟩⟩)⟩, ⟨by (with_reducible repeat (first | apply Kd.V_alloc | apply Kd.V_drewN | apply Kd.V_drew)); exact Kd.V_mono (vF5_ (g := gb543) (Kd.V_mono HO533.out (fun k_ hk => (⟨hk, hk.2⟩ : _ ∧ k_ ≠ gb543))) (fun _ hk => hk.2)) (fun _ hk => ⟨hk.1.1.1, ⟨hk.1.1.2.1, ⟨hk.1.1.2.2.1, ⟨hk.1.1.2.2.2.1, ⟨hk.1.1.2.2.2.2.1, ⟨hk.1.1.2.2.2.2.2, hk.1.2⟩⟩⟩⟩⟩⟩)⟩, ⟨by (with_reducible repeat (first | apply Kd.R_alloc | apply Kd.R_drewN | apply Kd.R_drew)); exact Kd.R_mono (rF5_ (g := gb543) (Kd.R_types HO539.out BK543.out (by decide)) (fun _ hk => hk.2)) (fun _ hk => hk.1.1)⟩, ⟨by (with_reducible repeat (first | apply Kd.R_alloc | apply Kd.R_drewN | apply Kd.R_drew)); exact Kd.R_mono (rF5_ (g := gb543) (Kd.R_types HO542.out BK543.out (by decide)) (fun _ hk => hk.2)) (fun _ hk => hk.1.1)⟩, ⟨by (with_reducible repeat (first | refine blk_drewN ?_ _ | refine blk_drew ?_ | refine blk_alloc ?_ _)); refine blk_far ?_ NB521_543.out _; refine blk_far ?_ NB521_543.out _; refine blk_far ?_ NB521_543.out _; refine blk_far ?_ NB521_543.out _; refine blk_far ?_ NB521_543.out _; (with_reducible repeat (first | refine blk_drewN ?_ _ | refine blk_drew ?_ | refine blk_alloc ?_ _)); exact BK521.out⟩, ⟨by (with_reducible repeat (first | refine blk_drewN ?_ _ | refine blk_drew ?_ | refine blk_alloc ?_ _)); refine blk_far ?_ NB525_543.out _; refine blk_far ?_ NB525_543.out _; refine blk_far ?_ NB525_543.out _; refine blk_far ?_ NB525_543.out _; refine blk_far ?_ NB525_543.out _; (with_reducible repeat (first | refine blk_drewN ?_ _ | refine blk_drew ?_ | refine blk_alloc ?_ _)); exact BK525.out⟩, ⟨by (with_reducible repeat (first | refine blk_drewN ?_ _ | refine blk_drew ?_ | refine blk_alloc ?_ _)); refine blk_far ?_ NB526_543.out _; refine blk_far ?_ NB526_543.out _; refine blk_far ?_ NB526_543.out _; refine blk_far ?_ NB526_543.out _; refine blk_far ?_ NB526_543.out _; (with_reducible repeat (first | refine blk_drewN ?_ _ | refine blk_drew ?_ | refine blk_alloc ?_ _)); exact BK526.out⟩, ⟨by (with_reducible repeat (first | refine blk_drewN ?_ _ | refine blk_drew ?_ | refine blk_alloc ?_ _)); refine blk_put (cs := #[.int .i64 t534, .int .u32 t535, .bool t536, .slice Ao42 t537.length co42, .slice none 0 0]) ?_ 4 _ rfl; refine blk_put (cs := #[.int .i64 t534, .int .u32 t535, .bool t536, .slice none 0 0, .slice none 0 0]) ?_ 3 _ rfl; refine blk_put (cs := #[.int .i64 t534, .int .u32 t535, .bool false, .slice none 0 0, .slice none 0 0]) ?_ 2 _ rfl; refine blk_put (cs := #[.int .i64 t534, .int .u32 0, .bool false, .slice none 0 0, .slice none 0 0]) ?_ 1 _ rfl; refine blk_put (cs := #[.int .i64 0, .int .u32 0, .bool false, .slice none 0 0, .slice none 0 0]) ?_ 0 _ rfl; (with_reducible repeat (first | refine blk_drewN ?_ _ | refine blk_drew ?_ | refine blk_alloc ?_ _)); exact BK543.out⟩, ⟨hB_ HB⟩⟩
        ·rw [if_neg c44] at H
         have c44b0 : (t530 != (t534 == 9)) = false := by simpa using c44
         (try (have c44b1 : decide (t530 = (t534 == 9)) = true := by simpa using c44))
         (try (have c44b2 : (t530 == (t534 == 9)) = true := by simpa using c44))
         clear c44
         (first | rw [c44b0] | (simp only [i64_w, i32_w]; rw [c44b0]) | skip)
         replace H := Option.bind_eq_some_iff.mp H
         obtain ⟨t544, A490, H⟩ := H
         replace H : (lodgerlaw11_SpecFull.j2 k2 x5_2 x8_2 x9_2 t530 t531 (t530 != t544) a0_0 a0_1 l0_2 a0_3 a0_4 a0_5 a0_6 1 0 9 0 false t534 t535 t536 t537 t540) = some r := H
         have A49 := Aside0.mk A490
         clear A490
         have H' := Aside0.mk H
         clear H
         have hnb50 := NB543_521.out
         have hnc50 := NB521_543.out
         have hnb51 := NB543_525.out
         have hnc51 := NB525_543.out
         have hnb52 := NB543_526.out
         have hnc52 := NB526_543.out
         obtain ⟨hcz53_0, hcz53_1, hcz53_2, hcz53_3, hcz53_4, hfz53_0, hfz53_1, hfz53_2, hfz53_3, hfz53_4⟩ := cz5_ (w := w37) BK543
         have hnb54 := NB521_525.out
         have hnc54 := NB525_521.out
         have hnb55 := NB521_526.out
         have hnc55 := NB526_521.out
         obtain ⟨hcz56_0, hcz56_1, hcz56_2, hcz56_3, hcz56_4, hcz56_5, hcz56_6, hfz56_0, hfz56_1, hfz56_2, hfz56_3, hfz56_4, hfz56_5, hfz56_6⟩ := cz7_ (w := w37) BK521
         go_wp2_with (first | (go_at_call 27; (with_reducible refine (lodgerref09_Full.calls k2 a0_0 a0_1 _ _ l0_2 a0_3 a0_4 a0_5 a0_6 _ _ x5_2 t544 _ ?side1 ?side2 ?side3 ?side4 A49.out).mono ?_); (case side1 => exact Kd.C_below HR0_2.out (hB_ HB)); (case side2 => exact HC0_2.out); (case side3 => refine (Kd.V_reads' (e := 3) (base := w.heap.size) (ok := fun k_ => (((((P1_ k_ ∨ w.heap.size ≤ k_) ∧ (k_ ≠ gb521 ∧ (k_ ≠ gb525 ∧ k_ ≠ gb526))) ∧ some k_ ≠ (.slice Ao42 t537.length co42 : Value).ownBlock) ∧ some k_ ≠ (.slice Ao43 t540.length co43 : Value).ownBlock) ∧ k_ ≠ gb543)) (n := x5_2.length) (c := co32) ?_).2.2; exact (by (with_reducible repeat (first | apply Kd.V_alloc | apply Kd.V_drewN | apply Kd.V_drew)); exact (Kd.V_mono (vF5_ (g := gb543) (Kd.V_mono HO_5.out (fun k_ hk => (⟨hk, hk.2⟩ : _ ∧ k_ ≠ gb543))) (fun _ hk => hk.2)) (fun _ h_ => h_.1)))); (case side4 => exact (Kd.V_reads' HO_5.out).2.1); rintro e w57 ⟨rfl, hb⟩; have n0_ := Aside0.mk (Kd.V_below (by (with_reducible repeat (first | apply Kd.V_alloc | apply Kd.V_drewN | apply Kd.V_drew)); exact (Kd.V_mono (vF5_ (g := gb543) (Kd.V_mono HO_5.out (fun k_ hk => (⟨hk, hk.2⟩ : _ ∧ k_ ≠ gb543))) (fun _ hk => hk.2)) (fun _ h_ => h_.1))) hb); have n1_ := Aside0.mk (Kd.V_below (by (with_reducible repeat (first | apply Kd.V_alloc | apply Kd.V_drewN | apply Kd.V_drew)); exact (Kd.V_mono (vF5_ (g := gb543) (Kd.V_mono HO529.out (fun k_ hk => (⟨hk, hk.2⟩ : _ ∧ k_ ≠ gb543))) (fun _ hk => hk.2)) (fun _ h_ => h_.1))) hb); have n2_ := Aside0.mk (Kd.V_below (by (with_reducible repeat (first | apply Kd.V_alloc | apply Kd.V_drewN | apply Kd.V_drew)); exact (Kd.V_mono (vF5_ (g := gb543) (Kd.V_mono HO533.out (fun k_ hk => (⟨hk, hk.2⟩ : _ ∧ k_ ≠ gb543))) (fun _ hk => hk.2)) (fun _ h_ => h_.1))) hb); have n3_ := Aside0.mk (Kd.R_below (by (with_reducible repeat (first | apply Kd.R_alloc | apply Kd.R_drewN | apply Kd.R_drew)); exact (Kd.R_mono (rF5_ (g := gb543) (Kd.R_types HO539.out BK543.out (by decide)) (fun _ hk => hk.2)) (fun _ h_ => h_.1))) hb); have n4_ := Aside0.mk (Kd.R_below (by (with_reducible repeat (first | apply Kd.R_alloc | apply Kd.R_drewN | apply Kd.R_drew)); exact (Kd.R_mono (rF5_ (g := gb543) (Kd.R_types HO542.out BK543.out (by decide)) (fun _ hk => hk.2)) (fun _ h_ => h_.1))) hb); have n5_ := Aside0.mk (blk_below (g := gb521) (o := .cells #[.int .u32 a0_0, .int .i64 a0_1, .slice A0_2 l0_2.length c0_2, .int .i64 a0_3, .int .i64 a0_4, .int .i64 a0_5, .int .i64 a0_6] 27 (0, 0)) (by (with_reducible repeat (first | refine blk_drewN ?_ _ | refine blk_drew ?_ | refine blk_alloc ?_ _)); refine blk_far ?_ NB521_543.out _; refine blk_far ?_ NB521_543.out _; refine blk_far ?_ NB521_543.out _; refine blk_far ?_ NB521_543.out _; refine blk_far ?_ NB521_543.out _; (with_reducible repeat (first | refine blk_drewN ?_ _ | refine blk_drew ?_ | refine blk_alloc ?_ _)); exact BK521.out) hb); have n6_ := Aside0.mk (blk_below (g := gb525) (o := .cells #[.int .i64 1, .int .u32 0, .slice none 0 0] 30 (0, 0)) (by (with_reducible repeat (first | refine blk_drewN ?_ _ | refine blk_drew ?_ | refine blk_alloc ?_ _)); refine blk_far ?_ NB525_543.out _; refine blk_far ?_ NB525_543.out _; refine blk_far ?_ NB525_543.out _; refine blk_far ?_ NB525_543.out _; refine blk_far ?_ NB525_543.out _; (with_reducible repeat (first | refine blk_drewN ?_ _ | refine blk_drew ?_ | refine blk_alloc ?_ _)); exact BK525.out) hb); have n7_ := Aside0.mk (blk_below (g := gb526) (o := .cells #[.int .i64 9, .int .u32 0, .bool false, .slice none 0 0, .slice none 0 0] 34 (0, 0)) (by (with_reducible repeat (first | refine blk_drewN ?_ _ | refine blk_drew ?_ | refine blk_alloc ?_ _)); refine blk_far ?_ NB526_543.out _; refine blk_far ?_ NB526_543.out _; refine blk_far ?_ NB526_543.out _; refine blk_far ?_ NB526_543.out _; refine blk_far ?_ NB526_543.out _; (with_reducible repeat (first | refine blk_drewN ?_ _ | refine blk_drew ?_ | refine blk_alloc ?_ _)); exact BK526.out) hb); have n8_ := Aside0.mk (blk_below (g := gb543) (o := .cells #[.int .i64 t534, .int .u32 t535, .bool t536, .slice Ao42 t537.length co42, .slice Ao43 t540.length co43] 34 (0, 0)) (by (with_reducible repeat (first | refine blk_drewN ?_ _ | refine blk_drew ?_ | refine blk_alloc ?_ _)); refine blk_put (cs := #[.int .i64 t534, .int .u32 t535, .bool t536, .slice Ao42 t537.length co42, .slice none 0 0]) ?_ 4 _ rfl; refine blk_put (cs := #[.int .i64 t534, .int .u32 t535, .bool t536, .slice none 0 0, .slice none 0 0]) ?_ 3 _ rfl; refine blk_put (cs := #[.int .i64 t534, .int .u32 t535, .bool false, .slice none 0 0, .slice none 0 0]) ?_ 2 _ rfl; refine blk_put (cs := #[.int .i64 t534, .int .u32 0, .bool false, .slice none 0 0, .slice none 0 0]) ?_ 1 _ rfl; refine blk_put (cs := #[.int .i64 0, .int .u32 0, .bool false, .slice none 0 0, .slice none 0 0]) ?_ 0 _ rfl; (with_reducible repeat (first | refine blk_drewN ?_ _ | refine blk_drew ?_ | refine blk_alloc ?_ _)); exact BK543.out) hb); clear HO_5; clear HO529; clear HO533; clear HO539; clear HO542; clear BK521; clear BK525; clear BK526; clear BK543; have HO_5 := n0_; have HO529 := n1_; have HO533 := n2_; have HO539 := n3_; have HO542 := n4_; have BK521 := n5_; have BK525 := n6_; have BK526 := n7_; have BK543 := n8_; replace HB := hS_ HB hb; clear n0_ n1_ n2_ n3_ n4_ n5_ n6_ n7_ n8_; (try clear hb); (try clear hb2); (try clear hk); (try clear hi)))
         go_meet
         case rel => exact ⟨_, ((t530 != t544)), rs_, H', ⟨by have := HJ2.out; have := HK2.out; first | omega | exact Nat.le_refl _⟩, ⟨by (with_reducible repeat (first | apply Kd.V_alloc | apply Kd.V_drewN | apply Kd.V_drew)); exact Kd.V_mono HO_5.out (fun _ hk => ⟨hk.1.1.1.1, ⟨hk.1.1.2, ⟨hk.1.2, ⟨hk.1.1.1.2.1, ⟨hk.1.1.1.2.2.1, ⟨hk.1.1.1.2.2.2, hk.2⟩⟩⟩⟩⟩⟩)⟩, ⟨by (with_reducible repeat (first | apply Kd.V_alloc | apply Kd.V_drewN | apply Kd.V_drew)); exact Kd.V_mono HO533.out (fun _ hk => ⟨hk.1.1, ⟨hk.1.2.1, ⟨hk.1.2.2.1, ⟨hk.1.2.2.2.1, ⟨hk.1.2.2.2.2.1, ⟨hk.1.2.2.2.2.2, hk.2⟩⟩⟩⟩⟩⟩)⟩, ⟨by (with_reducible repeat (first | apply Kd.R_alloc | apply Kd.R_drewN | apply Kd.R_drew)); exact Kd.R_mono HO539.out (fun _ hk => hk.1)⟩, ⟨by (with_reducible repeat (first | apply Kd.R_alloc | apply Kd.R_drewN | apply Kd.R_drew)); exact Kd.R_mono HO542.out (fun _ hk => hk.1)⟩, ⟨bk_ BK521⟩, ⟨bk_ BK525⟩, ⟨bk_ BK526⟩, ⟨bk_ BK543⟩, ⟨hB_ HB⟩⟩
       case rest =>
        clear HC25
        try clear c1
        try clear c2
        try clear p2
        try clear c3
        try clear c4
        try clear c5
        try clear c6
        try clear c7
        try clear c9
        try clear c12
        try clear c13
        try clear c15
        try clear c16
        try clear c19
        try clear c20
        try clear c22
        try clear c22b0
        try clear c26
        try clear c27
        try clear c29
        try clear c38
        try clear c39
        try clear c40
        try clear c44
        try clear c44b0
        try clear c44b1
        try clear c44b2
        try clear c45
        try clear c46
        try clear c47
        try clear c50
        try clear c51
        try clear c52
        try clear c54
        try clear c55
        try clear hcz17_0 hcz17_1 hcz17_2
        try clear hcz21_0 hcz21_1 hcz21_2 hcz21_3 hcz21_4
        try clear hcz28_0 hcz28_1 hcz28_2 hcz28_3 hcz28_4 hcz28_5 hcz28_6
        try clear hcz30_0 hcz30_1 hcz30_2
        try clear hcz31_0 hcz31_1 hcz31_2 hcz31_3 hcz31_4
        try clear hcz34_0 hcz34_1 hcz34_2 hcz34_3 hcz34_4 hcz34_5 hcz34_6
        try clear hcz35_0 hcz35_1 hcz35_2
        try clear hcz41_0 hcz41_1 hcz41_2 hcz41_3 hcz41_4
        try clear hcz48_0 hcz48_1 hcz48_2 hcz48_3 hcz48_4
        try clear hcz53_0 hcz53_1 hcz53_2 hcz53_3 hcz53_4
        try clear hcz56_0 hcz56_1 hcz56_2 hcz56_3 hcz56_4 hcz56_5 hcz56_6
        try clear hcz9_0 hcz9_1 hcz9_2 hcz9_3 hcz9_4 hcz9_5 hcz9_6
        try clear hfz17_0 hfz17_1 hfz17_2
        try clear hfz21_0 hfz21_1 hfz21_2 hfz21_3 hfz21_4
        try clear hfz28_0 hfz28_1 hfz28_2 hfz28_3 hfz28_4 hfz28_5 hfz28_6
        try clear hfz30_0 hfz30_1 hfz30_2
        try clear hfz31_0 hfz31_1 hfz31_2 hfz31_3 hfz31_4
        try clear hfz34_0 hfz34_1 hfz34_2 hfz34_3 hfz34_4 hfz34_5 hfz34_6
        try clear hfz35_0 hfz35_1 hfz35_2
        try clear hfz41_0 hfz41_1 hfz41_2 hfz41_3 hfz41_4
        try clear hfz48_0 hfz48_1 hfz48_2 hfz48_3 hfz48_4
        try clear hfz53_0 hfz53_1 hfz53_2 hfz53_3 hfz53_4
        try clear hfz56_0 hfz56_1 hfz56_2 hfz56_3 hfz56_4 hfz56_5 hfz56_6
        try clear hfz9_0 hfz9_1 hfz9_2 hfz9_3 hfz9_4 hfz9_5 hfz9_6
        try clear p2
        obtain ⟨kq, x56_24, rfl, HA, HJ24, HO_5, HO_12, HO_544003, HO_544004, BK521, BK525, BK526, BK543, HB⟩ := hcut
        cases kq with
        | zero => exact absurd HA.out (by simp [lodgerlaw11_SpecFull.j2])
        | succ kj24 =>
         have H := HA.out
         clear HA
         simp only [lodgerlaw11_SpecFull.j2] at H
         by_cases c58 : x56_24 = true
         ·subst c58
          have H1 : (some false) = some r := by rw [if_pos rfl] at H; exact H
          rw [hr_.out] at H1
          exact absurd (Option.some.inj H1) (by decide)
         ·replace c58 := Bool.eq_false_iff.mpr c58
          subst c58
          have H1 : (if t530 = true then ((lodgerref03_Ints.f kj24 t531 x5_2).bind fun t545 => (some t545)) else (if x9_2 > 0 then (if t535 ≤ x8_2 then (some false) else (if (t531.length : Int) = (wrap64 ((x5_2.length : Int) + 1)) then (lodgerlaw11_SpecFull.l0 kj24 t531 t535 (wrap64 (x9_2 + 1)) a0_0 a0_1 l0_2 a0_3 a0_4 a0_5 a0_6 1 0 9 0 false) else (some false))) else (if (t531.length : Int) = (wrap64 ((x5_2.length : Int) + 1)) then (lodgerlaw11_SpecFull.l0 kj24 t531 t535 (wrap64 (x9_2 + 1)) a0_0 a0_1 l0_2 a0_3 a0_4 a0_5 a0_6 1 0 9 0 false) else (some false)))) = some r := by rw [if_neg (show ¬ (false = true) by decide)] at H; exact H
          clear H
          have H := H1
          clear H1
          by_cases c59 : t530 = true
          ·subst c59
           have H1 : ((lodgerref03_Ints.f kj24 t531 x5_2).bind fun t545 => (some t545)) = some r := by rw [if_pos rfl] at H; exact H
           clear H
           have H := H1
           clear H1
           replace H := Option.bind_eq_some_iff.mp H
           obtain ⟨t545, A600, H⟩ := H
           replace H : (some t545) = some r := H
           have A60 := Aside0.mk A600
           clear A600
           first | (exfalso; rw [hr_.out] at H; exact absurd (Option.some.inj H) (by decide)) | (try clear hr_)
           all_goals
            obtain rfl := Option.some.inj H
            obtain ⟨Ao61, co61, eo61⟩ := Kd.V_slice HO_12.out
            subst eo61
            go_wp2_with (first | ((with_reducible refine gate_callee (f := 17) rfl ?_); refine goesL_ (some 60) rfl rfl Tryd.func17 (by kernel_rfl) rfl #[.slice Ao61 t531.length co61, .slice Ao32 x5_2.length co32] rfl am_ ?_; (with_reducible refine (lodgerref03_Ints.calls kj24 _ _ t531 _ _ x5_2 t545 _ ?side1 ?side2 ?side3 ?side4 A60.out).mono ?_); (case side1 => repeat (first | exact (Kd.V_reads' HO_12.out).2.2 | (with_reducible refine Kd.C_alloc ?_ _) | (with_reducible refine Kd.C_drewN ?_ _) | (with_reducible refine Kd.C_drew ?_))); (case side2 => exact (Kd.V_reads' HO_12.out).2.1); (case side3 => repeat (first | exact (Kd.V_reads' HO_5.out).2.2 | (with_reducible refine Kd.C_alloc ?_ _) | (with_reducible refine Kd.C_drewN ?_ _) | (with_reducible refine Kd.C_drew ?_))); (case side4 => exact (Kd.V_reads' HO_5.out).2.1); rintro e w' ⟨rfl, ⟨nd, rfl⟩⟩; refine ⟨_, rfl, ?_⟩))
            go_ret
            exact ⟨er_, hB_ HB⟩
          ·replace c59 := Bool.eq_false_iff.mpr c59
           subst c59
           have H1 : (if x9_2 > 0 then (if t535 ≤ x8_2 then (some false) else (if (t531.length : Int) = (wrap64 ((x5_2.length : Int) + 1)) then (lodgerlaw11_SpecFull.l0 kj24 t531 t535 (wrap64 (x9_2 + 1)) a0_0 a0_1 l0_2 a0_3 a0_4 a0_5 a0_6 1 0 9 0 false) else (some false))) else (if (t531.length : Int) = (wrap64 ((x5_2.length : Int) + 1)) then (lodgerlaw11_SpecFull.l0 kj24 t531 t535 (wrap64 (x9_2 + 1)) a0_0 a0_1 l0_2 a0_3 a0_4 a0_5 a0_6 1 0 9 0 false) else (some false))) = some r := by rw [if_neg (show ¬ (false = true) by decide)] at H; exact H
           clear H
           have H := H1
           clear H1
           by_cases c62 : x9_2 > 0
           ·rw [if_pos c62] at H
            have c62b0 : decide (0 < x9_2) = true := decide_eq_true c62
            clear c62
            by_cases c63 : t535 ≤ x8_2
            ·rw [if_pos c63] at H
             rw [hr_.out] at H
             exact absurd (Option.some.inj H) (by decide)
            ·rw [if_neg c63] at H
             have c63b0 : decide (t535 ≤ x8_2) = false := decide_eq_false c63
             clear c63
             by_cases c68 : (t531.length : Int) = (wrap64 ((x5_2.length : Int) + 1))
             ·rw [if_pos c68] at H
              have c68b0 : ((t531.length : Int) == (wrap64 ((x5_2.length : Int) + 1))) = true := beq_iff_eq.mpr c68
              have c68b1 : ((t531.length : Int) != (wrap64 ((x5_2.length : Int) + 1))) = false := bne_eq_false_iff_eq.mpr c68
              clear c68
              have H' := Aside0.mk H
              clear H
              have hnb69 := NB543_521.out
              have hnc69 := NB521_543.out
              have hnb70 := NB543_525.out
              have hnc70 := NB525_543.out
              have hnb71 := NB543_526.out
              have hnc71 := NB526_543.out
              obtain ⟨hcz72_0, hcz72_1, hcz72_2, hcz72_3, hcz72_4, hfz72_0, hfz72_1, hfz72_2, hfz72_3, hfz72_4⟩ := cz5_ (w := wc) BK543
              obtain ⟨Ao73, co73, eo73⟩ := Kd.V_slice HO_12.out
              subst eo73
              go_wp2
              go_roundg kj24
              case measure => have := HJ2.out; have := HK2.out; have := HJ24.out; omega
              case rel => exact ⟨(t531), (t535), (wrap64 (x9_2 + 1)), rs_, rs_, H', ⟨by have := HJ2.out; have := HK2.out; have := HJ24.out; omega⟩, ⟨by (with_reducible repeat (first | apply Kd.V_alloc | apply Kd.V_drewN | apply Kd.V_drew)); exact Kd.V_mono HO_12.out (fun _ hk => ⟨hk.1, ⟨hk.2.2.2.1, ⟨hk.2.2.2.2.1, hk.2.2.2.2.2.1⟩⟩⟩)⟩, ⟨bk_ BK521⟩, ⟨bk_ BK525⟩, ⟨bk_ BK526⟩, ⟨hB_ HB⟩⟩
             ·rw [if_neg c68] at H
              rw [hr_.out] at H
              exact absurd (Option.some.inj H) (by decide)
           ·rw [if_neg c62] at H
            have c62b0 : decide (0 < x9_2) = false := decide_eq_false c62
            clear c62
            by_cases c79 : (t531.length : Int) = (wrap64 ((x5_2.length : Int) + 1))
            ·rw [if_pos c79] at H
             have c79b0 : ((t531.length : Int) == (wrap64 ((x5_2.length : Int) + 1))) = true := beq_iff_eq.mpr c79
             have c79b1 : ((t531.length : Int) != (wrap64 ((x5_2.length : Int) + 1))) = false := bne_eq_false_iff_eq.mpr c79
             clear c79
             have H' := Aside0.mk H
             clear H
             obtain ⟨Ao80, co80, eo80⟩ := Kd.V_slice HO_12.out
             subst eo80
             have hnb81 := NB543_521.out
             have hnc81 := NB521_543.out
             have hnb82 := NB543_525.out
             have hnc82 := NB525_543.out
             have hnb83 := NB543_526.out
             have hnc83 := NB526_543.out
             obtain ⟨hcz84_0, hcz84_1, hcz84_2, hcz84_3, hcz84_4, hfz84_0, hfz84_1, hfz84_2, hfz84_3, hfz84_4⟩ := cz5_ (w := wc) BK543
             go_wp2
             go_roundg kj24
             case measure => have := HJ2.out; have := HK2.out; have := HJ24.out; omega
             case rel => exact ⟨(t531), (t535), (wrap64 (x9_2 + 1)), rs_, rs_, H', ⟨by have := HJ2.out; have := HK2.out; have := HJ24.out; omega⟩, ⟨by (with_reducible repeat (first | apply Kd.V_alloc | apply Kd.V_drewN | apply Kd.V_drew)); exact Kd.V_mono HO_12.out (fun _ hk => ⟨hk.1, ⟨hk.2.2.2.1, ⟨hk.2.2.2.2.1, hk.2.2.2.2.2.1⟩⟩⟩)⟩, ⟨bk_ BK521⟩, ⟨bk_ BK525⟩, ⟨bk_ BK526⟩, ⟨hB_ HB⟩⟩
            ·rw [if_neg c79] at H
             rw [hr_.out] at H
             exact absurd (Option.some.inj H) (by decide)
      ·rw [if_neg c22] at H
       have c22b0 : decide (x9_2 < 257) = false := decide_eq_false c22
       clear c22
       first | (exfalso; rw [hr_.out] at H; exact absurd (Option.some.inj H) (by decide)) | (try clear hr_)
       all_goals
        obtain rfl := Option.some.inj H
        go_wp2
        go_ret
        exact ⟨er_, hB_ HB⟩

/-- THE ONE PURE STATEMENT of lodgerlaw11_SpecFull: yours. -/
def lodgerlaw11_SpecFull.Pure : Prop := ∀ (a0_0 : Int) (a0_1 : Int) (l0_2 : List Int) (a0_3 : Int) (a0_4 : Int) (a0_5 : Int) (a0_6 : Int) (l1 : List Int), (Lit.int .u32 a0_0).wf = true → (Lit.int .i64 a0_1).wf = true → l0_2.length ≤ maxLen → (∀ x ∈ l0_2, (Lit.int .i64 x).wf = true) → (Lit.int .i64 a0_3).wf = true → (Lit.int .i64 a0_4).wf = true → (Lit.int .i64 a0_5).wf = true → (Lit.int .i64 a0_6).wf = true → l1.length ≤ maxLen → l1.length * 8 ≤ 140737488351232 → (∀ x ∈ l1, (Lit.int .i64 x).wf = true) → ∃ k, lodgerlaw11_SpecFull.f k a0_0 a0_1 l0_2 a0_3 a0_4 a0_5 a0_6 l1 = some true
theorem lodgerlaw11_SpecFull.came {w : World} {k : IntKind} {A : Option Addr} {c e base : Nat} {l : List Int} (hr : ReadsInt w k A l.length l) (hc : l.length ≤ c) : Kd.V (Kd.int k) e w base (fun k_ => k_ < w.heap.size) (.slice A l.length c) l := by
 refine Kd.V_mk hc (fun W' hW => Kd.C_of_reads (d := (0 : Int)) (h1 := fun _ => rfl) ⟨hr.1, hr.2.1, fun hn => ?_⟩)
 obtain ⟨ad, e, hcell⟩ := hr.2.2 hn
 refine ⟨ad, e, fun j hj => ?_⟩
 have h1 := hcell j hj
 have hlt := World.block_lt_of_cell? w _ h1
 rw [← h1]
 unfold World.cell?
 rw [hW _ hlt hlt]
theorem lodgerlaw11_SpecFull.walk (P : lodgerlaw11_SpecFull.Pure) (a0_0 : Int) (a0_1 : Int) (a0_2 : Option Addr) (len0_2 cap0_2 : Nat) (z0_2 : List Int) (a0_3 : Int) (a0_4 : Int) (a0_5 : Int) (a0_6 : Int) (a1 : Option Addr) (len1 cap1 : Nat) (z1 : List Int) (w : World) (w0_0 : (Lit.int .u32 a0_0).wf = true) (w0_1 : (Lit.int .i64 a0_1).wf = true) (w0_2 : (a0_2 = none ∧ len0_2 = 0 ∧ cap0_2 = 0 ∧ z0_2 = []) ∨ ∃ x, a0_2 = some x ∧ len0_2 ≤ cap0_2 ∧ cap0_2 ≤ maxLen ∧ z0_2.length = cap0_2 ∧ (∀ i, i < z0_2.length → w.cell? (x.add i) = some (.int .i64 (z0_2.getD i 0))) ∧ ∀ n ∈ z0_2, (Lit.int .i64 n).wf = true) (w0_3 : (Lit.int .i64 a0_3).wf = true) (w0_4 : (Lit.int .i64 a0_4).wf = true) (w0_5 : (Lit.int .i64 a0_5).wf = true) (w0_6 : (Lit.int .i64 a0_6).wf = true) (w1 : (a1 = none ∧ len1 = 0 ∧ cap1 = 0 ∧ z1 = []) ∨ ∃ x, a1 = some x ∧ len1 ≤ cap1 ∧ cap1 ≤ maxLen ∧ z1.length = cap1 ∧ (∀ i, i < z1.length → w.cell? (x.add i) = some (.int .i64 (z1.getD i 0))) ∧ ∀ n ∈ z1, (Lit.int .i64 n).wf = true) (y1 : len1 * 8 ≤ 140737488351232) (hG : Lg w) :
  Calls Tryd.prog 7 #[.agg #[.int .u32 a0_0, .int .i64 a0_1, .slice a0_2 len0_2 cap0_2, .int .i64 a0_3, .int .i64 a0_4, .int .i64 a0_5, .int .i64 a0_6], .slice a1 len1 cap1] w fun e w' => e = .returned (.bool true) ∧ Below w.heap.size w w' := by
 obtain ⟨l0_2, rfl, hr0_2, hm0_2, hw0_2, hc0_2⟩ := ReadsInt.ofRowC w0_2
 obtain ⟨l1, rfl, hr1, hm1, hw1, hc1⟩ := ReadsInt.ofRowC w1
 obtain ⟨k, h⟩ := P a0_0 a0_1 l0_2 a0_3 a0_4 a0_5 a0_6 l1 w0_0 w0_1 hm0_2 hw0_2 w0_3 w0_4 w0_5 w0_6 hm1 y1 hw1
 refine (lodgerlaw11_SpecFull.calls k a0_0 a0_1 _ _ l0_2 a0_3 a0_4 a0_5 a0_6 _ _ _ l1 true w (Kd.C_of_reads (d := (0 : Int)) (h1 := fun _ => rfl) hr0_2) hc0_2 (lodgerlaw11_SpecFull.came hr1 hc1) hG rfl h).mono ?_
 rintro e w' ⟨rfl, hd⟩
 exact ⟨rfl, hd⟩

end Go.Proofs.YtkiimboedgnoiaaDoor.PSpecFull
