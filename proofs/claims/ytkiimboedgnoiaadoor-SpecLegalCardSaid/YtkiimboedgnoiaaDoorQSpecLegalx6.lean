/- The walk of SpecLegal, part of it: what the Go functions answer; no condition. -/
import Derived.Test.YtkiimboedgnoiaaDoorQSpecLegalx0
import Derived.Test.YtkiimboedgnoiaaDoorQSpecLegalx1
import Derived.Test.YtkiimboedgnoiaaDoorQSpecLegalx2
import Derived.Test.YtkiimboedgnoiaaDoorQSpecLegalx3
import Derived.Test.YtkiimboedgnoiaaDoorQSpecLegalx5
namespace Go.Proofs.YtkiimboedgnoiaaDoor.PSpecLegal
open Go.RowKit Go.Proofs.YtkiimboedgnoiaaDoorW.PrintWords Go.Proofs.YtkiimboedgnoiaaDoorW.PrintLast Go.Proofs.YtkiimboedgnoiaaDoorW.PrintMore
attribute [local go_sem] max2_int min2_int max_two min_two max_three min_three max_four min_four   -- for this text's walks alone
set_option linter.unusedVariables false
set_option linter.unusedSimpArgs false

/-! ### spec_Legal: function 13 -/
mutual
def spec_Legal.j0 : Nat → List Int → Bool → Int → Int → List Int → Int → Int → Int → Int → Int → Int → List Int → Int → Int → Bool → List Int → List Int → Option (List Int × Bool)
 | 0, _, _, _, _, _, _, _, _, _, _, _, _, _, _, _, _, _ => none
 | k + 1, x1, x21, x351000, x351001, x351002, x351003, x351004, x351005, x351006, x352000, x352001, x352002, x353000, x353001, x353002, x353003, x353004 => if x21 = true then (some (x1, true)) else ((spec_Some.f k x351000 x351001 x351002 x351003 x351004 x351005 x351006 x1 x352000 x352001 x352002).bind fun bt373 => ((spec_Same.f k x353000 x353001 x353002 x353003 x353004 bt373.2.1 bt373.2.2.1 bt373.2.2.2.1 bt373.2.2.2.2.1 bt373.2.2.2.2.2).bind fun t386 => (if t386 = true then (some (bt373.1, true)) else ((ask_Check.f k x351000 x351001 x351002 x351003 x351004 x351005 x351006 x352000 x352001 x352002).bind fun t387 => (if t387 = 0 then (if x352000 = 6 then ((spec_fail.f 11).bind fun bt388 => ((spec_Same.f k x353000 x353001 x353002 x353003 x353004 bt388.1 bt388.2.1 bt388.2.2.1 bt388.2.2.2.1 bt388.2.2.2.2).bind fun t397 => (spec_Legal.j1 k x1 t397 x351000 x351001 x351002 x351003 x351004 x351005 x351006 x352000 x352001 x352002 x353000 x353001 x353002 x353003 x353004))) else (spec_Legal.j1 k x1 false x351000 x351001 x351002 x351003 x351004 x351005 x351006 x352000 x352001 x352002 x353000 x353001 x353002 x353003 x353004)) else (some (x1, false)))))))
def spec_Legal.j1 : Nat → List Int → Bool → Int → Int → List Int → Int → Int → Int → Int → Int → Int → List Int → Int → Int → Bool → List Int → List Int → Option (List Int × Bool)
 | 0, _, _, _, _, _, _, _, _, _, _, _, _, _, _, _, _, _ => none
 | k + 1, x1, x40, x351000, x351001, x351002, x351003, x351004, x351005, x351006, x352000, x352001, x352002, x353000, x353001, x353002, x353003, x353004 => if x40 = true then (some (x1, true)) else (if x352000 = 1 then ((spec_Same.f k x353000 x353001 x353002 x353003 x353004 0 x353001 false ([] : List Int) ([] : List Int)).bind fun t398 => (spec_Legal.j2 k x1 t398 x351000 x351001 x351002 x351003 x351004 x351005 x351006 x353000 x353001 x353002 x353003 x353004)) else (spec_Legal.j2 k x1 false x351000 x351001 x351002 x351003 x351004 x351005 x351006 x353000 x353001 x353002 x353003 x353004))
def spec_Legal.j2 : Nat → List Int → Bool → Int → Int → List Int → Int → Int → Int → Int → Int → Int → Bool → List Int → List Int → Option (List Int × Bool)
 | 0, _, _, _, _, _, _, _, _, _, _, _, _, _, _ => none
 | k + 1, x1, x50, x351000, x351001, x351002, x351003, x351004, x351005, x351006, x353000, x353001, x353002, x353003, x353004 => if x50 = true then ((block_Find.f k x351000 x351001 x351002 x351003 x351004 x351005 x351006 x353001).bind fun bt399 => (if bt399.2 = 0 then ((model_Has.f k x1 bt399.1).bind fun t401 => (if t401 = true then (some (x1, false)) else ((model_With.f k x1 bt399.1).bind fun t402 => (some (t402, true))))) else (some (x1, false)))) else (some (x1, false))
end
def spec_Legal.f (k : Nat) (a0_0 : Int) (a0_1 : Int) (l0_2 : List Int) (a0_3 : Int) (a0_4 : Int) (a0_5 : Int) (a0_6 : Int) (l1 : List Int) (a2_0 : Int) (a2_1 : Int) (l2_2 : List Int) (a3_0 : Int) (a3_1 : Int) (a3_2 : Bool) (l3_3 : List Int) (l3_4 : List Int) : Option (List Int × Bool) := (spec_fail.f 10).bind fun bt353 => ((spec_Same.f k a3_0 a3_1 a3_2 l3_3 l3_4 bt353.1 bt353.2.1 bt353.2.2.1 bt353.2.2.2.1 bt353.2.2.2.2).bind fun t362 => (if t362 = true then (spec_Legal.j0 k l1 true a0_0 a0_1 l0_2 a0_3 a0_4 a0_5 a0_6 a2_0 a2_1 l2_2 a3_0 a3_1 a3_2 l3_3 l3_4) else ((spec_fail.f 12).bind fun bt363 => ((spec_Same.f k a3_0 a3_1 a3_2 l3_3 l3_4 bt363.1 bt363.2.1 bt363.2.2.1 bt363.2.2.2.1 bt363.2.2.2.2).bind fun t372 => (spec_Legal.j0 k l1 t372 a0_0 a0_1 l0_2 a0_3 a0_4 a0_5 a0_6 a2_0 a2_1 l2_2 a3_0 a3_1 a3_2 l3_3 l3_4)))))
theorem spec_Legal.mono_l : ∀ k, (∀ y0 y1 y2 y3 y4 y5 y6 y7 y8 y9 y10 y11 y12 y13 y14 y15 y16, LeO (spec_Legal.j0 k y0 y1 y2 y3 y4 y5 y6 y7 y8 y9 y10 y11 y12 y13 y14 y15 y16) (spec_Legal.j0 (k + 1) y0 y1 y2 y3 y4 y5 y6 y7 y8 y9 y10 y11 y12 y13 y14 y15 y16)) ∧ (∀ y0 y1 y2 y3 y4 y5 y6 y7 y8 y9 y10 y11 y12 y13 y14 y15 y16, LeO (spec_Legal.j1 k y0 y1 y2 y3 y4 y5 y6 y7 y8 y9 y10 y11 y12 y13 y14 y15 y16) (spec_Legal.j1 (k + 1) y0 y1 y2 y3 y4 y5 y6 y7 y8 y9 y10 y11 y12 y13 y14 y15 y16)) ∧ (∀ y0 y1 y2 y3 y4 y5 y6 y7 y8 y9 y10 y11 y12 y13, LeO (spec_Legal.j2 k y0 y1 y2 y3 y4 y5 y6 y7 y8 y9 y10 y11 y12 y13) (spec_Legal.j2 (k + 1) y0 y1 y2 y3 y4 y5 y6 y7 y8 y9 y10 y11 y12 y13))
 | 0 => ⟨fun _ _ _ _ _ _ _ _ _ _ _ _ _ _ _ _ _ r h => by simp [spec_Legal.j0] at h, fun _ _ _ _ _ _ _ _ _ _ _ _ _ _ _ _ _ r h => by simp [spec_Legal.j1] at h, fun _ _ _ _ _ _ _ _ _ _ _ _ _ _ r h => by simp [spec_Legal.j2] at h⟩
 | k + 1 => by
  obtain ⟨ih0, ih1, ih2⟩ := spec_Legal.mono_l k
  refine ⟨?_, ?_, ?_⟩
  ·intro y0 y1 y2 y3 y4 y5 y6 y7 y8 y9 y10 y11 y12 y13 y14 y15 y16
   unfold spec_Legal.j0
   repeat' first
   | (with_reducible exact ih0 _ _ _ _ _ _ _ _ _ _ _ _ _ _ _ _ _)
   | (with_reducible exact ih1 _ _ _ _ _ _ _ _ _ _ _ _ _ _ _ _ _)
   | (with_reducible exact ih2 _ _ _ _ _ _ _ _ _ _ _ _ _ _)
   | (with_reducible exact ask_Check.mono _ _ _ _ _ _ _ _ _ _ _)
   | (with_reducible exact block_Find.mono _ _ _ _ _ _ _ _ _)
   | (with_reducible exact model_Has.mono _ _ _)
   | (with_reducible exact model_With.mono _ _ _)
   | (with_reducible exact spec_Same.mono _ _ _ _ _ _ _ _ _ _ _)
   | (with_reducible exact spec_Some.mono _ _ _ _ _ _ _ _ _ _ _ _)
   | (with_reducible exact LeO.refl _)
   | (with_reducible exact LeO.none _)
   | (with_reducible refine LeO.ite ?_ ?_)
   | (with_reducible refine LeO.bind ?_ (fun _ => ?_))
   | exact ih0 _ _ _ _ _ _ _ _ _ _ _ _ _ _ _ _ _
   | exact ih1 _ _ _ _ _ _ _ _ _ _ _ _ _ _ _ _ _
   | exact ih2 _ _ _ _ _ _ _ _ _ _ _ _ _ _
   | exact ask_Check.mono _ _ _ _ _ _ _ _ _ _ _
   | exact block_Find.mono _ _ _ _ _ _ _ _ _
   | exact model_Has.mono _ _ _
   | exact model_With.mono _ _ _
   | exact spec_Same.mono _ _ _ _ _ _ _ _ _ _ _
   | exact spec_Some.mono _ _ _ _ _ _ _ _ _ _ _ _
   | exact LeO.none _
   | refine LeO.ite ?_ ?_
   | refine LeO.bind ?_ (fun _ => ?_)
  ·intro y0 y1 y2 y3 y4 y5 y6 y7 y8 y9 y10 y11 y12 y13 y14 y15 y16
   unfold spec_Legal.j1
   repeat' first
   | (with_reducible exact ih0 _ _ _ _ _ _ _ _ _ _ _ _ _ _ _ _ _)
   | (with_reducible exact ih1 _ _ _ _ _ _ _ _ _ _ _ _ _ _ _ _ _)
   | (with_reducible exact ih2 _ _ _ _ _ _ _ _ _ _ _ _ _ _)
   | (with_reducible exact ask_Check.mono _ _ _ _ _ _ _ _ _ _ _)
   | (with_reducible exact block_Find.mono _ _ _ _ _ _ _ _ _)
   | (with_reducible exact model_Has.mono _ _ _)
   | (with_reducible exact model_With.mono _ _ _)
   | (with_reducible exact spec_Same.mono _ _ _ _ _ _ _ _ _ _ _)
   | (with_reducible exact spec_Some.mono _ _ _ _ _ _ _ _ _ _ _ _)
   | (with_reducible exact LeO.refl _)
   | (with_reducible exact LeO.none _)
   | (with_reducible refine LeO.ite ?_ ?_)
   | (with_reducible refine LeO.bind ?_ (fun _ => ?_))
   | exact ih0 _ _ _ _ _ _ _ _ _ _ _ _ _ _ _ _ _
   | exact ih1 _ _ _ _ _ _ _ _ _ _ _ _ _ _ _ _ _
   | exact ih2 _ _ _ _ _ _ _ _ _ _ _ _ _ _
   | exact ask_Check.mono _ _ _ _ _ _ _ _ _ _ _
   | exact block_Find.mono _ _ _ _ _ _ _ _ _
   | exact model_Has.mono _ _ _
   | exact model_With.mono _ _ _
   | exact spec_Same.mono _ _ _ _ _ _ _ _ _ _ _
   | exact spec_Some.mono _ _ _ _ _ _ _ _ _ _ _ _
   | exact LeO.none _
   | refine LeO.ite ?_ ?_
   | refine LeO.bind ?_ (fun _ => ?_)
  ·intro y0 y1 y2 y3 y4 y5 y6 y7 y8 y9 y10 y11 y12 y13
   unfold spec_Legal.j2
   repeat' first
   | (with_reducible exact ih0 _ _ _ _ _ _ _ _ _ _ _ _ _ _ _ _ _)
   | (with_reducible exact ih1 _ _ _ _ _ _ _ _ _ _ _ _ _ _ _ _ _)
   | (with_reducible exact ih2 _ _ _ _ _ _ _ _ _ _ _ _ _ _)
   | (with_reducible exact ask_Check.mono _ _ _ _ _ _ _ _ _ _ _)
   | (with_reducible exact block_Find.mono _ _ _ _ _ _ _ _ _)
   | (with_reducible exact model_Has.mono _ _ _)
   | (with_reducible exact model_With.mono _ _ _)
   | (with_reducible exact spec_Same.mono _ _ _ _ _ _ _ _ _ _ _)
   | (with_reducible exact spec_Some.mono _ _ _ _ _ _ _ _ _ _ _ _)
   | (with_reducible exact LeO.refl _)
   | (with_reducible exact LeO.none _)
   | (with_reducible refine LeO.ite ?_ ?_)
   | (with_reducible refine LeO.bind ?_ (fun _ => ?_))
   | exact ih0 _ _ _ _ _ _ _ _ _ _ _ _ _ _ _ _ _
   | exact ih1 _ _ _ _ _ _ _ _ _ _ _ _ _ _ _ _ _
   | exact ih2 _ _ _ _ _ _ _ _ _ _ _ _ _ _
   | exact ask_Check.mono _ _ _ _ _ _ _ _ _ _ _
   | exact block_Find.mono _ _ _ _ _ _ _ _ _
   | exact model_Has.mono _ _ _
   | exact model_With.mono _ _ _
   | exact spec_Same.mono _ _ _ _ _ _ _ _ _ _ _
   | exact spec_Some.mono _ _ _ _ _ _ _ _ _ _ _ _
   | exact LeO.none _
   | refine LeO.ite ?_ ?_
   | refine LeO.bind ?_ (fun _ => ?_)
theorem spec_Legal.mono : ∀ a0 a1 a2 a3 a4 a5 a6 a7 a8 a9 a10 a11 a12 a13 a14 a15 k, LeO (spec_Legal.f k a0 a1 a2 a3 a4 a5 a6 a7 a8 a9 a10 a11 a12 a13 a14 a15) (spec_Legal.f (k + 1) a0 a1 a2 a3 a4 a5 a6 a7 a8 a9 a10 a11 a12 a13 a14 a15) := by
 intro a0 a1 a2 a3 a4 a5 a6 a7 a8 a9 a10 a11 a12 a13 a14 a15 k
 obtain ⟨ih0, ih1, ih2⟩ := spec_Legal.mono_l k
 unfold spec_Legal.f
 repeat' first
   | (with_reducible exact ih0 _ _ _ _ _ _ _ _ _ _ _ _ _ _ _ _ _)
   | (with_reducible exact ih1 _ _ _ _ _ _ _ _ _ _ _ _ _ _ _ _ _)
   | (with_reducible exact ih2 _ _ _ _ _ _ _ _ _ _ _ _ _ _)
   | (with_reducible exact ask_Check.mono _ _ _ _ _ _ _ _ _ _ _)
   | (with_reducible exact block_Find.mono _ _ _ _ _ _ _ _ _)
   | (with_reducible exact model_Has.mono _ _ _)
   | (with_reducible exact model_With.mono _ _ _)
   | (with_reducible exact spec_Same.mono _ _ _ _ _ _ _ _ _ _ _)
   | (with_reducible exact spec_Some.mono _ _ _ _ _ _ _ _ _ _ _ _)
   | (with_reducible exact LeO.refl _)
   | (with_reducible exact LeO.none _)
   | (with_reducible refine LeO.ite ?_ ?_)
   | (with_reducible refine LeO.bind ?_ (fun _ => ?_))
   | exact ih0 _ _ _ _ _ _ _ _ _ _ _ _ _ _ _ _ _
   | exact ih1 _ _ _ _ _ _ _ _ _ _ _ _ _ _ _ _ _
   | exact ih2 _ _ _ _ _ _ _ _ _ _ _ _ _ _
   | exact ask_Check.mono _ _ _ _ _ _ _ _ _ _ _
   | exact block_Find.mono _ _ _ _ _ _ _ _ _
   | exact model_Has.mono _ _ _
   | exact model_With.mono _ _ _
   | exact spec_Same.mono _ _ _ _ _ _ _ _ _ _ _
   | exact spec_Some.mono _ _ _ _ _ _ _ _ _ _ _ _
   | exact LeO.none _
   | refine LeO.ite ?_ ?_
   | refine LeO.bind ?_ (fun _ => ?_)
def spec_Legal.T1 : Bool × List (List Nat × List Nat) := (true, [([], []), ([], []), ([0, 1, 1], [0, 1]), ([2, 2], [2]), ([3], [3]), ([3, 3], [3]), ([4, 5, 5, 3], [3, 4, 5]), ([3, 6], [3, 6])])
def spec_Legal.B1 : List Nat := [0, 0, 3, 7, 15, 15, 63, 127]
theorem spec_Legal.tab1 : rtab .any (opsOf Tryd.f13 1) = spec_Legal.T1 := by kernel_rfl
theorem spec_Legal.bits1 : waitsOk spec_Legal.T1.2 spec_Legal.B1 = true := by kernel_rfl
def spec_Legal.T7 : Bool × List (List Nat × List Nat) := (true, [([], []), ([0], [0]), ([1], [1]), ([2], [2]), ([3], [3]), ([3, 3], [3]), ([4, 5, 5, 3], [3, 4, 5]), ([3, 6], [3, 6]), ([7, 6], [7])])
def spec_Legal.B7 : List Nat := [0, 1, 3, 7, 15, 15, 63, 127, 255]
theorem spec_Legal.tab7 : rtab .any (opsOf Tryd.f13 7) = spec_Legal.T7 := by kernel_rfl
theorem spec_Legal.bits7 : waitsOk spec_Legal.T7.2 spec_Legal.B7 = true := by kernel_rfl
set_option maxHeartbeats 8000000 in
set_option maxRecDepth 100000 in
theorem spec_Legal.calls (k : Nat) (a0_0 : Int) (a0_1 : Int) (A0_2 : Option Addr) (c0_2 : Nat) (l0_2 : List Int) (a0_3 : Int) (a0_4 : Int) (a0_5 : Int) (a0_6 : Int) (P1_ : Nat → Prop) (A1 : Option Addr) (c1 : Nat) (l1 : List Int) (a2_0 : Int) (a2_1 : Int) (A2_2 : Option Addr) (c2_2 : Nat) (l2_2 : List Int) (a3_0 : Int) (a3_1 : Int) (a3_2 : Bool) (A3_3 : Option Addr) (c3_3 : Nat) (l3_3 : List Int) (A3_4 : Option Addr) (c3_4 : Nat) (l3_4 : List Int) (r1 : List Int) (r2 : Bool) (w : World) (hr0_2 : Kd.C (Kd.int .i64) w A0_2 l0_2.length l0_2) (hc0_2 : l0_2.length ≤ c0_2) (hs1 : Kd.V (Kd.int .i64) 3 w w.heap.size (fun k_ => P1_ k_) (.slice A1 l1.length c1) l1) (hr2_2 : Kd.C (Kd.int .u32) w A2_2 l2_2.length l2_2) (hc2_2 : l2_2.length ≤ c2_2) (hr3_3 : Kd.C (Kd.int .u32) w A3_3 l3_3.length l3_3) (hc3_3 : l3_3.length ≤ c3_3) (hr3_4 : Kd.C (Kd.int .i64) w A3_4 l3_4.length l3_4) (hc3_4 : l3_4.length ≤ c3_4) (hG : Lg w) (h : spec_Legal.f k a0_0 a0_1 l0_2 a0_3 a0_4 a0_5 a0_6 l1 a2_0 a2_1 l2_2 a3_0 a3_1 a3_2 l3_3 l3_4 = some (r1, r2)) :
  Calls Tryd.prog 13 #[.agg #[.int .u32 a0_0, .int .i64 a0_1, .slice A0_2 l0_2.length c0_2, .int .i64 a0_3, .int .i64 a0_4, .int .i64 a0_5, .int .i64 a0_6], .slice A1 l1.length c1, .agg #[.int .i64 a2_0, .int .u32 a2_1, .slice A2_2 l2_2.length c2_2], .agg #[.int .i64 a3_0, .int .u32 a3_1, .bool a3_2, .slice A3_3 l3_3.length c3_3, .slice A3_4 l3_4.length c3_4]] w fun e w' => ∃ v0_ : Value, e = .returned (.tuple #[v0_, .bool r2]) ∧ Kd.V (Kd.int .i64) 3 w' w.heap.size (fun k_ => (P1_ k_ ∨ w.heap.size ≤ k_)) v0_ r1 ∧ Below w.heap.size w w' := by
 have hu27 := Tryd.underlying27
 have hu30 := Tryd.underlying30
 have hu34 := Tryd.underlying34
 have HR0_2 := Aside0.mk hr0_2
 have HC0_2 := Aside0.mk hc0_2
 clear hr0_2 hc0_2
 have HO1 := Aside0.mk (show Kd.V (Kd.int .i64) 3 w w.heap.size (fun k_ => (P1_ k_ ∨ w.heap.size ≤ k_)) (.slice A1 l1.length c1) l1 from Kd.V_mono hs1 (fun k_ hk => .inl hk))
 have HR2_2 := Aside0.mk hr2_2
 have HC2_2 := Aside0.mk hc2_2
 clear hr2_2 hc2_2
 have HR3_3 := Aside0.mk hr3_3
 have HC3_3 := Aside0.mk hc3_3
 clear hr3_3 hc3_3
 have HR3_4 := Aside0.mk hr3_4
 have HC3_4 := Aside0.mk hc3_4
 clear hr3_4 hc3_4
 have HB := Aside0.mk (Below.refl w.heap.size w)
 have HG := Aside0.mk hG
 clear hG
 have H : ((spec_fail.f 10).bind fun bt353 => ((spec_Same.f k a3_0 a3_1 a3_2 l3_3 l3_4 bt353.1 bt353.2.1 bt353.2.2.1 bt353.2.2.2.1 bt353.2.2.2.2).bind fun t362 => (if t362 = true then (spec_Legal.j0 k l1 true a0_0 a0_1 l0_2 a0_3 a0_4 a0_5 a0_6 a2_0 a2_1 l2_2 a3_0 a3_1 a3_2 l3_3 l3_4) else ((spec_fail.f 12).bind fun bt363 => ((spec_Same.f k a3_0 a3_1 a3_2 l3_3 l3_4 bt363.1 bt363.2.1 bt363.2.2.1 bt363.2.2.2.1 bt363.2.2.2.2).bind fun t372 => (spec_Legal.j0 k l1 t372 a0_0 a0_1 l0_2 a0_3 a0_4 a0_5 a0_6 a2_0 a2_1 l2_2 a3_0 a3_1 a3_2 l3_3 l3_4)))))) = some (r1, r2) := h
 clear h
 have HC5 := Aside0.mk H
 clear H
 go_enter Tryd.func13, Tryd.ntmps13
 go_upto_region 1 with (first | ((with_reducible refine gate_dst (N := 4) rfl ?_); refine box_event ?hg (N := 4) ?hd (cs := #[.int .u32 a0_0, .int .i64 a0_1, .slice A0_2 l0_2.length c0_2, .int .i64 a0_3, .int .i64 a0_4, .int .i64 a0_5, .int .i64 a0_6]) (t := 27) ?hr ?_; (case hd => rfl); (case hg => rfl); (case hr => first | (go_simp; done) | (go_simp; rfl)); intro gb350 hg w6 hbox hb; have n0_ := Aside0.mk (Kd.V_below (Kd.V_elderB (vV_ HO1) gb350 (Nat.le_of_eq hg.symm)) hb); have n2_ := Aside0.mk (hbox); have n3_ := gG_ (w := w) hg HB; have n4_ := gG_ (w := w) hg HB; clear HO1; have HO1 := n0_; have BK350 := n2_; have GW350 := n3_; have GE350 := n4_; replace HB := hS_ HB hb; clear n0_ n2_ n3_ n4_; clear hb hbox hg) | ((with_reducible refine gate_dst (N := 6) rfl ?_); refine box_event ?hg (N := 6) ?hd (cs := #[.int .i64 a2_0, .int .u32 a2_1, .slice A2_2 l2_2.length c2_2]) (t := 30) ?hr ?_; (case hd => rfl); (case hg => rfl); (case hr => first | (go_simp; done) | (go_simp; rfl)); intro gb351 hg w7 hbox hb; have n0_ := Aside0.mk (Kd.V_below (Kd.V_elderB (vV_ HO1) gb351 (Nat.le_of_eq hg.symm)) hb); have n2_ := Aside0.mk (below_step (hB_ HB) hb); have n3_ := Aside0.mk (hbox); have n4_ := gG_ (w := w) hg HB; have n5_ := gG_ (w := w) hg HB; have n6_ := nL_ hg BK350; have n7_ := nG_ hg BK350; clear HO1; clear HB; have HO1 := n0_; have HB := n2_; have BK351 := n3_; have GW351 := n4_; have GE351 := n5_; have NB350_351 := n6_; have NB351_350 := n7_; replace BK350 := bB_ BK350 hb; clear n0_ n2_ n3_ n4_ n5_ n6_ n7_; clear hb hbox hg) | ((with_reducible refine gate_dst (N := 7) rfl ?_); refine box_event ?hg (N := 7) ?hd (cs := #[.int .i64 a3_0, .int .u32 a3_1, .bool a3_2, .slice A3_3 l3_3.length c3_3, .slice A3_4 l3_4.length c3_4]) (t := 34) ?hr ?_; (case hd => rfl); (case hg => rfl); (case hr => first | (go_simp; done) | (go_simp; rfl)); intro gb352 hg w8 hbox hb; have n0_ := Aside0.mk (Kd.V_below (Kd.V_elderB (vV_ HO1) gb352 (Nat.le_of_eq hg.symm)) hb); have n2_ := bB_ BK351 hb; have n4_ := Aside0.mk (hbox); have n5_ := gG_ (w := w) hg HB; have n6_ := gG_ (w := w) hg HB; have n7_ := nL_ hg BK350; have n8_ := nG_ hg BK350; have n9_ := nL_ hg BK351; have n10_ := nG_ hg BK351; clear HO1; clear BK351; have HO1 := n0_; have BK351 := n2_; have BK352 := n4_; have GW352 := n5_; have GE352 := n6_; have NB350_352 := n7_; have NB352_350 := n8_; have NB351_352 := n9_; have NB352_351 := n10_; replace BK350 := bB_ BK350 hb; replace HB := hS_ HB hb; clear n0_ n2_ n4_ n5_ n6_ n7_ n8_ n9_ n10_; clear hb hbox hg))
 (try simp only [Act.put, List.setIfInBounds_toArray, List.set_cons_zero, List.set_cons_succ])
 go_cut [21] (fun v21 wc => ∃ (kq : Nat) (x21_4 : Bool), v21 = .bool x21_4 ∧ Aside0 (spec_Legal.j0 kq l1 x21_4 a0_0 a0_1 l0_2 a0_3 a0_4 a0_5 a0_6 a2_0 a2_1 l2_2 a3_0 a3_1 a3_2 l3_3 l3_4 = some (r1, r2)) ∧ Aside0 (kq ≤ k) ∧ Aside0 (Kd.V (Kd.int .i64) 3 wc w.heap.size (fun k_ => (P1_ k_ ∨ w.heap.size ≤ k_) ∧ k_ ≠ gb350 ∧ k_ ≠ gb351 ∧ k_ ≠ gb352) (.slice A1 l1.length c1) l1) ∧ Aside0 (wc.heap[gb350]? = some (.cells #[.int .u32 a0_0, .int .i64 a0_1, (.slice A0_2 l0_2.length c0_2), .int .i64 a0_3, .int .i64 a0_4, .int .i64 a0_5, .int .i64 a0_6] 27 (0, 0))) ∧ Aside0 (wc.heap[gb351]? = some (.cells #[.int .i64 a2_0, .int .u32 a2_1, (.slice A2_2 l2_2.length c2_2)] 30 (0, 0))) ∧ Aside0 (wc.heap[gb352]? = some (.cells #[.int .i64 a3_0, .int .u32 a3_1, .bool a3_2, (.slice A3_3 l3_3.length c3_3), (.slice A3_4 l3_4.length c3_4)] 34 (0, 0))) ∧ Aside0 (Below w.heap.size w wc))
 case first =>
  have H := HC5.out; clear HC5; replace H := Option.bind_eq_some_iff.mp H; obtain ⟨⟨t353, t354, t355, t356, t359⟩, A90, H⟩ := H
  replace H : ((spec_Same.f k a3_0 a3_1 a3_2 l3_3 l3_4 t353 t354 t355 t356 t359).bind fun t362 => (if t362 = true then (spec_Legal.j0 k l1 true a0_0 a0_1 l0_2 a0_3 a0_4 a0_5 a0_6 a2_0 a2_1 l2_2 a3_0 a3_1 a3_2 l3_3 l3_4) else ((spec_fail.f 12).bind fun bt363 => ((spec_Same.f k a3_0 a3_1 a3_2 l3_3 l3_4 bt363.1 bt363.2.1 bt363.2.2.1 bt363.2.2.2.1 bt363.2.2.2.2).bind fun t372 => (spec_Legal.j0 k l1 t372 a0_0 a0_1 l0_2 a0_3 a0_4 a0_5 a0_6 a2_0 a2_1 l2_2 a3_0 a3_1 a3_2 l3_3 l3_4))))) = some (r1, r2) := H
  have A9 := Aside0.mk A90; clear A90; replace H := Option.bind_eq_some_iff.mp H; obtain ⟨t362, A100, H⟩ := H
  replace H : (if t362 = true then (spec_Legal.j0 k l1 true a0_0 a0_1 l0_2 a0_3 a0_4 a0_5 a0_6 a2_0 a2_1 l2_2 a3_0 a3_1 a3_2 l3_3 l3_4) else ((spec_fail.f 12).bind fun bt363 => ((spec_Same.f k a3_0 a3_1 a3_2 l3_3 l3_4 bt363.1 bt363.2.1 bt363.2.2.1 bt363.2.2.2.1 bt363.2.2.2.2).bind fun t372 => (spec_Legal.j0 k l1 t372 a0_0 a0_1 l0_2 a0_3 a0_4 a0_5 a0_6 a2_0 a2_1 l2_2 a3_0 a3_1 a3_2 l3_3 l3_4)))) = some (r1, r2) := H
  have A10 := Aside0.mk A100; clear A100
  by_cases c11 : t362 = true
  ·subst c11
   have H1 : (spec_Legal.j0 k l1 true a0_0 a0_1 l0_2 a0_3 a0_4 a0_5 a0_6 a2_0 a2_1 l2_2 a3_0 a3_1 a3_2 l3_3 l3_4) = some (r1, r2) := by rw [if_pos rfl] at H; exact H
   clear H; have H := H1; clear H1
   have H' := Aside0.mk H
   clear H
   try go_wp2
   have n0_ := Aside0.mk (Kd.V_drew HO1.out); have n1_ := Aside0.mk (blk_drew BK350.out); have n2_ := Aside0.mk (blk_drew BK351.out); have n3_ := Aside0.mk (blk_drew BK352.out); have n4_ := Aside0.mk (below_drew1 HB.out); clear HO1; clear BK350; clear BK351; clear BK352; clear HB; have HO1 := n0_; have BK350 := n1_; have BK351 := n2_; have BK352 := n3_; have HB := n4_; clear n0_ n1_ n2_ n3_ n4_
   refine start_ (n := 8) (S := fun w' => w'.cell? ⟨gb352, 0, none⟩ = some (.int .i64 a3_0) ∧ w'.cell? ⟨gb352, 1, none⟩ = some (.int .u32 a3_1) ∧ w'.cell? ⟨gb352, 2, none⟩ = some (.bool a3_2) ∧ w'.cell? ⟨gb352, 3, none⟩ = some (.slice A3_3 l3_3.length c3_3) ∧ w'.cell? ⟨gb352, 4, none⟩ = some (.slice A3_4 l3_4.length c3_4)) (ds := []) (tf 8 0) (by kernel_rfl) rfl rfl ⟨(blk_cell BK352.out 0).trans rfl, (blk_cell BK352.out 1).trans rfl, (blk_cell BK352.out 2).trans rfl, (blk_cell BK352.out 3).trans rfl, (blk_cell BK352.out 4).trans rfl⟩ (fun hHeld => ?_); refine with_tabW spec_Legal.tab1 spec_Legal.bits1 (fun HT_ HW_ => ?_)
   generalize w8.drew = w12 at HO1 BK350 BK351 BK352 HB hHeld ⊢
   refine tk_ (i := 0) (N := some 14) (tf 8 1) rfl rfl HT_ HW_ hHeld (by rintro w' ⟨s0, s1, s2, s3, s4⟩; go_simp; with_reducible rfl) ?_
   refine one_ (i := 1) (N := some 15) (tf 8 3) rfl rfl (one_of HT_.out (by kernel_rfl)) (by decide) (fun K hK => ?_)
   refine goes_ Tryd.func31 (by kernel_rfl) rfl #[.int .i64 10] (by rfl) rfl rfl am_ ?_
   with_reducible refine (spec_fail.calls 10 t353 t354 t355 t356 t359 _ A9.out).mono ?_
   rintro e w13 ⟨v357, v360, rfl, ho0, ho1, hb⟩
   refine ⟨_, rfl, ?_⟩
   have n0_ := Aside0.mk (Kd.V_mono (Kd.V_told (Kd.V_told (Kd.V_old (vV_ HO1) hb) (Kd.R_base ho0)) (Kd.R_base ho1)) (fun _ h_ => h_.1)); have n1_ := Aside0.mk (Kd.R_lower (Kd.R_newM (M := fun k_ => (w.heap.size ≤ k_)) ho0 (below_size (hB_ HB)) (fun k_ h_ => h_)) (below_size (hB_ HB))); have n2_ := Aside0.mk (Kd.R_lower (Kd.R_newM (M := fun k_ => (w.heap.size ≤ k_)) ho1 (below_size (hB_ HB)) (fun k_ h_ => h_)) (below_size (hB_ HB))); have n3_ := bB_ BK350 hb; have n4_ := bB_ BK351 hb; have n5_ := bB_ BK352 hb; have n6_ := Aside0.mk (below_step (hB_ HB) hb); clear HO1; clear BK350; clear BK351; clear BK352; clear HB; have HO1 := n0_; have HO358 := n1_; have HO361 := n2_; have BK350 := n3_; have BK351 := n4_; have BK352 := n5_; have HB := n6_; clear n0_ n1_ n2_ n3_ n4_ n5_ n6_
   (try clear hb)
   (try clear hb2)
   (try clear hk)
   (try clear hi)
   (try clear ho0)
   (try clear ho1)
   obtain ⟨Ao14, co14, eo14⟩ := Kd.R_slice HO358.out
   (first | subst eo14 | (injection eo14 with f1_ f2_ f3_; have f4_ := f1_.symm; have f5_ := f3_.symm; clear f1_ f2_ f3_; subst f4_; subst f5_))
   obtain ⟨Ao15, co15, eo15⟩ := Kd.R_slice HO361.out
   (first | subst eo15 | (injection eo15 with f1_ f2_ f3_; have f4_ := f1_.symm; have f5_ := f3_.symm; clear f1_ f2_ f3_; subst f4_; subst f5_))
   refine hK.out _ _ ⟨(blk_cell BK352.out 0).trans rfl, (blk_cell BK352.out 1).trans rfl, (blk_cell BK352.out 2).trans rfl, (blk_cell BK352.out 3).trans rfl, (blk_cell BK352.out 4).trans rfl⟩ (fun hHeld => ?_)
   clear hK K
   refine norm_ (a' := ?_) ?_ ?_
   rotate_left
   ·show Act.put _ (some 15) _ = _
    simp only [Act.put, List.setIfInBounds_toArray, List.set_cons_zero, List.set_cons_succ, i64_w, i32_w]
    rfl
   refine one_ (i := 2) (N := some 16) (tf 8 7) rfl rfl (one_of HT_.out (by kernel_rfl)) (by decide) (fun K hK => ?_)
   refine goes_ Tryd.func19 (by kernel_rfl) rfl #[.agg #[.int .i64 a3_0, .int .u32 a3_1, .bool a3_2, .slice A3_3 l3_3.length c3_3, .slice A3_4 l3_4.length c3_4], .agg #[.int .i64 t353, .int .u32 t354, .bool t355, .slice Ao14 t356.length co14, .slice Ao15 t359.length co15]] (by rfl) rfl rfl am_ ?_
   with_reducible refine (spec_Same.calls k a3_0 a3_1 a3_2 _ _ l3_3 _ _ l3_4 t353 t354 t355 _ _ t356 _ _ t359 true _ ?side1 ?side2 ?side3 ?side4 ?side5 ?side6 ?side7 ?side8 A10.out).mono ?_
   (case side1 => exact cC_ HR3_3 HB)
   (case side2 => exact HC3_3.out)
   (case side3 => exact cC_ HR3_4 HB)
   (case side4 => exact HC3_4.out)
   (case side5 => repeat (first | exact (Kd.R_reads' HO358.out).2.2 | (with_reducible refine Kd.C_alloc ?_ _) | (with_reducible refine Kd.C_drewN ?_ _) | (with_reducible refine Kd.C_drew ?_)))
   (case side6 => exact (Kd.R_reads' HO358.out).2.1)
   (case side7 => repeat (first | exact (Kd.R_reads' HO361.out).2.2 | (with_reducible refine Kd.C_alloc ?_ _) | (with_reducible refine Kd.C_drewN ?_ _) | (with_reducible refine Kd.C_drew ?_)))
   (case side8 => exact (Kd.R_reads' HO361.out).2.1)
   rintro e w16 ⟨rfl, hb⟩
   refine ⟨_, rfl, ?_⟩
   have n0_ := Aside0.mk (Kd.V_below (vV_ HO1) hb); have n1_ := Aside0.mk (Kd.R_below (rR_ HO358) hb); have n2_ := Aside0.mk (Kd.R_below (rR_ HO361) hb); have n3_ := bB_ BK350 hb; have n4_ := bB_ BK351 hb; have n5_ := bB_ BK352 hb; have n6_ := Aside0.mk (below_step (hB_ HB) hb); clear HO1; clear HO358; clear HO361; clear BK350; clear BK351; clear BK352; clear HB; have HO1 := n0_; have HO358 := n1_; have HO361 := n2_; have BK350 := n3_; have BK351 := n4_; have BK352 := n5_; have HB := n6_; clear n0_ n1_ n2_ n3_ n4_ n5_ n6_
   (try clear hb)
   (try clear hb2)
   (try clear hk)
   (try clear hi)
   refine hK.out _ _ ⟨(blk_cell BK352.out 0).trans rfl, (blk_cell BK352.out 1).trans rfl, (blk_cell BK352.out 2).trans rfl, (blk_cell BK352.out 3).trans rfl, (blk_cell BK352.out 4).trans rfl⟩ (fun hHeld => ?_)
   clear hK K
   refine norm_ (a' := ?_) ?_ ?_
   rotate_left
   ·show Act.put _ (some 16) _ = _
    simp only [Act.put, List.setIfInBounds_toArray, List.set_cons_zero, List.set_cons_succ, i64_w, i32_w]
    rfl
   refine pu_ (i := 3) (N := some 17) (tf 8 15) HT_ ?_; refine pn_ (i := 4) (N := some 18) (tf 8 31) HT_ ?_; refine pn_ (i := 5) (N := some 19) (tf 8 63) HT_ ?_; refine pn_ (i := 6) (N := some 20) (tf 8 127) HT_ ?_; refine pu_ (i := 7) (N := some 21) (tf 8 255) HT_ ?_
   refine done_ (done_of HT_.out (by kernel_rfl)) ?_
   try go_wp2
   go_meet
   case rel => exact ⟨_, (true), rs_, H', ⟨by first | omega | exact Nat.le_refl _⟩, ⟨by (with_reducible repeat (first | apply Kd.V_alloc | apply Kd.V_drewN | apply Kd.V_drew)); exact Kd.V_mono HO1.out (fun _ hk => ⟨hk.1.1.1.1.1, ⟨hk.1.1.1.1.2, ⟨hk.1.1.1.2, hk.1.1.2⟩⟩⟩)⟩, ⟨bk_ BK350⟩, ⟨bk_ BK351⟩, ⟨bk_ BK352⟩, ⟨hB_ HB⟩⟩
  ·replace c11 := Bool.eq_false_iff.mpr c11
   subst c11
   have H1 : ((spec_fail.f 12).bind fun bt363 => ((spec_Same.f k a3_0 a3_1 a3_2 l3_3 l3_4 bt363.1 bt363.2.1 bt363.2.2.1 bt363.2.2.2.1 bt363.2.2.2.2).bind fun t372 => (spec_Legal.j0 k l1 t372 a0_0 a0_1 l0_2 a0_3 a0_4 a0_5 a0_6 a2_0 a2_1 l2_2 a3_0 a3_1 a3_2 l3_3 l3_4))) = some (r1, r2) := by rw [if_neg (show ¬ (false = true) by decide)] at H; exact H
   clear H; have H := H1; clear H1; replace H := Option.bind_eq_some_iff.mp H; obtain ⟨⟨t363, t364, t365, t366, t369⟩, A170, H⟩ := H
   replace H : ((spec_Same.f k a3_0 a3_1 a3_2 l3_3 l3_4 t363 t364 t365 t366 t369).bind fun t372 => (spec_Legal.j0 k l1 t372 a0_0 a0_1 l0_2 a0_3 a0_4 a0_5 a0_6 a2_0 a2_1 l2_2 a3_0 a3_1 a3_2 l3_3 l3_4)) = some (r1, r2) := H
   have A17 := Aside0.mk A170; clear A170; replace H := Option.bind_eq_some_iff.mp H; obtain ⟨t372, A180, H⟩ := H
   replace H : (spec_Legal.j0 k l1 t372 a0_0 a0_1 l0_2 a0_3 a0_4 a0_5 a0_6 a2_0 a2_1 l2_2 a3_0 a3_1 a3_2 l3_3 l3_4) = some (r1, r2) := H
   have A18 := Aside0.mk A180; clear A180
   have H' := Aside0.mk H
   clear H
   try go_wp2
   have n0_ := Aside0.mk (Kd.V_drew HO1.out); have n1_ := Aside0.mk (blk_drew BK350.out); have n2_ := Aside0.mk (blk_drew BK351.out); have n3_ := Aside0.mk (blk_drew BK352.out); have n4_ := Aside0.mk (below_drew1 HB.out); clear HO1; clear BK350; clear BK351; clear BK352; clear HB; have HO1 := n0_; have BK350 := n1_; have BK351 := n2_; have BK352 := n3_; have HB := n4_; clear n0_ n1_ n2_ n3_ n4_
   refine start_ (n := 8) (S := fun w' => w'.cell? ⟨gb352, 0, none⟩ = some (.int .i64 a3_0) ∧ w'.cell? ⟨gb352, 1, none⟩ = some (.int .u32 a3_1) ∧ w'.cell? ⟨gb352, 2, none⟩ = some (.bool a3_2) ∧ w'.cell? ⟨gb352, 3, none⟩ = some (.slice A3_3 l3_3.length c3_3) ∧ w'.cell? ⟨gb352, 4, none⟩ = some (.slice A3_4 l3_4.length c3_4)) (ds := []) (tf 8 0) (by kernel_rfl) rfl rfl ⟨(blk_cell BK352.out 0).trans rfl, (blk_cell BK352.out 1).trans rfl, (blk_cell BK352.out 2).trans rfl, (blk_cell BK352.out 3).trans rfl, (blk_cell BK352.out 4).trans rfl⟩ (fun hHeld => ?_); refine with_tabW spec_Legal.tab1 spec_Legal.bits1 (fun HT_ HW_ => ?_)
   generalize w8.drew = w19 at HO1 BK350 BK351 BK352 HB hHeld ⊢
   refine tk_ (i := 0) (N := some 14) (tf 8 1) rfl rfl HT_ HW_ hHeld (by rintro w' ⟨s0, s1, s2, s3, s4⟩; go_simp; with_reducible rfl) ?_
   refine one_ (i := 1) (N := some 15) (tf 8 3) rfl rfl (one_of HT_.out (by kernel_rfl)) (by decide) (fun K hK => ?_)
   refine goes_ Tryd.func31 (by kernel_rfl) rfl #[.int .i64 10] (by rfl) rfl rfl am_ ?_
   with_reducible refine (spec_fail.calls 10 t353 t354 t355 t356 t359 _ A9.out).mono ?_
   rintro e w20 ⟨v357, v360, rfl, ho0, ho1, hb⟩
   refine ⟨_, rfl, ?_⟩
   have n0_ := Aside0.mk (Kd.V_mono (Kd.V_told (Kd.V_told (Kd.V_old (vV_ HO1) hb) (Kd.R_base ho0)) (Kd.R_base ho1)) (fun _ h_ => h_.1)); have n1_ := Aside0.mk (Kd.R_lower (Kd.R_newM (M := fun k_ => (w.heap.size ≤ k_)) ho0 (below_size (hB_ HB)) (fun k_ h_ => h_)) (below_size (hB_ HB))); have n2_ := Aside0.mk (Kd.R_lower (Kd.R_newM (M := fun k_ => (w.heap.size ≤ k_)) ho1 (below_size (hB_ HB)) (fun k_ h_ => h_)) (below_size (hB_ HB))); have n3_ := bB_ BK350 hb; have n4_ := bB_ BK351 hb; have n5_ := bB_ BK352 hb; have n6_ := Aside0.mk (below_step (hB_ HB) hb); clear HO1; clear BK350; clear BK351; clear BK352; clear HB; have HO1 := n0_; have HO358 := n1_; have HO361 := n2_; have BK350 := n3_; have BK351 := n4_; have BK352 := n5_; have HB := n6_; clear n0_ n1_ n2_ n3_ n4_ n5_ n6_
   (try clear hb)
   (try clear hb2)
   (try clear hk)
   (try clear hi)
   (try clear ho0)
   (try clear ho1)
   obtain ⟨Ao21, co21, eo21⟩ := Kd.R_slice HO358.out
   (first | subst eo21 | (injection eo21 with f1_ f2_ f3_; have f4_ := f1_.symm; have f5_ := f3_.symm; clear f1_ f2_ f3_; subst f4_; subst f5_))
   obtain ⟨Ao22, co22, eo22⟩ := Kd.R_slice HO361.out
   (first | subst eo22 | (injection eo22 with f1_ f2_ f3_; have f4_ := f1_.symm; have f5_ := f3_.symm; clear f1_ f2_ f3_; subst f4_; subst f5_))
   refine hK.out _ _ ⟨(blk_cell BK352.out 0).trans rfl, (blk_cell BK352.out 1).trans rfl, (blk_cell BK352.out 2).trans rfl, (blk_cell BK352.out 3).trans rfl, (blk_cell BK352.out 4).trans rfl⟩ (fun hHeld => ?_)
   clear hK K
   refine norm_ (a' := ?_) ?_ ?_
   rotate_left
   ·show Act.put _ (some 15) _ = _
    simp only [Act.put, List.setIfInBounds_toArray, List.set_cons_zero, List.set_cons_succ, i64_w, i32_w]
    rfl
   refine one_ (i := 2) (N := some 16) (tf 8 7) rfl rfl (one_of HT_.out (by kernel_rfl)) (by decide) (fun K hK => ?_)
   refine goes_ Tryd.func19 (by kernel_rfl) rfl #[.agg #[.int .i64 a3_0, .int .u32 a3_1, .bool a3_2, .slice A3_3 l3_3.length c3_3, .slice A3_4 l3_4.length c3_4], .agg #[.int .i64 t353, .int .u32 t354, .bool t355, .slice Ao21 t356.length co21, .slice Ao22 t359.length co22]] (by rfl) rfl rfl am_ ?_
   with_reducible refine (spec_Same.calls k a3_0 a3_1 a3_2 _ _ l3_3 _ _ l3_4 t353 t354 t355 _ _ t356 _ _ t359 false _ ?side1 ?side2 ?side3 ?side4 ?side5 ?side6 ?side7 ?side8 A10.out).mono ?_
   (case side1 => exact cC_ HR3_3 HB)
   (case side2 => exact HC3_3.out)
   (case side3 => exact cC_ HR3_4 HB)
   (case side4 => exact HC3_4.out)
   (case side5 => repeat (first | exact (Kd.R_reads' HO358.out).2.2 | (with_reducible refine Kd.C_alloc ?_ _) | (with_reducible refine Kd.C_drewN ?_ _) | (with_reducible refine Kd.C_drew ?_)))
   (case side6 => exact (Kd.R_reads' HO358.out).2.1)
   (case side7 => repeat (first | exact (Kd.R_reads' HO361.out).2.2 | (with_reducible refine Kd.C_alloc ?_ _) | (with_reducible refine Kd.C_drewN ?_ _) | (with_reducible refine Kd.C_drew ?_)))
   (case side8 => exact (Kd.R_reads' HO361.out).2.1)
   rintro e w23 ⟨rfl, hb⟩
   refine ⟨_, rfl, ?_⟩
   have n0_ := Aside0.mk (Kd.V_below (vV_ HO1) hb); have n1_ := Aside0.mk (Kd.R_below (rR_ HO358) hb); have n2_ := Aside0.mk (Kd.R_below (rR_ HO361) hb); have n3_ := bB_ BK350 hb; have n4_ := bB_ BK351 hb; have n5_ := bB_ BK352 hb; have n6_ := Aside0.mk (below_step (hB_ HB) hb); clear HO1; clear HO358; clear HO361; clear BK350; clear BK351; clear BK352; clear HB; have HO1 := n0_; have HO358 := n1_; have HO361 := n2_; have BK350 := n3_; have BK351 := n4_; have BK352 := n5_; have HB := n6_; clear n0_ n1_ n2_ n3_ n4_ n5_ n6_
   (try clear hb)
   (try clear hb2)
   (try clear hk)
   (try clear hi)
   refine hK.out _ _ ⟨(blk_cell BK352.out 0).trans rfl, (blk_cell BK352.out 1).trans rfl, (blk_cell BK352.out 2).trans rfl, (blk_cell BK352.out 3).trans rfl, (blk_cell BK352.out 4).trans rfl⟩ (fun hHeld => ?_)
   clear hK K
   refine norm_ (a' := ?_) ?_ ?_
   rotate_left
   ·show Act.put _ (some 16) _ = _
    simp only [Act.put, List.setIfInBounds_toArray, List.set_cons_zero, List.set_cons_succ, i64_w, i32_w]
    rfl
   refine pu_ (i := 3) (N := some 17) (tf 8 15) HT_ ?_; refine tk_ (i := 4) (N := some 18) (tf 8 31) rfl rfl HT_ HW_ hHeld (by rintro w' ⟨s0, s1, s2, s3, s4⟩; go_simp; with_reducible rfl) ?_
   refine one_ (i := 5) (N := some 19) (tf 8 63) rfl rfl (one_of HT_.out (by kernel_rfl)) (by decide) (fun K hK => ?_)
   refine goes_ Tryd.func31 (by kernel_rfl) rfl #[.int .i64 12] (by rfl) rfl rfl am_ ?_
   with_reducible refine (spec_fail.calls 12 t363 t364 t365 t366 t369 _ A17.out).mono ?_
   rintro e w24 ⟨v367, v370, rfl, ho0, ho1, hb⟩
   refine ⟨_, rfl, ?_⟩
   have n0_ := Aside0.mk (Kd.V_mono (Kd.V_told (Kd.V_told (Kd.V_old (vV_ HO1) hb) (Kd.R_base ho0)) (Kd.R_base ho1)) (fun _ h_ => h_.1)); have n1_ := Aside0.mk (Kd.R_elder' (rR_ HO358) (Kd.R_base ho0) hb); have n2_ := Aside0.mk (Kd.R_elder' (rR_ HO361) (Kd.R_base ho1) hb); have n3_ := Aside0.mk (Kd.R_lower (Kd.R_new' (Kd.R_newM (M := fun k_ => (w.heap.size ≤ k_)) ho0 (below_size (hB_ HB)) (fun k_ h_ => h_)) (Kd.R_lt (rR_ HO358))) (below_size (hB_ HB))); have n4_ := Aside0.mk (Kd.R_lower (Kd.R_new' (Kd.R_newM (M := fun k_ => (w.heap.size ≤ k_)) ho1 (below_size (hB_ HB)) (fun k_ h_ => h_)) (Kd.R_lt (rR_ HO361))) (below_size (hB_ HB))); have n5_ := bB_ BK350 hb; have n6_ := bB_ BK351 hb; have n7_ := bB_ BK352 hb; have n8_ := Aside0.mk (below_step (hB_ HB) hb); clear HO1; clear HO358; clear HO361; clear BK350; clear BK351; clear BK352; clear HB; have HO1 := n0_; have HO358 := n1_; have HO361 := n2_; have HO368 := n3_; have HO371 := n4_; have BK350 := n5_; have BK351 := n6_; have BK352 := n7_; have HB := n8_; clear n0_ n1_ n2_ n3_ n4_ n5_ n6_ n7_ n8_
   (try clear hb)
   (try clear hb2)
   (try clear hk)
   (try clear hi)
   (try clear ho0)
   (try clear ho1)
   obtain ⟨Ao25, co25, eo25⟩ := Kd.R_slice HO368.out
   (first | subst eo25 | (injection eo25 with f1_ f2_ f3_; have f4_ := f1_.symm; have f5_ := f3_.symm; clear f1_ f2_ f3_; subst f4_; subst f5_))
   obtain ⟨Ao26, co26, eo26⟩ := Kd.R_slice HO371.out
   (first | subst eo26 | (injection eo26 with f1_ f2_ f3_; have f4_ := f1_.symm; have f5_ := f3_.symm; clear f1_ f2_ f3_; subst f4_; subst f5_))
   refine hK.out _ _ ⟨(blk_cell BK352.out 0).trans rfl, (blk_cell BK352.out 1).trans rfl, (blk_cell BK352.out 2).trans rfl, (blk_cell BK352.out 3).trans rfl, (blk_cell BK352.out 4).trans rfl⟩ (fun hHeld => ?_)
   clear hK K
   refine norm_ (a' := ?_) ?_ ?_
   rotate_left
   ·show Act.put _ (some 19) _ = _
    simp only [Act.put, List.setIfInBounds_toArray, List.set_cons_zero, List.set_cons_succ, i64_w, i32_w]
    rfl
   refine one_ (i := 6) (N := some 20) (tf 8 127) rfl rfl (one_of HT_.out (by kernel_rfl)) (by decide) (fun K hK => ?_)
   refine goes_ Tryd.func19 (by kernel_rfl) rfl #[.agg #[.int .i64 a3_0, .int .u32 a3_1, .bool a3_2, .slice A3_3 l3_3.length c3_3, .slice A3_4 l3_4.length c3_4], .agg #[.int .i64 t363, .int .u32 t364, .bool t365, .slice Ao25 t366.length co25, .slice Ao26 t369.length co26]] (by rfl) rfl rfl am_ ?_
   with_reducible refine (spec_Same.calls k a3_0 a3_1 a3_2 _ _ l3_3 _ _ l3_4 t363 t364 t365 _ _ t366 _ _ t369 t372 _ ?side1 ?side2 ?side3 ?side4 ?side5 ?side6 ?side7 ?side8 A18.out).mono ?_
   (case side1 => exact cC_ HR3_3 HB)
   (case side2 => exact HC3_3.out)
   (case side3 => exact cC_ HR3_4 HB)
   (case side4 => exact HC3_4.out)
   (case side5 => repeat (first | exact (Kd.R_reads' HO368.out).2.2 | (with_reducible refine Kd.C_alloc ?_ _) | (with_reducible refine Kd.C_drewN ?_ _) | (with_reducible refine Kd.C_drew ?_)))
   (case side6 => exact (Kd.R_reads' HO368.out).2.1)
   (case side7 => repeat (first | exact (Kd.R_reads' HO371.out).2.2 | (with_reducible refine Kd.C_alloc ?_ _) | (with_reducible refine Kd.C_drewN ?_ _) | (with_reducible refine Kd.C_drew ?_)))
   (case side8 => exact (Kd.R_reads' HO371.out).2.1)
   rintro e w27 ⟨rfl, hb⟩
   refine ⟨_, rfl, ?_⟩
   have n0_ := Aside0.mk (Kd.V_below (vV_ HO1) hb); have n1_ := Aside0.mk (Kd.R_below (rR_ HO358) hb); have n2_ := Aside0.mk (Kd.R_below (rR_ HO361) hb); have n3_ := Aside0.mk (Kd.R_below (rR_ HO368) hb); have n4_ := Aside0.mk (Kd.R_below (rR_ HO371) hb); have n5_ := bB_ BK350 hb; have n6_ := bB_ BK351 hb; have n7_ := bB_ BK352 hb; have n8_ := Aside0.mk (below_step (hB_ HB) hb); clear HO1; clear HO358; clear HO361; clear HO368; clear HO371; clear BK350; clear BK351; clear BK352; clear HB; have HO1 := n0_; have HO358 := n1_; have HO361 := n2_; have HO368 := n3_; have HO371 := n4_; have BK350 := n5_; have BK351 := n6_; have BK352 := n7_; have HB := n8_; clear n0_ n1_ n2_ n3_ n4_ n5_ n6_ n7_ n8_
   (try clear hb)
   (try clear hb2)
   (try clear hk)
   (try clear hi)
   refine hK.out _ _ ⟨(blk_cell BK352.out 0).trans rfl, (blk_cell BK352.out 1).trans rfl, (blk_cell BK352.out 2).trans rfl, (blk_cell BK352.out 3).trans rfl, (blk_cell BK352.out 4).trans rfl⟩ (fun hHeld => ?_)
   clear hK K
   refine norm_ (a' := ?_) ?_ ?_
   rotate_left
   ·show Act.put _ (some 20) _ = _
    simp only [Act.put, List.setIfInBounds_toArray, List.set_cons_zero, List.set_cons_succ, i64_w, i32_w]
    rfl
   refine pu_ (i := 7) (N := some 21) (tf 8 255) HT_ ?_
   refine done_ (done_of HT_.out (by kernel_rfl)) ?_
   try go_wp2
   go_meet
   case rel => exact ⟨_, (t372), rs_, H', ⟨by first | omega | exact Nat.le_refl _⟩, ⟨by (with_reducible repeat (first | apply Kd.V_alloc | apply Kd.V_drewN | apply Kd.V_drew)); exact Kd.V_mono HO1.out (fun _ hk => ⟨hk.1.1.1.1.1.1.1, ⟨hk.1.1.1.1.1.1.2, ⟨hk.1.1.1.1.1.2, hk.1.1.1.1.2⟩⟩⟩)⟩, ⟨bk_ BK350⟩, ⟨bk_ BK351⟩, ⟨bk_ BK352⟩, ⟨hB_ HB⟩⟩
 case rest =>
  clear HC5
  try clear c1
  try clear c2
  try clear p2
  try clear c3
  try clear c11
  try clear c13
  try clear c19
  obtain ⟨kq, x21_4, rfl, HA, HJ4, HO_1, BK350, BK351, BK352, HB⟩ := hcut
  cases kq with
  | zero => exact absurd HA.out (by simp [spec_Legal.j0])
  | succ kj4 =>
   have H := HA.out; clear HA; simp only [spec_Legal.j0] at H
   by_cases c28 : x21_4 = true
   ·subst c28
    have H1 : (some (l1, true)) = some (r1, r2) := by rw [if_pos rfl] at H; exact H
    clear H; have H := H1; clear H1; simp only [Option.some.injEq, Prod.mk.injEq] at H; obtain ⟨rfl, rfl⟩ := H
    go_wp2
    go_ret2
    exact ⟨_, er_, by (with_reducible repeat (first | apply Kd.V_alloc | apply Kd.V_drewN | apply Kd.V_drew)); exact Kd.V_mono HO_1.out (fun _ hk => hk.1), hB_ HB⟩
   ·replace c28 := Bool.eq_false_iff.mpr c28
    subst c28
    have H1 : ((spec_Some.f kj4 a0_0 a0_1 l0_2 a0_3 a0_4 a0_5 a0_6 l1 a2_0 a2_1 l2_2).bind fun bt373 => ((spec_Same.f kj4 a3_0 a3_1 a3_2 l3_3 l3_4 bt373.2.1 bt373.2.2.1 bt373.2.2.2.1 bt373.2.2.2.2.1 bt373.2.2.2.2.2).bind fun t386 => (if t386 = true then (some (bt373.1, true)) else ((ask_Check.f kj4 a0_0 a0_1 l0_2 a0_3 a0_4 a0_5 a0_6 a2_0 a2_1 l2_2).bind fun t387 => (if t387 = 0 then (if a2_0 = 6 then ((spec_fail.f 11).bind fun bt388 => ((spec_Same.f kj4 a3_0 a3_1 a3_2 l3_3 l3_4 bt388.1 bt388.2.1 bt388.2.2.1 bt388.2.2.2.1 bt388.2.2.2.2).bind fun t397 => (spec_Legal.j1 kj4 l1 t397 a0_0 a0_1 l0_2 a0_3 a0_4 a0_5 a0_6 a2_0 a2_1 l2_2 a3_0 a3_1 a3_2 l3_3 l3_4))) else (spec_Legal.j1 kj4 l1 false a0_0 a0_1 l0_2 a0_3 a0_4 a0_5 a0_6 a2_0 a2_1 l2_2 a3_0 a3_1 a3_2 l3_3 l3_4)) else (some (l1, false))))))) = some (r1, r2) := by rw [if_neg (show ¬ (false = true) by decide)] at H; exact H
    clear H; have H := H1; clear H1; replace H := Option.bind_eq_some_iff.mp H; obtain ⟨⟨t373, t376, t377, t378, t379, t382⟩, A290, H⟩ := H
    replace H : ((spec_Same.f kj4 a3_0 a3_1 a3_2 l3_3 l3_4 t376 t377 t378 t379 t382).bind fun t386 => (if t386 = true then (some (t373, true)) else ((ask_Check.f kj4 a0_0 a0_1 l0_2 a0_3 a0_4 a0_5 a0_6 a2_0 a2_1 l2_2).bind fun t387 => (if t387 = 0 then (if a2_0 = 6 then ((spec_fail.f 11).bind fun bt388 => ((spec_Same.f kj4 a3_0 a3_1 a3_2 l3_3 l3_4 bt388.1 bt388.2.1 bt388.2.2.1 bt388.2.2.2.1 bt388.2.2.2.2).bind fun t397 => (spec_Legal.j1 kj4 l1 t397 a0_0 a0_1 l0_2 a0_3 a0_4 a0_5 a0_6 a2_0 a2_1 l2_2 a3_0 a3_1 a3_2 l3_3 l3_4))) else (spec_Legal.j1 kj4 l1 false a0_0 a0_1 l0_2 a0_3 a0_4 a0_5 a0_6 a2_0 a2_1 l2_2 a3_0 a3_1 a3_2 l3_3 l3_4)) else (some (l1, false)))))) = some (r1, r2) := H
    have A29 := Aside0.mk A290; clear A290; replace H := Option.bind_eq_some_iff.mp H; obtain ⟨t386, A300, H⟩ := H
    replace H : (if t386 = true then (some (t373, true)) else ((ask_Check.f kj4 a0_0 a0_1 l0_2 a0_3 a0_4 a0_5 a0_6 a2_0 a2_1 l2_2).bind fun t387 => (if t387 = 0 then (if a2_0 = 6 then ((spec_fail.f 11).bind fun bt388 => ((spec_Same.f kj4 a3_0 a3_1 a3_2 l3_3 l3_4 bt388.1 bt388.2.1 bt388.2.2.1 bt388.2.2.2.1 bt388.2.2.2.2).bind fun t397 => (spec_Legal.j1 kj4 l1 t397 a0_0 a0_1 l0_2 a0_3 a0_4 a0_5 a0_6 a2_0 a2_1 l2_2 a3_0 a3_1 a3_2 l3_3 l3_4))) else (spec_Legal.j1 kj4 l1 false a0_0 a0_1 l0_2 a0_3 a0_4 a0_5 a0_6 a2_0 a2_1 l2_2 a3_0 a3_1 a3_2 l3_3 l3_4)) else (some (l1, false))))) = some (r1, r2) := H
    have A30 := Aside0.mk A300; clear A300
    by_cases c31 : t386 = true
    ·subst c31
     have H1 : (some (t373, true)) = some (r1, r2) := by rw [if_pos rfl] at H; exact H
     clear H; have H := H1; clear H1; simp only [Option.some.injEq, Prod.mk.injEq] at H; obtain ⟨rfl, rfl⟩ := H; have hnb32 := NB350_351.out; have hnc32 := NB351_350.out; have hnb33 := NB350_352.out; have hnc33 := NB352_350.out; obtain ⟨hcz34_0, hcz34_1, hcz34_2, hcz34_3, hcz34_4, hcz34_5, hcz34_6, hfz34_0, hfz34_1, hfz34_2, hfz34_3, hfz34_4, hfz34_5, hfz34_6⟩ := cz7_ (w := wc) BK350; have hnb35 := NB351_352.out; have hnc35 := NB352_351.out; obtain ⟨hcz36_0, hcz36_1, hcz36_2, hfz36_0, hfz36_1, hfz36_2⟩ := cz3_ (w := wc) BK351
     go_wp2_with (first | ((with_reducible refine gate_callee (f := 15) rfl ?_); refine goesL_ (some 27) rfl rfl Tryd.func15 (by kernel_rfl) rfl #[.agg #[.int .u32 a0_0, .int .i64 a0_1, .slice A0_2 l0_2.length c0_2, .int .i64 a0_3, .int .i64 a0_4, .int .i64 a0_5, .int .i64 a0_6], .slice A1 l1.length c1, .agg #[.int .i64 a2_0, .int .u32 a2_1, .slice A2_2 l2_2.length c2_2]] rfl am_ ?_; (with_reducible refine (spec_Some.calls kj4 a0_0 a0_1 _ _ l0_2 a0_3 a0_4 a0_5 a0_6 (fun k_ => ((P1_ k_ ∨ w.heap.size ≤ k_) ∧ (k_ ≠ gb350 ∧ (k_ ≠ gb351 ∧ k_ ≠ gb352)))) _ _ l1 a2_0 a2_1 _ _ l2_2 t373 t376 t377 t378 t379 t382 _ ?side1 ?side2 ?side3 ?side4 ?side5 ?side6 A29.out).mono ?_); (case side1 => exact cC_ HR0_2 HB); (case side2 => exact HC0_2.out); (case side3 => exact HO_1.out); (case side4 => exact cC_ HR2_2 HB); (case side5 => exact HC2_2.out); (case side6 => exact Lg_below HG.out (hB_ HB)); rintro e w37 ⟨v374, v380, v383, rfl, ho0, ho1, ho2, hb⟩; refine ⟨_, rfl, ?_⟩; have n0_ := Aside0.mk (Kd.V_mono (Kd.V_told (Kd.V_told (Kd.V_old (vV_ HO_1) hb) (Kd.R_base ho1)) (Kd.R_base ho2)) (fun _ h_ => h_.1)); have n1_ := Aside0.mk (Kd.V_lower (Kd.V_mono (ok' := fun k_ => (P1_ k_ ∨ w.heap.size ≤ k_) ∧ some k_ ≠ (v380 : Value).ownBlock ∧ some k_ ≠ (v383 : Value).ownBlock ∧ k_ ≠ gb350 ∧ k_ ≠ gb351 ∧ k_ ≠ gb352) ho0 (fun k_ hk_ => ⟨Or.elim hk_.1 (fun hs_ => hs_.1) (fun hn_ => (.inr (Nat.le_trans (below_size (hB_ HB)) hn_))), hk_.2.1, hk_.2.2, Or.elim hk_.1 (fun hs_ => hs_.2.1) (fun hn_ => (fB_ BK350 k_ hn_)), Or.elim hk_.1 (fun hs_ => hs_.2.2.1) (fun hn_ => (fB_ BK351 k_ hn_)), Or.elim hk_.1 (fun hs_ => hs_.2.2.2) (fun hn_ => (fB_ BK352 k_ hn_))⟩)) (below_size (hB_ HB))); have n2_ := Aside0.mk (Kd.R_lower (Kd.R_newM (M := fun k_ => (w.heap.size ≤ k_)) (Kd.R_mono (ok' := fun k_ => True) ho1 (fun _ hk_ => trivial)) (below_size (hB_ HB)) (fun k_ h_ => h_)) (below_size (hB_ HB))); have n3_ := Aside0.mk (Kd.R_lower (Kd.R_newM (M := fun k_ => (w.heap.size ≤ k_)) (Kd.R_mono (ok' := fun k_ => True) ho2 (fun _ hk_ => trivial)) (below_size (hB_ HB)) (fun k_ h_ => h_)) (below_size (hB_ HB))); have n5_ := bB_ BK351 hb; have n7_ := Aside0.mk (below_step (hB_ HB) hb); clear HO_1; clear BK351; clear HB; have HO_1 := n0_; have HO375 := n1_; have HO381 := n2_; have HO384 := n3_; have BK351 := n5_; have HB := n7_; replace BK350 := bB_ BK350 hb; replace BK352 := bB_ BK352 hb; clear n0_ n1_ n2_ n3_ n5_ n7_; (try clear hb); (try clear hb2); (try clear hk); (try clear hi); (try clear ho0); (try clear ho1); (try clear ho2)) | ((with_reducible refine gate_dst (N := 11) rfl ?_); refine box_event ?hg (N := 11) ?hd (cs := #[.int .i64 0, .int .u32 0, .bool false, .slice none 0 0, .slice none 0 0]) (t := 34) ?hr ?_; (case hd => rfl); (case hg => rfl); (case hr => first | (go_simp; done) | (go_simp; rfl)); intro gb385 hg w38 hbox hb; have n0_ := Aside0.mk (Kd.V_below (Kd.V_elderB (vV_ HO_1) gb385 (Nat.le_of_eq hg.symm)) hb); have n1_ := Aside0.mk (Kd.V_below (Kd.V_elderB (vV_ HO375) gb385 (Nat.le_of_eq hg.symm)) hb); have n2_ := Aside0.mk (Kd.R_below (rR_ HO381) hb); have n3_ := Aside0.mk (Kd.R_below (rR_ HO384) hb); have n5_ := bB_ BK351 hb; have n7_ := Aside0.mk (below_step (hB_ HB) hb); have n8_ := Aside0.mk (hbox); have n9_ := gG_ (w := w) hg HB; have n10_ := gG_ (w := w) hg HB; have n11_ := nL_ hg BK350; have n12_ := nG_ hg BK350; have n13_ := nL_ hg BK351; have n14_ := nG_ hg BK351; have n15_ := nL_ hg BK352; have n16_ := nG_ hg BK352; clear HO_1; clear HO375; clear HO381; clear HO384; clear BK351; clear HB; have HO_1 := n0_; have HO375 := n1_; have HO381 := n2_; have HO384 := n3_; have BK351 := n5_; have HB := n7_; have BK385 := n8_; have GW385 := n9_; have GE385 := n10_; have NB350_385 := n11_; have NB385_350 := n12_; have NB351_385 := n13_; have NB385_351 := n14_; have NB352_385 := n15_; have NB385_352 := n16_; replace BK350 := bB_ BK350 hb; replace BK352 := bB_ BK352 hb; clear n0_ n1_ n2_ n3_ n5_ n7_ n8_ n9_ n10_ n11_ n12_ n13_ n14_ n15_ n16_; clear hb hbox hg; have hnb39 := NB385_350.out; have hnc39 := NB350_385.out; have hnb40 := NB385_351.out; have hnc40 := NB351_385.out; have hnb41 := NB385_352.out; have hnc41 := NB352_385.out; obtain ⟨hcz42_0, hcz42_1, hcz42_2, hcz42_3, hcz42_4, hfz42_0, hfz42_1, hfz42_2, hfz42_3, hfz42_4⟩ := cz5_ (w := w38) BK385; obtain ⟨Ao43, co43, eo43⟩ := Kd.R_slice HO381.out; subst eo43; obtain ⟨Ao44, co44, eo44⟩ := Kd.R_slice HO384.out; subst eo44; obtain ⟨hcz45_0, hcz45_1, hcz45_2, hcz45_3, hcz45_4, hfz45_0, hfz45_1, hfz45_2, hfz45_3, hfz45_4⟩ := cz5_ (w := w38) BK352) | ((with_reducible refine gate_callee (f := 19) rfl ?_); refine goesL_ (some 33) rfl rfl Tryd.func19 (by kernel_rfl) rfl #[.agg #[.int .i64 a3_0, .int .u32 a3_1, .bool a3_2, .slice A3_3 l3_3.length c3_3, .slice A3_4 l3_4.length c3_4], .agg #[.int .i64 t376, .int .u32 t377, .bool t378, .slice Ao43 t379.length co43, .slice Ao44 t382.length co44]] rfl am_ ?_; (with_reducible refine (spec_Same.calls kj4 a3_0 a3_1 a3_2 _ _ l3_3 _ _ l3_4 t376 t377 t378 _ _ t379 _ _ t382 true _ ?side1 ?side2 ?side3 ?side4 ?side5 ?side6 ?side7 ?side8 A30.out).mono ?_); (case side1 => exact Kd.C_below HR3_3.out (hB_ HB)); (case side2 => exact HC3_3.out); (case side3 => exact Kd.C_below HR3_4.out (hB_ HB)); (case side4 => exact HC3_4.out); (case side5 => refine (Kd.R_reads' (e := 22) (base := w.heap.size) (ok := fun k_ => ((w.heap.size ≤ k_) ∧ True)) (n := t379.length) (c := co43) ?_).2.2; exact (by (with_reducible repeat (first | apply Kd.R_alloc | apply Kd.R_drewN | apply Kd.R_drew)); exact (Kd.R_mono (rF5_ (g := gb385) (Kd.R_types HO381.out BK385.out (by decide)) (fun _ hk => hk.2)) (fun _ h_ => h_.1)))); (case side6 => exact (Kd.R_reads' HO381.out).2.1); (case side7 => refine (Kd.R_reads' (e := 31) (base := w.heap.size) (ok := fun k_ => ((w.heap.size ≤ k_) ∧ True)) (n := t382.length) (c := co44) ?_).2.2; exact (by (with_reducible repeat (first | apply Kd.R_alloc | apply Kd.R_drewN | apply Kd.R_drew)); exact (Kd.R_mono (rF5_ (g := gb385) (Kd.R_types HO384.out BK385.out (by decide)) (fun _ hk => hk.2)) (fun _ h_ => h_.1)))); (case side8 => exact (Kd.R_reads' HO384.out).2.1); rintro e w46 ⟨rfl, hb⟩; refine ⟨_, rfl, ?_⟩; have n0_ := Aside0.mk (Kd.V_below (by (with_reducible repeat (first | apply Kd.V_alloc | apply Kd.V_drewN | apply Kd.V_drew)); exact (Kd.V_mono (vF5_ (g := gb385) (Kd.V_mono HO_1.out (fun k_ hk => (⟨hk, hk.2⟩ : _ ∧ k_ ≠ gb385))) (fun _ hk => hk.2)) (fun _ h_ => h_.1))) hb); have n1_ := Aside0.mk (Kd.V_below (by (with_reducible repeat (first | apply Kd.V_alloc | apply Kd.V_drewN | apply Kd.V_drew)); exact (Kd.V_mono (vF5_ (g := gb385) (Kd.V_mono HO375.out (fun k_ hk => (⟨hk, hk.2⟩ : _ ∧ k_ ≠ gb385))) (fun _ hk => hk.2)) (fun _ h_ => h_.1))) hb); have n2_ := Aside0.mk (Kd.R_below (by (with_reducible repeat (first | apply Kd.R_alloc | apply Kd.R_drewN | apply Kd.R_drew)); exact (Kd.R_mono (rF5_ (g := gb385) (Kd.R_types HO381.out BK385.out (by decide)) (fun _ hk => hk.2)) (fun _ h_ => h_.1))) hb); have n3_ := Aside0.mk (Kd.R_below (by (with_reducible repeat (first | apply Kd.R_alloc | apply Kd.R_drewN | apply Kd.R_drew)); exact (Kd.R_mono (rF5_ (g := gb385) (Kd.R_types HO384.out BK385.out (by decide)) (fun _ hk => hk.2)) (fun _ h_ => h_.1))) hb); have n4_ := Aside0.mk (blk_below (g := gb350) (o := .cells #[.int .u32 a0_0, .int .i64 a0_1, .slice A0_2 l0_2.length c0_2, .int .i64 a0_3, .int .i64 a0_4, .int .i64 a0_5, .int .i64 a0_6] 27 (0, 0)) (by (with_reducible repeat (first | refine blk_drewN ?_ _ | refine blk_drew ?_ | refine blk_alloc ?_ _)); refine blk_far ?_ NB350_385.out _; refine blk_far ?_ NB350_385.out _; refine blk_far ?_ NB350_385.out _; refine blk_far ?_ NB350_385.out _; refine blk_far ?_ NB350_385.out _; (with_reducible repeat (first | refine blk_drewN ?_ _ | refine blk_drew ?_ | refine blk_alloc ?_ _)); exact BK350.out) hb); have n5_ := Aside0.mk (blk_below (g := gb351) (o := .cells #[.int .i64 a2_0, .int .u32 a2_1, .slice A2_2 l2_2.length c2_2] 30 (0, 0)) (by (with_reducible repeat (first | refine blk_drewN ?_ _ | refine blk_drew ?_ | refine blk_alloc ?_ _)); refine blk_far ?_ NB351_385.out _; refine blk_far ?_ NB351_385.out _; refine blk_far ?_ NB351_385.out _; refine blk_far ?_ NB351_385.out _; refine blk_far ?_ NB351_385.out _; (with_reducible repeat (first | refine blk_drewN ?_ _ | refine blk_drew ?_ | refine blk_alloc ?_ _)); exact BK351.out) hb); have n6_ := Aside0.mk (blk_below (g := gb352) (o := .cells #[.int .i64 a3_0, .int .u32 a3_1, .bool a3_2, .slice A3_3 l3_3.length c3_3, .slice A3_4 l3_4.length c3_4] 34 (0, 0)) (by (with_reducible repeat (first | refine blk_drewN ?_ _ | refine blk_drew ?_ | refine blk_alloc ?_ _)); refine blk_far ?_ NB352_385.out _; refine blk_far ?_ NB352_385.out _; refine blk_far ?_ NB352_385.out _; refine blk_far ?_ NB352_385.out _; refine blk_far ?_ NB352_385.out _; (with_reducible repeat (first | refine blk_drewN ?_ _ | refine blk_drew ?_ | refine blk_alloc ?_ _)); exact BK352.out) hb); have n7_ := Aside0.mk (blk_below (g := gb385) (o := .cells #[.int .i64 t376, .int .u32 t377, .bool t378, .slice Ao43 t379.length co43, .slice Ao44 t382.length co44] 34 (0, 0)) (by (with_reducible repeat (first | refine blk_drewN ?_ _ | refine blk_drew ?_ | refine blk_alloc ?_ _)); refine blk_put (cs := #[.int .i64 t376, .int .u32 t377, .bool t378, .slice Ao43 t379.length co43, .slice none 0 0]) ?_ 4 _ rfl; refine blk_put (cs := #[.int .i64 t376, .int .u32 t377, .bool t378, .slice none 0 0, .slice none 0 0]) ?_ 3 _ rfl; refine blk_put (cs := #[.int .i64 t376, .int .u32 t377, .bool false, .slice none 0 0, .slice none 0 0]) ?_ 2 _ rfl; refine blk_put (cs := #[.int .i64 t376, .int .u32 0, .bool false, .slice none 0 0, .slice none 0 0]) ?_ 1 _ rfl; refine blk_put (cs := #[.int .i64 0, .int .u32 0, .bool false, .slice none 0 0, .slice none 0 0]) ?_ 0 _ rfl; (with_reducible repeat (first | refine blk_drewN ?_ _ | refine blk_drew ?_ | refine blk_alloc ?_ _)); exact BK385.out) hb); clear HO_1; clear HO375; clear HO381; clear HO384; clear BK350; clear BK351; clear BK352; clear BK385; have HO_1 := n0_; have HO375 := n1_; have HO381 := n2_; have HO384 := n3_; have BK350 := n4_; have BK351 := n5_; have BK352 := n6_; have BK385 := n7_; replace HB := hS_ HB hb; clear n0_ n1_ n2_ n3_ n4_ n5_ n6_ n7_; (try clear hb); (try clear hb2); (try clear hk); (try clear hi)))
     go_ret2
     exact ⟨_, er_, by (with_reducible repeat (first | apply Kd.V_alloc | apply Kd.V_drewN | apply Kd.V_drew)); exact Kd.V_mono HO375.out (fun _ hk => hk.1.1), hB_ HB⟩
    ·replace c31 := Bool.eq_false_iff.mpr c31
     subst c31
     have H1 : ((ask_Check.f kj4 a0_0 a0_1 l0_2 a0_3 a0_4 a0_5 a0_6 a2_0 a2_1 l2_2).bind fun t387 => (if t387 = 0 then (if a2_0 = 6 then ((spec_fail.f 11).bind fun bt388 => ((spec_Same.f kj4 a3_0 a3_1 a3_2 l3_3 l3_4 bt388.1 bt388.2.1 bt388.2.2.1 bt388.2.2.2.1 bt388.2.2.2.2).bind fun t397 => (spec_Legal.j1 kj4 l1 t397 a0_0 a0_1 l0_2 a0_3 a0_4 a0_5 a0_6 a2_0 a2_1 l2_2 a3_0 a3_1 a3_2 l3_3 l3_4))) else (spec_Legal.j1 kj4 l1 false a0_0 a0_1 l0_2 a0_3 a0_4 a0_5 a0_6 a2_0 a2_1 l2_2 a3_0 a3_1 a3_2 l3_3 l3_4)) else (some (l1, false)))) = some (r1, r2) := by rw [if_neg (show ¬ (false = true) by decide)] at H; exact H
     clear H; have H := H1; clear H1; replace H := Option.bind_eq_some_iff.mp H; obtain ⟨t387, A470, H⟩ := H
     replace H : (if t387 = 0 then (if a2_0 = 6 then ((spec_fail.f 11).bind fun bt388 => ((spec_Same.f kj4 a3_0 a3_1 a3_2 l3_3 l3_4 bt388.1 bt388.2.1 bt388.2.2.1 bt388.2.2.2.1 bt388.2.2.2.2).bind fun t397 => (spec_Legal.j1 kj4 l1 t397 a0_0 a0_1 l0_2 a0_3 a0_4 a0_5 a0_6 a2_0 a2_1 l2_2 a3_0 a3_1 a3_2 l3_3 l3_4))) else (spec_Legal.j1 kj4 l1 false a0_0 a0_1 l0_2 a0_3 a0_4 a0_5 a0_6 a2_0 a2_1 l2_2 a3_0 a3_1 a3_2 l3_3 l3_4)) else (some (l1, false))) = some (r1, r2) := H
     have A47 := Aside0.mk A470; clear A470
     by_cases c48 : t387 = 0
     ·rw [if_pos c48] at H
      have c48b0 : (t387 == 0) = true := beq_iff_eq.mpr c48
      have c48b1 : (t387 != 0) = false := bne_eq_false_iff_eq.mpr c48
      clear c48; have HC49 := Aside0.mk H; clear H; have hnb50 := NB350_351.out; have hnc50 := NB351_350.out; have hnb51 := NB350_352.out; have hnc51 := NB352_350.out; obtain ⟨hcz52_0, hcz52_1, hcz52_2, hcz52_3, hcz52_4, hcz52_5, hcz52_6, hfz52_0, hfz52_1, hfz52_2, hfz52_3, hfz52_4, hfz52_5, hfz52_6⟩ := cz7_ (w := wc) BK350; have hnb53 := NB351_352.out; have hnc53 := NB352_351.out; obtain ⟨hcz54_0, hcz54_1, hcz54_2, hfz54_0, hfz54_1, hfz54_2⟩ := cz3_ (w := wc) BK351
      go_upto_region 7 with (first | ((with_reducible refine gate_callee (f := 15) rfl ?_); refine goesL_ (some 27) rfl rfl Tryd.func15 (by kernel_rfl) rfl #[.agg #[.int .u32 a0_0, .int .i64 a0_1, .slice A0_2 l0_2.length c0_2, .int .i64 a0_3, .int .i64 a0_4, .int .i64 a0_5, .int .i64 a0_6], .slice A1 l1.length c1, .agg #[.int .i64 a2_0, .int .u32 a2_1, .slice A2_2 l2_2.length c2_2]] rfl am_ ?_; (with_reducible refine (spec_Some.calls kj4 a0_0 a0_1 _ _ l0_2 a0_3 a0_4 a0_5 a0_6 (fun k_ => ((P1_ k_ ∨ w.heap.size ≤ k_) ∧ (k_ ≠ gb350 ∧ (k_ ≠ gb351 ∧ k_ ≠ gb352)))) _ _ l1 a2_0 a2_1 _ _ l2_2 t373 t376 t377 t378 t379 t382 _ ?side1 ?side2 ?side3 ?side4 ?side5 ?side6 A29.out).mono ?_); (case side1 => exact cC_ HR0_2 HB); (case side2 => exact HC0_2.out); (case side3 => exact HO_1.out); (case side4 => exact cC_ HR2_2 HB); (case side5 => exact HC2_2.out); (case side6 => exact Lg_below HG.out (hB_ HB)); rintro e w55 ⟨v374, v380, v383, rfl, ho0, ho1, ho2, hb⟩; refine ⟨_, rfl, ?_⟩; have n0_ := Aside0.mk (Kd.V_mono (Kd.V_told (Kd.V_told (Kd.V_old (vV_ HO_1) hb) (Kd.R_base ho1)) (Kd.R_base ho2)) (fun _ h_ => h_.1)); have n1_ := Aside0.mk (Kd.V_lower (Kd.V_mono (ok' := fun k_ => (P1_ k_ ∨ w.heap.size ≤ k_) ∧ some k_ ≠ (v380 : Value).ownBlock ∧ some k_ ≠ (v383 : Value).ownBlock ∧ k_ ≠ gb350 ∧ k_ ≠ gb351 ∧ k_ ≠ gb352) ho0 (fun k_ hk_ => ⟨Or.elim hk_.1 (fun hs_ => hs_.1) (fun hn_ => (.inr (Nat.le_trans (below_size (hB_ HB)) hn_))), hk_.2.1, hk_.2.2, Or.elim hk_.1 (fun hs_ => hs_.2.1) (fun hn_ => (fB_ BK350 k_ hn_)), Or.elim hk_.1 (fun hs_ => hs_.2.2.1) (fun hn_ => (fB_ BK351 k_ hn_)), Or.elim hk_.1 (fun hs_ => hs_.2.2.2) (fun hn_ => (fB_ BK352 k_ hn_))⟩)) (below_size (hB_ HB))); have n2_ := Aside0.mk (Kd.R_lower (Kd.R_newM (M := fun k_ => (w.heap.size ≤ k_)) (Kd.R_mono (ok' := fun k_ => True) ho1 (fun _ hk_ => trivial)) (below_size (hB_ HB)) (fun k_ h_ => h_)) (below_size (hB_ HB))); have n3_ := Aside0.mk (Kd.R_lower (Kd.R_newM (M := fun k_ => (w.heap.size ≤ k_)) (Kd.R_mono (ok' := fun k_ => True) ho2 (fun _ hk_ => trivial)) (below_size (hB_ HB)) (fun k_ h_ => h_)) (below_size (hB_ HB))); have n5_ := bB_ BK351 hb; have n7_ := Aside0.mk (below_step (hB_ HB) hb); clear HO_1; clear BK351; clear HB; have HO_1 := n0_; have HO375 := n1_; have HO381 := n2_; have HO384 := n3_; have BK351 := n5_; have HB := n7_; replace BK350 := bB_ BK350 hb; replace BK352 := bB_ BK352 hb; clear n0_ n1_ n2_ n3_ n5_ n7_; (try clear hb); (try clear hb2); (try clear hk); (try clear hi); (try clear ho0); (try clear ho1); (try clear ho2)) | ((with_reducible refine gate_dst (N := 11) rfl ?_); refine box_event ?hg (N := 11) ?hd (cs := #[.int .i64 0, .int .u32 0, .bool false, .slice none 0 0, .slice none 0 0]) (t := 34) ?hr ?_; (case hd => rfl); (case hg => rfl); (case hr => first | (go_simp; done) | (go_simp; rfl)); intro gb385 hg w56 hbox hb; have n0_ := Aside0.mk (Kd.V_below (Kd.V_elderB (vV_ HO_1) gb385 (Nat.le_of_eq hg.symm)) hb); have n1_ := Aside0.mk (Kd.V_below (Kd.V_elderB (vV_ HO375) gb385 (Nat.le_of_eq hg.symm)) hb); have n2_ := Aside0.mk (Kd.R_below (rR_ HO381) hb); have n3_ := Aside0.mk (Kd.R_below (rR_ HO384) hb); have n5_ := bB_ BK351 hb; have n7_ := Aside0.mk (below_step (hB_ HB) hb); have n8_ := Aside0.mk (hbox); have n9_ := gG_ (w := w) hg HB; have n10_ := gG_ (w := w) hg HB; have n11_ := nL_ hg BK350; have n12_ := nG_ hg BK350; have n13_ := nL_ hg BK351; have n14_ := nG_ hg BK351; have n15_ := nL_ hg BK352; have n16_ := nG_ hg BK352; clear HO_1; clear HO375; clear HO381; clear HO384; clear BK351; clear HB; have HO_1 := n0_; have HO375 := n1_; have HO381 := n2_; have HO384 := n3_; have BK351 := n5_; have HB := n7_; have BK385 := n8_; have GW385 := n9_; have GE385 := n10_; have NB350_385 := n11_; have NB385_350 := n12_; have NB351_385 := n13_; have NB385_351 := n14_; have NB352_385 := n15_; have NB385_352 := n16_; replace BK350 := bB_ BK350 hb; replace BK352 := bB_ BK352 hb; clear n0_ n1_ n2_ n3_ n5_ n7_ n8_ n9_ n10_ n11_ n12_ n13_ n14_ n15_ n16_; clear hb hbox hg; have hnb57 := NB385_350.out; have hnc57 := NB350_385.out; have hnb58 := NB385_351.out; have hnc58 := NB351_385.out; have hnb59 := NB385_352.out; have hnc59 := NB352_385.out; obtain ⟨hcz60_0, hcz60_1, hcz60_2, hcz60_3, hcz60_4, hfz60_0, hfz60_1, hfz60_2, hfz60_3, hfz60_4⟩ := cz5_ (w := w56) BK385; obtain ⟨Ao61, co61, eo61⟩ := Kd.R_slice HO381.out; subst eo61; obtain ⟨Ao62, co62, eo62⟩ := Kd.R_slice HO384.out; subst eo62; obtain ⟨hcz63_0, hcz63_1, hcz63_2, hcz63_3, hcz63_4, hfz63_0, hfz63_1, hfz63_2, hfz63_3, hfz63_4⟩ := cz5_ (w := w56) BK352) | ((with_reducible refine gate_callee (f := 19) rfl ?_); refine goesL_ (some 33) rfl rfl Tryd.func19 (by kernel_rfl) rfl #[.agg #[.int .i64 a3_0, .int .u32 a3_1, .bool a3_2, .slice A3_3 l3_3.length c3_3, .slice A3_4 l3_4.length c3_4], .agg #[.int .i64 t376, .int .u32 t377, .bool t378, .slice Ao61 t379.length co61, .slice Ao62 t382.length co62]] rfl am_ ?_; (with_reducible refine (spec_Same.calls kj4 a3_0 a3_1 a3_2 _ _ l3_3 _ _ l3_4 t376 t377 t378 _ _ t379 _ _ t382 false _ ?side1 ?side2 ?side3 ?side4 ?side5 ?side6 ?side7 ?side8 A30.out).mono ?_); (case side1 => exact Kd.C_below HR3_3.out (hB_ HB)); (case side2 => exact HC3_3.out); (case side3 => exact Kd.C_below HR3_4.out (hB_ HB)); (case side4 => exact HC3_4.out); (case side5 => refine (Kd.R_reads' (e := 22) (base := w.heap.size) (ok := fun k_ => ((w.heap.size ≤ k_) ∧ True)) (n := t379.length) (c := co61) ?_).2.2; exact (by (with_reducible repeat (first | apply Kd.R_alloc | apply Kd.R_drewN | apply Kd.R_drew)); exact (Kd.R_mono (rF5_ (g := gb385) (Kd.R_types HO381.out BK385.out (by decide)) (fun _ hk => hk.2)) (fun _ h_ => h_.1)))); (case side6 => exact (Kd.R_reads' HO381.out).2.1); (case side7 => refine (Kd.R_reads' (e := 31) (base := w.heap.size) (ok := fun k_ => ((w.heap.size ≤ k_) ∧ True)) (n := t382.length) (c := co62) ?_).2.2; exact (by (with_reducible repeat (first | apply Kd.R_alloc | apply Kd.R_drewN | apply Kd.R_drew)); exact (Kd.R_mono (rF5_ (g := gb385) (Kd.R_types HO384.out BK385.out (by decide)) (fun _ hk => hk.2)) (fun _ h_ => h_.1)))); (case side8 => exact (Kd.R_reads' HO384.out).2.1); rintro e w64 ⟨rfl, hb⟩; refine ⟨_, rfl, ?_⟩; have n0_ := Aside0.mk (Kd.V_below (by (with_reducible repeat (first | apply Kd.V_alloc | apply Kd.V_drewN | apply Kd.V_drew)); exact (Kd.V_mono (vF5_ (g := gb385) (Kd.V_mono HO_1.out (fun k_ hk => (⟨hk, hk.2⟩ : _ ∧ k_ ≠ gb385))) (fun _ hk => hk.2)) (fun _ h_ => h_.1))) hb); have n1_ := Aside0.mk (Kd.V_below (by (with_reducible repeat (first | apply Kd.V_alloc | apply Kd.V_drewN | apply Kd.V_drew)); exact (Kd.V_mono (vF5_ (g := gb385) (Kd.V_mono HO375.out (fun k_ hk => (⟨hk, hk.2⟩ : _ ∧ k_ ≠ gb385))) (fun _ hk => hk.2)) (fun _ h_ => h_.1))) hb); have n2_ := Aside0.mk (Kd.R_below (by (with_reducible repeat (first | apply Kd.R_alloc | apply Kd.R_drewN | apply Kd.R_drew)); exact (Kd.R_mono (rF5_ (g := gb385) (Kd.R_types HO381.out BK385.out (by decide)) (fun _ hk => hk.2)) (fun _ h_ => h_.1))) hb); have n3_ := Aside0.mk (Kd.R_below (by (with_reducible repeat (first | apply Kd.R_alloc | apply Kd.R_drewN | apply Kd.R_drew)); exact (Kd.R_mono (rF5_ (g := gb385) (Kd.R_types HO384.out BK385.out (by decide)) (fun _ hk => hk.2)) (fun _ h_ => h_.1))) hb); have n4_ := Aside0.mk (blk_below (g := gb350) (o := .cells #[.int .u32 a0_0, .int .i64 a0_1, .slice A0_2 l0_2.length c0_2, .int .i64 a0_3, .int .i64 a0_4, .int .i64 a0_5, .int .i64 a0_6] 27 (0, 0)) (by (with_reducible repeat (first | refine blk_drewN ?_ _ | refine blk_drew ?_ | refine blk_alloc ?_ _)); refine blk_far ?_ NB350_385.out _; refine blk_far ?_ NB350_385.out _; refine blk_far ?_ NB350_385.out _; refine blk_far ?_ NB350_385.out _; refine blk_far ?_ NB350_385.out _; (with_reducible repeat (first | refine blk_drewN ?_ _ | refine blk_drew ?_ | refine blk_alloc ?_ _)); exact BK350.out) hb); have n5_ := Aside0.mk (blk_below (g := gb351) (o := .cells #[.int .i64 a2_0, .int .u32 a2_1, .slice A2_2 l2_2.length c2_2] 30 (0, 0)) (by (with_reducible repeat (first | refine blk_drewN ?_ _ | refine blk_drew ?_ | refine blk_alloc ?_ _)); refine blk_far ?_ NB351_385.out _; refine blk_far ?_ NB351_385.out _; refine blk_far ?_ NB351_385.out _; refine blk_far ?_ NB351_385.out _; refine blk_far ?_ NB351_385.out _; (with_reducible repeat (first | refine blk_drewN ?_ _ | refine blk_drew ?_ | refine blk_alloc ?_ _)); exact BK351.out) hb); have n6_ := Aside0.mk (blk_below (g := gb352) (o := .cells #[.int .i64 a3_0, .int .u32 a3_1, .bool a3_2, .slice A3_3 l3_3.length c3_3, .slice A3_4 l3_4.length c3_4] 34 (0, 0)) (by (with_reducible repeat (first | refine blk_drewN ?_ _ | refine blk_drew ?_ | refine blk_alloc ?_ _)); refine blk_far ?_ NB352_385.out _; refine blk_far ?_ NB352_385.out _; refine blk_far ?_ NB352_385.out _; refine blk_far ?_ NB352_385.out _; refine blk_far ?_ NB352_385.out _; (with_reducible repeat (first | refine blk_drewN ?_ _ | refine blk_drew ?_ | refine blk_alloc ?_ _)); exact BK352.out) hb); have n7_ := Aside0.mk (blk_below (g := gb385) (o := .cells #[.int .i64 t376, .int .u32 t377, .bool t378, .slice Ao61 t379.length co61, .slice Ao62 t382.length co62] 34 (0, 0)) (by (with_reducible repeat (first | refine blk_drewN ?_ _ | refine blk_drew ?_ | refine blk_alloc ?_ _)); refine blk_put (cs := #[.int .i64 t376, .int .u32 t377, .bool t378, .slice Ao61 t379.length co61, .slice none 0 0]) ?_ 4 _ rfl; refine blk_put (cs := #[.int .i64 t376, .int .u32 t377, .bool t378, .slice none 0 0, .slice none 0 0]) ?_ 3 _ rfl; refine blk_put (cs := #[.int .i64 t376, .int .u32 t377, .bool false, .slice none 0 0, .slice none 0 0]) ?_ 2 _ rfl; refine blk_put (cs := #[.int .i64 t376, .int .u32 0, .bool false, .slice none 0 0, .slice none 0 0]) ?_ 1 _ rfl; refine blk_put (cs := #[.int .i64 0, .int .u32 0, .bool false, .slice none 0 0, .slice none 0 0]) ?_ 0 _ rfl; (with_reducible repeat (first | refine blk_drewN ?_ _ | refine blk_drew ?_ | refine blk_alloc ?_ _)); exact BK385.out) hb); clear HO_1; clear HO375; clear HO381; clear HO384; clear BK350; clear BK351; clear BK352; clear BK385; have HO_1 := n0_; have HO375 := n1_; have HO381 := n2_; have HO384 := n3_; have BK350 := n4_; have BK351 := n5_; have BK352 := n6_; have BK385 := n7_; replace HB := hS_ HB hb; clear n0_ n1_ n2_ n3_ n4_ n5_ n6_ n7_; (try clear hb); (try clear hb2); (try clear hk); (try clear hi); obtain ⟨hcz65_0, hcz65_1, hcz65_2, hcz65_3, hcz65_4, hcz65_5, hcz65_6, hfz65_0, hfz65_1, hfz65_2, hfz65_3, hfz65_4, hfz65_5, hfz65_6⟩ := cz7_ (w := w64) BK350; obtain ⟨hcz66_0, hcz66_1, hcz66_2, hfz66_0, hfz66_1, hfz66_2⟩ := cz3_ (w := w64) BK351) | ((with_reducible refine gate_callee (f := 32) rfl ?_); refine goesL_ (some 38) rfl rfl Tryd.func32 (by kernel_rfl) rfl #[.agg #[.int .u32 a0_0, .int .i64 a0_1, .slice A0_2 l0_2.length c0_2, .int .i64 a0_3, .int .i64 a0_4, .int .i64 a0_5, .int .i64 a0_6], .agg #[.int .i64 a2_0, .int .u32 a2_1, .slice A2_2 l2_2.length c2_2]] rfl am_ ?_; (with_reducible refine (ask_Check.calls kj4 a0_0 a0_1 _ _ l0_2 a0_3 a0_4 a0_5 a0_6 a2_0 a2_1 _ _ l2_2 t387 _ ?side1 ?side2 ?side3 ?side4 ?side5 A47.out).mono ?_); (case side1 => exact cC_ HR0_2 HB); (case side2 => exact HC0_2.out); (case side3 => exact cC_ HR2_2 HB); (case side4 => exact HC2_2.out); (case side5 => exact Lg_below HG.out (hB_ HB)); rintro e w67 ⟨rfl, hb⟩; refine ⟨_, rfl, ?_⟩; have n0_ := Aside0.mk (Kd.V_below (vV_ HO_1) hb); have n1_ := Aside0.mk (Kd.V_below (vV_ HO375) hb); have n2_ := Aside0.mk (Kd.R_below (rR_ HO381) hb); have n3_ := Aside0.mk (Kd.R_below (rR_ HO384) hb); have n5_ := bB_ BK351 hb; have n7_ := bB_ BK385 hb; clear HO_1; clear HO375; clear HO381; clear HO384; clear BK351; clear BK385; have HO_1 := n0_; have HO375 := n1_; have HO381 := n2_; have HO384 := n3_; have BK351 := n5_; have BK385 := n7_; replace BK350 := bB_ BK350 hb; replace BK352 := bB_ BK352 hb; replace HB := hS_ HB hb; clear n0_ n1_ n2_ n3_ n5_ n7_; (try clear hb); (try clear hb2); (try clear hk); (try clear hi)))
      (try simp only [Act.put, List.setIfInBounds_toArray, List.set_cons_zero, List.set_cons_succ])
      go_cut [40] (fun v40 wc => ∃ (kq : Nat) (x40_48 : Bool), v40 = .bool x40_48 ∧ Aside0 (spec_Legal.j1 kq l1 x40_48 a0_0 a0_1 l0_2 a0_3 a0_4 a0_5 a0_6 a2_0 a2_1 l2_2 a3_0 a3_1 a3_2 l3_3 l3_4 = some (r1, r2)) ∧ Aside0 (kq ≤ kj4) ∧ Aside0 (Kd.V (Kd.int .i64) 3 wc w.heap.size (fun k_ => (P1_ k_ ∨ w.heap.size ≤ k_) ∧ some k_ ≠ ((.slice Ao61 t379.length co61) : Value).ownBlock ∧ some k_ ≠ ((.slice Ao62 t382.length co62) : Value).ownBlock ∧ k_ ≠ gb350 ∧ k_ ≠ gb351 ∧ k_ ≠ gb352 ∧ k_ ≠ gb385) (.slice A1 l1.length c1) l1) ∧ Aside0 (Kd.R (Kd.int .u32) 22 wc w.heap.size (fun k_ => (w.heap.size ≤ k_)) (.slice Ao61 t379.length co61) t379) ∧ Aside0 (Kd.R (Kd.int .i64) 31 wc w.heap.size (fun k_ => (w.heap.size ≤ k_)) (.slice Ao62 t382.length co62) t382) ∧ Aside0 (wc.heap[gb350]? = some (.cells #[.int .u32 a0_0, .int .i64 a0_1, (.slice A0_2 l0_2.length c0_2), .int .i64 a0_3, .int .i64 a0_4, .int .i64 a0_5, .int .i64 a0_6] 27 (0, 0))) ∧ Aside0 (wc.heap[gb351]? = some (.cells #[.int .i64 a2_0, .int .u32 a2_1, (.slice A2_2 l2_2.length c2_2)] 30 (0, 0))) ∧ Aside0 (wc.heap[gb352]? = some (.cells #[.int .i64 a3_0, .int .u32 a3_1, .bool a3_2, (.slice A3_3 l3_3.length c3_3), (.slice A3_4 l3_4.length c3_4)] 34 (0, 0))) ∧ Aside0 (wc.heap[gb385]? = some (.cells #[.int .i64 t376, .int .u32 t377, .bool t378, (.slice Ao61 t379.length co61), (.slice Ao62 t382.length co62)] 34 (0, 0))) ∧ Aside0 (Below w.heap.size w wc))
      case first =>
       have H := HC49.out; clear HC49
       by_cases c68 : a2_0 = 6
       ·rw [if_pos c68] at H
        have c68b0 : (a2_0 == 6) = true := beq_iff_eq.mpr c68
        have c68b1 : (a2_0 != 6) = false := bne_eq_false_iff_eq.mpr c68
        clear c68
        (first | rw [c68b0] | (simp only [i64_w, i32_w]; rw [c68b0]) | skip)
        replace H := Option.bind_eq_some_iff.mp H; obtain ⟨⟨t388, t389, t390, t391, t394⟩, A690, H⟩ := H
        replace H : ((spec_Same.f kj4 a3_0 a3_1 a3_2 l3_3 l3_4 t388 t389 t390 t391 t394).bind fun t397 => (spec_Legal.j1 kj4 l1 t397 a0_0 a0_1 l0_2 a0_3 a0_4 a0_5 a0_6 a2_0 a2_1 l2_2 a3_0 a3_1 a3_2 l3_3 l3_4)) = some (r1, r2) := H
        have A69 := Aside0.mk A690; clear A690; replace H := Option.bind_eq_some_iff.mp H; obtain ⟨t397, A700, H⟩ := H
        replace H : (spec_Legal.j1 kj4 l1 t397 a0_0 a0_1 l0_2 a0_3 a0_4 a0_5 a0_6 a2_0 a2_1 l2_2 a3_0 a3_1 a3_2 l3_3 l3_4) = some (r1, r2) := H
        have A70 := Aside0.mk A700; clear A700
        have H' := Aside0.mk H
        clear H
        try go_wp2
        have n0_ := Aside0.mk (Kd.V_drew HO_1.out); have n1_ := Aside0.mk (Kd.V_drew HO375.out); have n2_ := Aside0.mk (Kd.R_drew HO381.out); have n3_ := Aside0.mk (Kd.R_drew HO384.out); have n4_ := Aside0.mk (blk_drew BK350.out); have n5_ := Aside0.mk (blk_drew BK351.out); have n6_ := Aside0.mk (blk_drew BK352.out); have n7_ := Aside0.mk (blk_drew BK385.out); have n8_ := Aside0.mk (below_drew1 HB.out); clear HO_1; clear HO375; clear HO381; clear HO384; clear BK350; clear BK351; clear BK352; clear BK385; clear HB; have HO_1 := n0_; have HO375 := n1_; have HO381 := n2_; have HO384 := n3_; have BK350 := n4_; have BK351 := n5_; have BK352 := n6_; have BK385 := n7_; have HB := n8_; clear n0_ n1_ n2_ n3_ n4_ n5_ n6_ n7_ n8_
        refine start_ (n := 9) (S := fun w' => w'.cell? ⟨gb351, 0, none⟩ = some (.int .i64 a2_0) ∧ w'.cell? ⟨gb351, 1, none⟩ = some (.int .u32 a2_1) ∧ w'.cell? ⟨gb351, 2, none⟩ = some (.slice A2_2 l2_2.length c2_2) ∧ w'.cell? ⟨gb352, 0, none⟩ = some (.int .i64 a3_0) ∧ w'.cell? ⟨gb352, 1, none⟩ = some (.int .u32 a3_1) ∧ w'.cell? ⟨gb352, 2, none⟩ = some (.bool a3_2) ∧ w'.cell? ⟨gb352, 3, none⟩ = some (.slice A3_3 l3_3.length c3_3) ∧ w'.cell? ⟨gb352, 4, none⟩ = some (.slice A3_4 l3_4.length c3_4)) (ds := []) (tf 9 0) (by kernel_rfl) rfl rfl ⟨(blk_cell BK351.out 0).trans rfl, (blk_cell BK351.out 1).trans rfl, (blk_cell BK351.out 2).trans rfl, (blk_cell BK352.out 0).trans rfl, (blk_cell BK352.out 1).trans rfl, (blk_cell BK352.out 2).trans rfl, (blk_cell BK352.out 3).trans rfl, (blk_cell BK352.out 4).trans rfl⟩ (fun hHeld => ?_); refine with_tabW spec_Legal.tab7 spec_Legal.bits7 (fun HT_ HW_ => ?_)
        generalize w67.drew = w71 at HO_1 HO375 HO381 HO384 BK350 BK351 BK352 BK385 HB hHeld ⊢
        refine pu_ (i := 0) (N := some 41) (tf 9 1) HT_ ?_; refine tk_ (i := 1) (N := some 42) (tf 9 3) rfl rfl HT_ HW_ hHeld (by rintro w' ⟨s0, s1, s2, s3, s4, s5, s6, s7⟩; go_simp; with_reducible rfl) ?_; refine pu_ (i := 2) (N := some 43) (tf 9 7) HT_ ?_; refine pu_ (i := 3) (N := some 44) (tf 9 15) HT_ ?_; refine tk_ (i := 4) (N := some 45) (tf 9 31) rfl rfl HT_ HW_ hHeld (by rintro w' ⟨s0, s1, s2, s3, s4, s5, s6, s7⟩; go_simp; with_reducible rfl) ?_
        refine one_ (i := 5) (N := some 46) (tf 9 63) rfl rfl (one_of HT_.out (by kernel_rfl)) (by decide) (fun K hK => ?_)
        refine goes_ Tryd.func31 (by kernel_rfl) rfl #[.int .i64 11] (by rfl) rfl rfl am_ ?_
        with_reducible refine (spec_fail.calls 11 t388 t389 t390 t391 t394 _ A69.out).mono ?_
        rintro e w72 ⟨v392, v395, rfl, ho0, ho1, hb⟩
        refine ⟨_, rfl, ?_⟩
        have n0_ := Aside0.mk (Kd.V_mono (Kd.V_told (Kd.V_told (Kd.V_old (vV_ HO_1) hb) (Kd.R_base ho0)) (Kd.R_base ho1)) (fun _ h_ => h_.1)); have n1_ := Aside0.mk (Kd.V_mono (Kd.V_told (Kd.V_told (Kd.V_old (vV_ HO375) hb) (Kd.R_base ho0)) (Kd.R_base ho1)) (fun _ h_ => h_.1)); have n2_ := Aside0.mk (Kd.R_elder' (rR_ HO381) (Kd.R_base ho0) hb); have n3_ := Aside0.mk (Kd.R_elder' (rR_ HO384) (Kd.R_base ho1) hb); have n4_ := Aside0.mk (Kd.R_lower (Kd.R_new' (Kd.R_newM (M := fun k_ => (w.heap.size ≤ k_)) ho0 (below_size (hB_ HB)) (fun k_ h_ => h_)) (Kd.R_lt (rR_ HO381))) (below_size (hB_ HB))); have n5_ := Aside0.mk (Kd.R_lower (Kd.R_new' (Kd.R_newM (M := fun k_ => (w.heap.size ≤ k_)) ho1 (below_size (hB_ HB)) (fun k_ h_ => h_)) (Kd.R_lt (rR_ HO384))) (below_size (hB_ HB))); have n6_ := bB_ BK350 hb; have n7_ := bB_ BK351 hb; have n8_ := bB_ BK352 hb; have n9_ := bB_ BK385 hb; have n10_ := Aside0.mk (below_step (hB_ HB) hb); clear HO_1; clear HO375; clear HO381; clear HO384; clear BK350; clear BK351; clear BK352; clear BK385; clear HB; have HO_1 := n0_; have HO375 := n1_; have HO381 := n2_; have HO384 := n3_; have HO393 := n4_; have HO396 := n5_; have BK350 := n6_; have BK351 := n7_; have BK352 := n8_; have BK385 := n9_; have HB := n10_; clear n0_ n1_ n2_ n3_ n4_ n5_ n6_ n7_ n8_ n9_ n10_
        (try clear hb)
        (try clear hb2)
        (try clear hk)
        (try clear hi)
        (try clear ho0)
        (try clear ho1)
        obtain ⟨Ao73, co73, eo73⟩ := Kd.R_slice HO393.out
        (first | subst eo73 | (injection eo73 with f1_ f2_ f3_; have f4_ := f1_.symm; have f5_ := f3_.symm; clear f1_ f2_ f3_; subst f4_; subst f5_))
        obtain ⟨Ao74, co74, eo74⟩ := Kd.R_slice HO396.out
        (first | subst eo74 | (injection eo74 with f1_ f2_ f3_; have f4_ := f1_.symm; have f5_ := f3_.symm; clear f1_ f2_ f3_; subst f4_; subst f5_))
        refine hK.out _ _ ⟨(blk_cell BK351.out 0).trans rfl, (blk_cell BK351.out 1).trans rfl, (blk_cell BK351.out 2).trans rfl, (blk_cell BK352.out 0).trans rfl, (blk_cell BK352.out 1).trans rfl, (blk_cell BK352.out 2).trans rfl, (blk_cell BK352.out 3).trans rfl, (blk_cell BK352.out 4).trans rfl⟩ (fun hHeld => ?_)
        clear hK K
        refine norm_ (a' := ?_) ?_ ?_
        rotate_left
        ·show Act.put _ (some 46) _ = _
         simp only [Act.put, List.setIfInBounds_toArray, List.set_cons_zero, List.set_cons_succ, i64_w, i32_w]
         rfl
        refine one_ (i := 6) (N := some 47) (tf 9 127) rfl rfl (one_of HT_.out (by kernel_rfl)) (by decide) (fun K hK => ?_)
        refine goes_ Tryd.func19 (by kernel_rfl) rfl #[.agg #[.int .i64 a3_0, .int .u32 a3_1, .bool a3_2, .slice A3_3 l3_3.length c3_3, .slice A3_4 l3_4.length c3_4], .agg #[.int .i64 t388, .int .u32 t389, .bool t390, .slice Ao73 t391.length co73, .slice Ao74 t394.length co74]] (by rfl) rfl rfl am_ ?_
        with_reducible refine (spec_Same.calls kj4 a3_0 a3_1 a3_2 _ _ l3_3 _ _ l3_4 t388 t389 t390 _ _ t391 _ _ t394 t397 _ ?side1 ?side2 ?side3 ?side4 ?side5 ?side6 ?side7 ?side8 A70.out).mono ?_
        (case side1 => exact cC_ HR3_3 HB)
        (case side2 => exact HC3_3.out)
        (case side3 => exact cC_ HR3_4 HB)
        (case side4 => exact HC3_4.out)
        (case side5 => repeat (first | exact (Kd.R_reads' HO393.out).2.2 | (with_reducible refine Kd.C_alloc ?_ _) | (with_reducible refine Kd.C_drewN ?_ _) | (with_reducible refine Kd.C_drew ?_)))
        (case side6 => exact (Kd.R_reads' HO393.out).2.1)
        (case side7 => repeat (first | exact (Kd.R_reads' HO396.out).2.2 | (with_reducible refine Kd.C_alloc ?_ _) | (with_reducible refine Kd.C_drewN ?_ _) | (with_reducible refine Kd.C_drew ?_)))
        (case side8 => exact (Kd.R_reads' HO396.out).2.1)
        rintro e w75 ⟨rfl, hb⟩
        refine ⟨_, rfl, ?_⟩
        have n0_ := Aside0.mk (Kd.V_below (vV_ HO_1) hb); have n1_ := Aside0.mk (Kd.V_below (vV_ HO375) hb); have n2_ := Aside0.mk (Kd.R_below (rR_ HO381) hb); have n3_ := Aside0.mk (Kd.R_below (rR_ HO384) hb); have n4_ := Aside0.mk (Kd.R_below (rR_ HO393) hb); have n5_ := Aside0.mk (Kd.R_below (rR_ HO396) hb); have n6_ := bB_ BK350 hb; have n7_ := bB_ BK351 hb; have n8_ := bB_ BK352 hb; have n9_ := bB_ BK385 hb; have n10_ := Aside0.mk (below_step (hB_ HB) hb); clear HO_1; clear HO375; clear HO381; clear HO384; clear HO393; clear HO396; clear BK350; clear BK351; clear BK352; clear BK385; clear HB; have HO_1 := n0_; have HO375 := n1_; have HO381 := n2_; have HO384 := n3_; have HO393 := n4_; have HO396 := n5_; have BK350 := n6_; have BK351 := n7_; have BK352 := n8_; have BK385 := n9_; have HB := n10_; clear n0_ n1_ n2_ n3_ n4_ n5_ n6_ n7_ n8_ n9_ n10_
        (try clear hb)
        (try clear hb2)
        (try clear hk)
        (try clear hi)
        refine hK.out _ _ ⟨(blk_cell BK351.out 0).trans rfl, (blk_cell BK351.out 1).trans rfl, (blk_cell BK351.out 2).trans rfl, (blk_cell BK352.out 0).trans rfl, (blk_cell BK352.out 1).trans rfl, (blk_cell BK352.out 2).trans rfl, (blk_cell BK352.out 3).trans rfl, (blk_cell BK352.out 4).trans rfl⟩ (fun hHeld => ?_)
        clear hK K
        refine norm_ (a' := ?_) ?_ ?_
        rotate_left
        ·show Act.put _ (some 47) _ = _
         simp only [Act.put, List.setIfInBounds_toArray, List.set_cons_zero, List.set_cons_succ, i64_w, i32_w]
         rfl
        refine pu_ (i := 7) (N := some 48) (tf 9 255) HT_ ?_; refine pu_ (i := 8) (N := some 40) (tf 9 511) HT_ ?_
        refine done_ (done_of HT_.out (by kernel_rfl)) ?_
        try go_wp2
        go_meet
        case rel => exact ⟨_, (t397), rs_, H', ⟨by have := HJ4.out; first | omega | exact Nat.le_refl _⟩, ⟨by (with_reducible repeat (first | apply Kd.V_alloc | apply Kd.V_drewN | apply Kd.V_drew)); exact Kd.V_mono HO_1.out (fun _ hk => ⟨hk.1.1.1.1.1.1, ⟨hk.1.1.1.1.2, ⟨hk.1.1.1.2, ⟨hk.1.1.1.1.1.2.1, ⟨hk.1.1.1.1.1.2.2.1, ⟨hk.1.1.1.1.1.2.2.2, hk.1.1.2⟩⟩⟩⟩⟩⟩)⟩, ⟨by (with_reducible repeat (first | apply Kd.R_alloc | apply Kd.R_drewN | apply Kd.R_drew)); exact Kd.R_mono HO381.out (fun _ hk => hk.1.1)⟩, ⟨by (with_reducible repeat (first | apply Kd.R_alloc | apply Kd.R_drewN | apply Kd.R_drew)); exact Kd.R_mono HO384.out (fun _ hk => hk.1.1)⟩, ⟨bk_ BK350⟩, ⟨bk_ BK351⟩, ⟨bk_ BK352⟩, ⟨bk_ BK385⟩, ⟨hB_ HB⟩⟩
       ·rw [if_neg c68] at H
        have c68b0 : (a2_0 == 6) = false := beq_eq_false_iff_ne.mpr c68
        have c68b1 : (a2_0 != 6) = true := bne_iff_ne.mpr c68
        (first | rw [c68b0] | (simp only [i64_w, i32_w]; rw [c68b0]) | skip)
        have H' := Aside0.mk H
        clear H
        try go_wp2
        have n0_ := Aside0.mk (Kd.V_drew HO_1.out); have n1_ := Aside0.mk (Kd.V_drew HO375.out); have n2_ := Aside0.mk (Kd.R_drew HO381.out); have n3_ := Aside0.mk (Kd.R_drew HO384.out); have n4_ := Aside0.mk (blk_drew BK350.out); have n5_ := Aside0.mk (blk_drew BK351.out); have n6_ := Aside0.mk (blk_drew BK352.out); have n7_ := Aside0.mk (blk_drew BK385.out); have n8_ := Aside0.mk (below_drew1 HB.out); clear HO_1; clear HO375; clear HO381; clear HO384; clear BK350; clear BK351; clear BK352; clear BK385; clear HB; have HO_1 := n0_; have HO375 := n1_; have HO381 := n2_; have HO384 := n3_; have BK350 := n4_; have BK351 := n5_; have BK352 := n6_; have BK385 := n7_; have HB := n8_; clear n0_ n1_ n2_ n3_ n4_ n5_ n6_ n7_ n8_
        refine start_ (n := 9) (S := fun w' => w'.cell? ⟨gb351, 0, none⟩ = some (.int .i64 a2_0) ∧ w'.cell? ⟨gb351, 1, none⟩ = some (.int .u32 a2_1) ∧ w'.cell? ⟨gb351, 2, none⟩ = some (.slice A2_2 l2_2.length c2_2)) (ds := []) (tf 9 0) (by kernel_rfl) rfl rfl ⟨(blk_cell BK351.out 0).trans rfl, (blk_cell BK351.out 1).trans rfl, (blk_cell BK351.out 2).trans rfl⟩ (fun hHeld => ?_); refine with_tabW spec_Legal.tab7 spec_Legal.bits7 (fun HT_ HW_ => ?_)
        generalize w67.drew = w76 at HO_1 HO375 HO381 HO384 BK350 BK351 BK352 BK385 HB hHeld ⊢
        refine pu_ (i := 0) (N := some 41) (tf 9 1) HT_ ?_; refine tk_ (i := 1) (N := some 42) (tf 9 3) rfl rfl HT_ HW_ hHeld (by rintro w' ⟨s0, s1, s2⟩; go_simp; with_reducible rfl) ?_; refine pu_ (i := 2) (N := some 43) (tf 9 7) HT_ ?_; refine pu_ (i := 3) (N := some 44) (tf 9 15) HT_ ?_; refine pn_ (i := 4) (N := some 45) (tf 9 31) HT_ ?_; refine pn_ (i := 5) (N := some 46) (tf 9 63) HT_ ?_; refine pn_ (i := 6) (N := some 47) (tf 9 127) HT_ ?_; refine pu_ (i := 7) (N := some 48) (tf 9 255) HT_ ?_; refine pu_ (i := 8) (N := some 40) (tf 9 511) HT_ ?_
        refine done_ (done_of HT_.out (by kernel_rfl)) ?_
        try go_wp2
        go_meet
        case rel => exact ⟨_, (false), rs_, H', ⟨by have := HJ4.out; first | omega | exact Nat.le_refl _⟩, ⟨by (with_reducible repeat (first | apply Kd.V_alloc | apply Kd.V_drewN | apply Kd.V_drew)); exact Kd.V_mono HO_1.out (fun _ hk => ⟨hk.1.1.1.1, ⟨hk.1.1.2, ⟨hk.1.2, ⟨hk.1.1.1.2.1, ⟨hk.1.1.1.2.2.1, ⟨hk.1.1.1.2.2.2, hk.2⟩⟩⟩⟩⟩⟩)⟩, ⟨by (with_reducible repeat (first | apply Kd.R_alloc | apply Kd.R_drewN | apply Kd.R_drew)); exact Kd.R_mono HO381.out (fun _ hk => hk.1)⟩, ⟨by (with_reducible repeat (first | apply Kd.R_alloc | apply Kd.R_drewN | apply Kd.R_drew)); exact Kd.R_mono HO384.out (fun _ hk => hk.1)⟩, ⟨bk_ BK350⟩, ⟨bk_ BK351⟩, ⟨bk_ BK352⟩, ⟨bk_ BK385⟩, ⟨hB_ HB⟩⟩
      case rest =>
       clear HC49
       try clear c1
       try clear c2
       try clear p2
       try clear c3
       try clear c4
       try clear c5
       try clear c6
       try clear c11
       try clear c13
       try clear c15
       try clear c19
       try clear c28
       try clear c31
       try clear c32
       try clear c33
       try clear c35
       try clear c39
       try clear c40
       try clear c41
       try clear c48
       try clear c48b0
       try clear c48b1
       try clear c50
       try clear c51
       try clear c53
       try clear c57
       try clear c58
       try clear c59
       try clear c68
       try clear c68b0
       try clear c68b1
       try clear hcz34_0 hcz34_1 hcz34_2 hcz34_3 hcz34_4 hcz34_5 hcz34_6
       try clear hcz36_0 hcz36_1 hcz36_2
       try clear hcz42_0 hcz42_1 hcz42_2 hcz42_3 hcz42_4
       try clear hcz45_0 hcz45_1 hcz45_2 hcz45_3 hcz45_4
       try clear hcz52_0 hcz52_1 hcz52_2 hcz52_3 hcz52_4 hcz52_5 hcz52_6
       try clear hcz54_0 hcz54_1 hcz54_2
       try clear hcz60_0 hcz60_1 hcz60_2 hcz60_3 hcz60_4
       try clear hcz63_0 hcz63_1 hcz63_2 hcz63_3 hcz63_4
       try clear hcz65_0 hcz65_1 hcz65_2 hcz65_3 hcz65_4 hcz65_5 hcz65_6
       try clear hcz66_0 hcz66_1 hcz66_2
       try clear hfz34_0 hfz34_1 hfz34_2 hfz34_3 hfz34_4 hfz34_5 hfz34_6
       try clear hfz36_0 hfz36_1 hfz36_2
       try clear hfz42_0 hfz42_1 hfz42_2 hfz42_3 hfz42_4
       try clear hfz45_0 hfz45_1 hfz45_2 hfz45_3 hfz45_4
       try clear hfz52_0 hfz52_1 hfz52_2 hfz52_3 hfz52_4 hfz52_5 hfz52_6
       try clear hfz54_0 hfz54_1 hfz54_2
       try clear hfz60_0 hfz60_1 hfz60_2 hfz60_3 hfz60_4
       try clear hfz63_0 hfz63_1 hfz63_2 hfz63_3 hfz63_4
       try clear hfz65_0 hfz65_1 hfz65_2 hfz65_3 hfz65_4 hfz65_5 hfz65_6
       try clear hfz66_0 hfz66_1 hfz66_2
       try clear p2
       obtain ⟨kq, x40_48, rfl, HA, HJ48, HO_1, HO_386003, HO_386004, BK350, BK351, BK352, BK385, HB⟩ := hcut
       cases kq with
       | zero => exact absurd HA.out (by simp [spec_Legal.j1])
       | succ kj48 =>
        have H := HA.out; clear HA; simp only [spec_Legal.j1] at H
        by_cases c77 : x40_48 = true
        ·subst c77
         have H1 : (some (l1, true)) = some (r1, r2) := by rw [if_pos rfl] at H; exact H
         clear H; have H := H1; clear H1; simp only [Option.some.injEq, Prod.mk.injEq] at H; obtain ⟨rfl, rfl⟩ := H
         go_wp2
         go_ret2
         exact ⟨_, er_, by (with_reducible repeat (first | apply Kd.V_alloc | apply Kd.V_drewN | apply Kd.V_drew)); exact Kd.V_mono HO_1.out (fun _ hk => hk.1), hB_ HB⟩
        ·replace c77 := Bool.eq_false_iff.mpr c77
         subst c77
         have H1 : (if a2_0 = 1 then ((spec_Same.f kj48 a3_0 a3_1 a3_2 l3_3 l3_4 0 a3_1 false ([] : List Int) ([] : List Int)).bind fun t398 => (spec_Legal.j2 kj48 l1 t398 a0_0 a0_1 l0_2 a0_3 a0_4 a0_5 a0_6 a3_0 a3_1 a3_2 l3_3 l3_4)) else (spec_Legal.j2 kj48 l1 false a0_0 a0_1 l0_2 a0_3 a0_4 a0_5 a0_6 a3_0 a3_1 a3_2 l3_3 l3_4)) = some (r1, r2) := by rw [if_neg (show ¬ (false = true) by decide)] at H; exact H
         clear H; have H := H1; clear H1; have HC78 := Aside0.mk H; clear H
         go_upto_region 9 with (fail)
         go_cut [50] (fun v50 wc => ∃ (kq : Nat) (x50_77 : Bool), v50 = .bool x50_77 ∧ Aside0 (spec_Legal.j2 kq l1 x50_77 a0_0 a0_1 l0_2 a0_3 a0_4 a0_5 a0_6 a3_0 a3_1 a3_2 l3_3 l3_4 = some (r1, r2)) ∧ Aside0 (kq ≤ kj48) ∧ Aside0 (Kd.V (Kd.int .i64) 3 wc w.heap.size (fun k_ => (P1_ k_ ∨ w.heap.size ≤ k_) ∧ some k_ ≠ ((.slice Ao61 t379.length co61) : Value).ownBlock ∧ some k_ ≠ ((.slice Ao62 t382.length co62) : Value).ownBlock ∧ k_ ≠ gb350 ∧ k_ ≠ gb351 ∧ k_ ≠ gb352 ∧ k_ ≠ gb385) (.slice A1 l1.length c1) l1) ∧ Aside0 (Kd.R (Kd.int .u32) 22 wc w.heap.size (fun k_ => (w.heap.size ≤ k_)) (.slice Ao61 t379.length co61) t379) ∧ Aside0 (Kd.R (Kd.int .i64) 31 wc w.heap.size (fun k_ => (w.heap.size ≤ k_)) (.slice Ao62 t382.length co62) t382) ∧ Aside0 (wc.heap[gb350]? = some (.cells #[.int .u32 a0_0, .int .i64 a0_1, (.slice A0_2 l0_2.length c0_2), .int .i64 a0_3, .int .i64 a0_4, .int .i64 a0_5, .int .i64 a0_6] 27 (0, 0))) ∧ Aside0 (wc.heap[gb351]? = some (.cells #[.int .i64 a2_0, .int .u32 a2_1, (.slice A2_2 l2_2.length c2_2)] 30 (0, 0))) ∧ Aside0 (wc.heap[gb352]? = some (.cells #[.int .i64 a3_0, .int .u32 a3_1, .bool a3_2, (.slice A3_3 l3_3.length c3_3), (.slice A3_4 l3_4.length c3_4)] 34 (0, 0))) ∧ Aside0 (wc.heap[gb385]? = some (.cells #[.int .i64 t376, .int .u32 t377, .bool t378, (.slice Ao61 t379.length co61), (.slice Ao62 t382.length co62)] 34 (0, 0))) ∧ Aside0 (Below w.heap.size w wc))
         case first =>
          have H := HC78.out; clear HC78
          by_cases c79 : a2_0 = 1
          ·rw [if_pos c79] at H
           have c79b0 : (a2_0 == 1) = true := beq_iff_eq.mpr c79
           have c79b1 : (a2_0 != 1) = false := bne_eq_false_iff_eq.mpr c79
           clear c79
           (first | rw [c79b0] | (simp only [i64_w, i32_w]; rw [c79b0]) | skip)
           replace H := Option.bind_eq_some_iff.mp H; obtain ⟨t398, A800, H⟩ := H
           replace H : (spec_Legal.j2 kj48 l1 t398 a0_0 a0_1 l0_2 a0_3 a0_4 a0_5 a0_6 a3_0 a3_1 a3_2 l3_3 l3_4) = some (r1, r2) := H
           have A80 := Aside0.mk A800; clear A800
           have H' := Aside0.mk H
           clear H; have hnb81 := NB351_350.out; have hnc81 := NB350_351.out; have hnb82 := NB351_352.out; have hnc82 := NB352_351.out; have hnb83 := NB351_385.out; have hnc83 := NB385_351.out; obtain ⟨hcz84_0, hcz84_1, hcz84_2, hfz84_0, hfz84_1, hfz84_2⟩ := cz3_ (w := wc) BK351; have hnb85 := NB352_350.out; have hnc85 := NB350_352.out; have hnb86 := NB352_385.out; have hnc86 := NB385_352.out; obtain ⟨hcz87_0, hcz87_1, hcz87_2, hcz87_3, hcz87_4, hfz87_0, hfz87_1, hfz87_2, hfz87_3, hfz87_4⟩ := cz5_ (w := wc) BK352
           go_wp2_with (first | (go_at_call 19; (refine (spec_Same.calls kj48 a3_0 a3_1 a3_2 _ _ l3_3 _ _ l3_4 0 a3_1 false _ _ ([] : List Int) _ _ ([] : List Int) t398 _ ?side1 ?side2 ?side3 ?side4 ?side5 ?side6 ?side7 ?side8 A80.out).mono ?_); (case side1 => exact cC_ HR3_3 HB); (case side2 => exact HC3_3.out); (case side3 => exact cC_ HR3_4 HB); (case side4 => exact HC3_4.out); (case side5 => exact Kd.C_nil _ _); (case side6 => exact Nat.le_refl _); (case side7 => exact Kd.C_nil _ _); (case side8 => exact Nat.le_refl _); rintro e w88 ⟨rfl, hb⟩; (try clear A80); have n0_ := Aside0.mk (Kd.V_below (vV_ HO_1) hb); have n1_ := Aside0.mk (Kd.R_below (rR_ HO_386003) hb); have n2_ := Aside0.mk (Kd.R_below (rR_ HO_386004) hb); have n4_ := bB_ BK351 hb; have n6_ := bB_ BK385 hb; clear HO_1; clear HO_386003; clear HO_386004; clear BK351; clear BK385; have HO_1 := n0_; have HO_386003 := n1_; have HO_386004 := n2_; have BK351 := n4_; have BK385 := n6_; replace BK350 := bB_ BK350 hb; replace BK352 := bB_ BK352 hb; replace HB := hS_ HB hb; clear n0_ n1_ n2_ n4_ n6_; (try clear hb); (try clear hb2); (try clear hk); (try clear hi)))
           go_meet
           case rel => exact ⟨_, (t398), rs_, H', ⟨by have := HJ4.out; have := HJ48.out; first | omega | exact Nat.le_refl _⟩, ⟨by (with_reducible repeat (first | apply Kd.V_alloc | apply Kd.V_drewN | apply Kd.V_drew)); exact HO_1.out⟩, ⟨by (with_reducible repeat (first | apply Kd.R_alloc | apply Kd.R_drewN | apply Kd.R_drew)); exact HO_386003.out⟩, ⟨by (with_reducible repeat (first | apply Kd.R_alloc | apply Kd.R_drewN | apply Kd.R_drew)); exact HO_386004.out⟩, ⟨bk_ BK350⟩, ⟨bk_ BK351⟩, ⟨bk_ BK352⟩, ⟨bk_ BK385⟩, ⟨hB_ HB⟩⟩
          ·rw [if_neg c79] at H
           have c79b0 : (a2_0 == 1) = false := beq_eq_false_iff_ne.mpr c79
           have c79b1 : (a2_0 != 1) = true := bne_iff_ne.mpr c79
           (first | rw [c79b0] | (simp only [i64_w, i32_w]; rw [c79b0]) | skip)
           have H' := Aside0.mk H
           clear H; have hnb89 := NB351_350.out; have hnc89 := NB350_351.out; have hnb90 := NB351_352.out; have hnc90 := NB352_351.out; have hnb91 := NB351_385.out; have hnc91 := NB385_351.out; obtain ⟨hcz92_0, hcz92_1, hcz92_2, hfz92_0, hfz92_1, hfz92_2⟩ := cz3_ (w := wc) BK351
           go_wp2
           go_meet
           case rel => exact ⟨_, (false), rs_, H', ⟨by have := HJ4.out; have := HJ48.out; first | omega | exact Nat.le_refl _⟩, ⟨by (with_reducible repeat (first | apply Kd.V_alloc | apply Kd.V_drewN | apply Kd.V_drew)); exact HO_1.out⟩, ⟨by (with_reducible repeat (first | apply Kd.R_alloc | apply Kd.R_drewN | apply Kd.R_drew)); exact HO_386003.out⟩, ⟨by (with_reducible repeat (first | apply Kd.R_alloc | apply Kd.R_drewN | apply Kd.R_drew)); exact HO_386004.out⟩, ⟨bk_ BK350⟩, ⟨bk_ BK351⟩, ⟨bk_ BK352⟩, ⟨bk_ BK385⟩, ⟨hB_ HB⟩⟩
         case rest =>
          clear HC78
          try clear c1
          try clear c2
          try clear p2
          try clear c3
          try clear c4
          try clear c5
          try clear c6
          try clear c7
          try clear c8
          try clear c9
          try clear c11
          try clear c13
          try clear c15
          try clear c19
          try clear c28
          try clear c31
          try clear c32
          try clear c33
          try clear c35
          try clear c39
          try clear c40
          try clear c41
          try clear c48
          try clear c48b0
          try clear c48b1
          try clear c50
          try clear c51
          try clear c53
          try clear c57
          try clear c58
          try clear c59
          try clear c68
          try clear c68b0
          try clear c68b1
          try clear c77
          try clear c79
          try clear c79b0
          try clear c79b1
          try clear c81
          try clear c82
          try clear c83
          try clear c85
          try clear c86
          try clear c89
          try clear c90
          try clear c91
          try clear hcz34_0 hcz34_1 hcz34_2 hcz34_3 hcz34_4 hcz34_5 hcz34_6
          try clear hcz36_0 hcz36_1 hcz36_2
          try clear hcz42_0 hcz42_1 hcz42_2 hcz42_3 hcz42_4
          try clear hcz45_0 hcz45_1 hcz45_2 hcz45_3 hcz45_4
          try clear hcz52_0 hcz52_1 hcz52_2 hcz52_3 hcz52_4 hcz52_5 hcz52_6
          try clear hcz54_0 hcz54_1 hcz54_2
          try clear hcz60_0 hcz60_1 hcz60_2 hcz60_3 hcz60_4
          try clear hcz63_0 hcz63_1 hcz63_2 hcz63_3 hcz63_4
          try clear hcz65_0 hcz65_1 hcz65_2 hcz65_3 hcz65_4 hcz65_5 hcz65_6
          try clear hcz66_0 hcz66_1 hcz66_2
          try clear hcz84_0 hcz84_1 hcz84_2
          try clear hcz87_0 hcz87_1 hcz87_2 hcz87_3 hcz87_4
          try clear hcz92_0 hcz92_1 hcz92_2
          try clear hfz34_0 hfz34_1 hfz34_2 hfz34_3 hfz34_4 hfz34_5 hfz34_6
          try clear hfz36_0 hfz36_1 hfz36_2
          try clear hfz42_0 hfz42_1 hfz42_2 hfz42_3 hfz42_4
          try clear hfz45_0 hfz45_1 hfz45_2 hfz45_3 hfz45_4
          try clear hfz52_0 hfz52_1 hfz52_2 hfz52_3 hfz52_4 hfz52_5 hfz52_6
          try clear hfz54_0 hfz54_1 hfz54_2
          try clear hfz60_0 hfz60_1 hfz60_2 hfz60_3 hfz60_4
          try clear hfz63_0 hfz63_1 hfz63_2 hfz63_3 hfz63_4
          try clear hfz65_0 hfz65_1 hfz65_2 hfz65_3 hfz65_4 hfz65_5 hfz65_6
          try clear hfz66_0 hfz66_1 hfz66_2
          try clear hfz84_0 hfz84_1 hfz84_2
          try clear hfz87_0 hfz87_1 hfz87_2 hfz87_3 hfz87_4
          try clear hfz92_0 hfz92_1 hfz92_2
          try clear p2
          obtain ⟨kq, x50_77, rfl, HA, HJ77, HO_1, HO_386003, HO_386004, BK350, BK351, BK352, BK385, HB⟩ := hcut
          cases kq with
          | zero => exact absurd HA.out (by simp [spec_Legal.j2])
          | succ kj77 =>
           have H := HA.out; clear HA; simp only [spec_Legal.j2] at H
           by_cases c93 : x50_77 = true
           ·subst c93
            have H1 : ((block_Find.f kj77 a0_0 a0_1 l0_2 a0_3 a0_4 a0_5 a0_6 a3_1).bind fun bt399 => (if bt399.2 = 0 then ((model_Has.f kj77 l1 bt399.1).bind fun t401 => (if t401 = true then (some (l1, false)) else ((model_With.f kj77 l1 bt399.1).bind fun t402 => (some (t402, true))))) else (some (l1, false)))) = some (r1, r2) := by rw [if_pos rfl] at H; exact H
            clear H; have H := H1; clear H1; replace H := Option.bind_eq_some_iff.mp H; obtain ⟨⟨t399, t400⟩, A940, H⟩ := H
            replace H : (if t400 = 0 then ((model_Has.f kj77 l1 t399).bind fun t401 => (if t401 = true then (some (l1, false)) else ((model_With.f kj77 l1 t399).bind fun t402 => (some (t402, true))))) else (some (l1, false))) = some (r1, r2) := H
            have A94 := Aside0.mk A940; clear A940
            by_cases c95 : t400 = 0
            ·rw [if_pos c95] at H
             have c95b0 : (t400 == 0) = true := beq_iff_eq.mpr c95
             have c95b1 : (t400 != 0) = false := bne_eq_false_iff_eq.mpr c95
             clear c95; replace H := Option.bind_eq_some_iff.mp H; obtain ⟨t401, A960, H⟩ := H
             replace H : (if t401 = true then (some (l1, false)) else ((model_With.f kj77 l1 t399).bind fun t402 => (some (t402, true)))) = some (r1, r2) := H
             have A96 := Aside0.mk A960; clear A960
             by_cases c97 : t401 = true
             ·subst c97
              have H1 : (some (l1, false)) = some (r1, r2) := by rw [if_pos rfl] at H; exact H
              clear H; have H := H1; clear H1; simp only [Option.some.injEq, Prod.mk.injEq] at H; obtain ⟨rfl, rfl⟩ := H; have hnb98 := NB350_351.out; have hnc98 := NB351_350.out; have hnb99 := NB350_352.out; have hnc99 := NB352_350.out; have hnb100 := NB350_385.out; have hnc100 := NB385_350.out; obtain ⟨hcz101_0, hcz101_1, hcz101_2, hcz101_3, hcz101_4, hcz101_5, hcz101_6, hfz101_0, hfz101_1, hfz101_2, hfz101_3, hfz101_4, hfz101_5, hfz101_6⟩ := cz7_ (w := wc) BK350; have hnb102 := NB352_351.out; have hnc102 := NB351_352.out; have hnb103 := NB352_385.out; have hnc103 := NB385_352.out; obtain ⟨hcz104_0, hcz104_1, hcz104_2, hcz104_3, hcz104_4, hfz104_0, hfz104_1, hfz104_2, hfz104_3, hfz104_4⟩ := cz5_ (w := wc) BK352
              go_wp2_with (first | ((with_reducible refine gate_callee (f := 33) rfl ?_); refine goesL_ (some 65) rfl rfl Tryd.func33 (by kernel_rfl) rfl #[.agg #[.int .u32 a0_0, .int .i64 a0_1, .slice A0_2 l0_2.length c0_2, .int .i64 a0_3, .int .i64 a0_4, .int .i64 a0_5, .int .i64 a0_6], .int .u32 a3_1] rfl am_ ?_; (with_reducible refine (block_Find.calls kj77 a0_0 a0_1 _ _ l0_2 a0_3 a0_4 a0_5 a0_6 a3_1 t399 t400 _ ?side1 ?side2 A94.out).mono ?_); (case side1 => exact cC_ HR0_2 HB); (case side2 => exact HC0_2.out); rintro e w105 ⟨rfl, hb⟩; refine ⟨_, rfl, ?_⟩; have n0_ := Aside0.mk (Kd.V_below (vV_ HO_1) hb); have n1_ := Aside0.mk (Kd.R_below (rR_ HO_386003) hb); have n2_ := Aside0.mk (Kd.R_below (rR_ HO_386004) hb); have n4_ := bB_ BK351 hb; have n6_ := bB_ BK385 hb; clear HO_1; clear HO_386003; clear HO_386004; clear BK351; clear BK385; have HO_1 := n0_; have HO_386003 := n1_; have HO_386004 := n2_; have BK351 := n4_; have BK385 := n6_; replace BK350 := bB_ BK350 hb; replace BK352 := bB_ BK352 hb; replace HB := hS_ HB hb; clear n0_ n1_ n2_ n4_ n6_; (try clear hb); (try clear hb2); (try clear hk); (try clear hi)) | (go_at_call 34; (with_reducible refine (model_Has.calls kj77 _ _ l1 t399 true _ ?side1 ?side2 A96.out).mono ?_); (case side1 => repeat (first | exact (Kd.V_reads' HO_1.out).2.2 | (with_reducible refine Kd.C_alloc ?_ _) | (with_reducible refine Kd.C_drewN ?_ _) | (with_reducible refine Kd.C_drew ?_))); (case side2 => exact (Kd.V_reads' HO_1.out).2.1); rintro e w' ⟨rfl, ⟨nd, rfl⟩⟩))
              go_ret2
              exact ⟨_, er_, by (with_reducible repeat (first | apply Kd.V_alloc | apply Kd.V_drewN | apply Kd.V_drew)); exact Kd.V_mono HO_1.out (fun _ hk => hk.1), hB_ HB⟩
             ·replace c97 := Bool.eq_false_iff.mpr c97
              subst c97
              have H1 : ((model_With.f kj77 l1 t399).bind fun t402 => (some (t402, true))) = some (r1, r2) := by rw [if_neg (show ¬ (false = true) by decide)] at H; exact H
              clear H; have H := H1; clear H1; replace H := Option.bind_eq_some_iff.mp H; obtain ⟨t402, A1060, H⟩ := H
              replace H : (some (t402, true)) = some (r1, r2) := H
              have A106 := Aside0.mk A1060; clear A1060; simp only [Option.some.injEq, Prod.mk.injEq] at H; obtain ⟨rfl, rfl⟩ := H; have hnb107 := NB350_351.out; have hnc107 := NB351_350.out; have hnb108 := NB350_352.out; have hnc108 := NB352_350.out; have hnb109 := NB350_385.out; have hnc109 := NB385_350.out; obtain ⟨hcz110_0, hcz110_1, hcz110_2, hcz110_3, hcz110_4, hcz110_5, hcz110_6, hfz110_0, hfz110_1, hfz110_2, hfz110_3, hfz110_4, hfz110_5, hfz110_6⟩ := cz7_ (w := wc) BK350; have hnb111 := NB352_351.out; have hnc111 := NB351_352.out; have hnb112 := NB352_385.out; have hnc112 := NB385_352.out; obtain ⟨hcz113_0, hcz113_1, hcz113_2, hcz113_3, hcz113_4, hfz113_0, hfz113_1, hfz113_2, hfz113_3, hfz113_4⟩ := cz5_ (w := wc) BK352
              go_wp2_with (first | ((with_reducible refine gate_callee (f := 33) rfl ?_); refine goesL_ (some 65) rfl rfl Tryd.func33 (by kernel_rfl) rfl #[.agg #[.int .u32 a0_0, .int .i64 a0_1, .slice A0_2 l0_2.length c0_2, .int .i64 a0_3, .int .i64 a0_4, .int .i64 a0_5, .int .i64 a0_6], .int .u32 a3_1] rfl am_ ?_; (with_reducible refine (block_Find.calls kj77 a0_0 a0_1 _ _ l0_2 a0_3 a0_4 a0_5 a0_6 a3_1 t399 t400 _ ?side1 ?side2 A94.out).mono ?_); (case side1 => exact cC_ HR0_2 HB); (case side2 => exact HC0_2.out); rintro e w114 ⟨rfl, hb⟩; refine ⟨_, rfl, ?_⟩; have n0_ := Aside0.mk (Kd.V_below (vV_ HO_1) hb); have n1_ := Aside0.mk (Kd.R_below (rR_ HO_386003) hb); have n2_ := Aside0.mk (Kd.R_below (rR_ HO_386004) hb); have n4_ := bB_ BK351 hb; have n6_ := bB_ BK385 hb; clear HO_1; clear HO_386003; clear HO_386004; clear BK351; clear BK385; have HO_1 := n0_; have HO_386003 := n1_; have HO_386004 := n2_; have BK351 := n4_; have BK385 := n6_; replace BK350 := bB_ BK350 hb; replace BK352 := bB_ BK352 hb; replace HB := hS_ HB hb; clear n0_ n1_ n2_ n4_ n6_; (try clear hb); (try clear hb2); (try clear hk); (try clear hi)) | (go_at_call 34; (with_reducible refine (model_Has.calls kj77 _ _ l1 t399 false _ ?side1 ?side2 A96.out).mono ?_); (case side1 => repeat (first | exact (Kd.V_reads' HO_1.out).2.2 | (with_reducible refine Kd.C_alloc ?_ _) | (with_reducible refine Kd.C_drewN ?_ _) | (with_reducible refine Kd.C_drew ?_))); (case side2 => exact (Kd.V_reads' HO_1.out).2.1); rintro e w' ⟨rfl, ⟨nd, rfl⟩⟩) | ((with_reducible refine gate_callee (f := 35) rfl ?_); refine goesL_ (some 78) rfl rfl Tryd.func35 (by kernel_rfl) rfl #[.slice A1 l1.length c1, .int .i64 t399] rfl am_ ?_; (with_reducible refine (model_With.calls kj77 (fun k_ => ((P1_ k_ ∨ w.heap.size ≤ k_) ∧ (some k_ ≠ (.slice Ao61 t379.length co61 : Value).ownBlock ∧ (some k_ ≠ (.slice Ao62 t382.length co62 : Value).ownBlock ∧ (k_ ≠ gb350 ∧ (k_ ≠ gb351 ∧ (k_ ≠ gb352 ∧ k_ ≠ gb385))))))) _ _ l1 t399 t402 _ ?side1 A106.out).mono ?_); (case side1 => exact HO_1.out); rintro e w115 ⟨v403, rfl, ho0, hb⟩; refine ⟨_, rfl, ?_⟩; have n0_ := Aside0.mk (Kd.V_below (vV_ HO_1) hb); have n1_ := Aside0.mk (Kd.R_below (rR_ HO_386003) hb); have n2_ := Aside0.mk (Kd.R_below (rR_ HO_386004) hb); have n3_ := Aside0.mk (Kd.V_lower (Kd.V_mono (ok' := fun k_ => (P1_ k_ ∨ w.heap.size ≤ k_) ∧ some k_ ≠ (.slice Ao61 t379.length co61 : Value).ownBlock ∧ some k_ ≠ (.slice Ao62 t382.length co62 : Value).ownBlock ∧ k_ ≠ gb350 ∧ k_ ≠ gb351 ∧ k_ ≠ gb352 ∧ k_ ≠ gb385) ho0 (fun k_ hk_ => ⟨Or.elim hk_ (fun hs_ => hs_.1) (fun hn_ => (.inr (Nat.le_trans (below_size (hB_ HB)) hn_))), Or.elim hk_ (fun hs_ => hs_.2.1) (fun hn_ => (Kd.fresh' (Kd.R_lt (rR_ HO_386003)) k_ hn_)), Or.elim hk_ (fun hs_ => hs_.2.2.1) (fun hn_ => (Kd.fresh' (Kd.R_lt (rR_ HO_386004)) k_ hn_)), Or.elim hk_ (fun hs_ => hs_.2.2.2.1) (fun hn_ => (fB_ BK350 k_ hn_)), Or.elim hk_ (fun hs_ => hs_.2.2.2.2.1) (fun hn_ => (fB_ BK351 k_ hn_)), Or.elim hk_ (fun hs_ => hs_.2.2.2.2.2.1) (fun hn_ => (fB_ BK352 k_ hn_)), Or.elim hk_ (fun hs_ => hs_.2.2.2.2.2.2) (fun hn_ => (fB_ BK385 k_ hn_))⟩)) (below_size (hB_ HB))); have n5_ := bB_ BK351 hb; have n7_ := bB_ BK385 hb; clear HO_1; clear HO_386003; clear HO_386004; clear BK351; clear BK385; have HO_1 := n0_; have HO_386003 := n1_; have HO_386004 := n2_; have HO404 := n3_; have BK351 := n5_; have BK385 := n7_; replace BK350 := bB_ BK350 hb; replace BK352 := bB_ BK352 hb; replace HB := hS_ HB hb; clear n0_ n1_ n2_ n3_ n5_ n7_; (try clear hb); (try clear hb2); (try clear hk); (try clear hi); (try clear ho0)))
              go_ret2
              exact ⟨_, er_, by (with_reducible repeat (first | apply Kd.V_alloc | apply Kd.V_drewN | apply Kd.V_drew)); exact Kd.V_mono HO404.out (fun _ hk => hk.1), hB_ HB⟩
            ·rw [if_neg c95] at H
             have c95b0 : (t400 == 0) = false := beq_eq_false_iff_ne.mpr c95
             have c95b1 : (t400 != 0) = true := bne_iff_ne.mpr c95
             simp only [Option.some.injEq, Prod.mk.injEq] at H; obtain ⟨rfl, rfl⟩ := H; have hnb116 := NB350_351.out; have hnc116 := NB351_350.out; have hnb117 := NB350_352.out; have hnc117 := NB352_350.out; have hnb118 := NB350_385.out; have hnc118 := NB385_350.out; obtain ⟨hcz119_0, hcz119_1, hcz119_2, hcz119_3, hcz119_4, hcz119_5, hcz119_6, hfz119_0, hfz119_1, hfz119_2, hfz119_3, hfz119_4, hfz119_5, hfz119_6⟩ := cz7_ (w := wc) BK350; have hnb120 := NB352_351.out; have hnc120 := NB351_352.out; have hnb121 := NB352_385.out; have hnc121 := NB385_352.out; obtain ⟨hcz122_0, hcz122_1, hcz122_2, hcz122_3, hcz122_4, hfz122_0, hfz122_1, hfz122_2, hfz122_3, hfz122_4⟩ := cz5_ (w := wc) BK352
             go_wp2_with (first | ((with_reducible refine gate_callee (f := 33) rfl ?_); refine goesL_ (some 65) rfl rfl Tryd.func33 (by kernel_rfl) rfl #[.agg #[.int .u32 a0_0, .int .i64 a0_1, .slice A0_2 l0_2.length c0_2, .int .i64 a0_3, .int .i64 a0_4, .int .i64 a0_5, .int .i64 a0_6], .int .u32 a3_1] rfl am_ ?_; (with_reducible refine (block_Find.calls kj77 a0_0 a0_1 _ _ l0_2 a0_3 a0_4 a0_5 a0_6 a3_1 t399 t400 _ ?side1 ?side2 A94.out).mono ?_); (case side1 => exact cC_ HR0_2 HB); (case side2 => exact HC0_2.out); rintro e w123 ⟨rfl, hb⟩; refine ⟨_, rfl, ?_⟩; have n0_ := Aside0.mk (Kd.V_below (vV_ HO_1) hb); have n1_ := Aside0.mk (Kd.R_below (rR_ HO_386003) hb); have n2_ := Aside0.mk (Kd.R_below (rR_ HO_386004) hb); have n4_ := bB_ BK351 hb; have n6_ := bB_ BK385 hb; clear HO_1; clear HO_386003; clear HO_386004; clear BK351; clear BK385; have HO_1 := n0_; have HO_386003 := n1_; have HO_386004 := n2_; have BK351 := n4_; have BK385 := n6_; replace BK350 := bB_ BK350 hb; replace BK352 := bB_ BK352 hb; replace HB := hS_ HB hb; clear n0_ n1_ n2_ n4_ n6_; (try clear hb); (try clear hb2); (try clear hk); (try clear hi)))
             go_ret2
             exact ⟨_, er_, by (with_reducible repeat (first | apply Kd.V_alloc | apply Kd.V_drewN | apply Kd.V_drew)); exact Kd.V_mono HO_1.out (fun _ hk => hk.1), hB_ HB⟩
           ·replace c93 := Bool.eq_false_iff.mpr c93
            subst c93
            have H1 : (some (l1, false)) = some (r1, r2) := by rw [if_neg (show ¬ (false = true) by decide)] at H; exact H
            clear H; have H := H1; clear H1; simp only [Option.some.injEq, Prod.mk.injEq] at H; obtain ⟨rfl, rfl⟩ := H
            go_wp2
            go_ret2
            exact ⟨_, er_, by (with_reducible repeat (first | apply Kd.V_alloc | apply Kd.V_drewN | apply Kd.V_drew)); exact Kd.V_mono HO_1.out (fun _ hk => hk.1), hB_ HB⟩
     ·rw [if_neg c48] at H
      have c48b0 : (t387 == 0) = false := beq_eq_false_iff_ne.mpr c48
      have c48b1 : (t387 != 0) = true := bne_iff_ne.mpr c48
      simp only [Option.some.injEq, Prod.mk.injEq] at H; obtain ⟨rfl, rfl⟩ := H; have hnb124 := NB350_351.out; have hnc124 := NB351_350.out; have hnb125 := NB350_352.out; have hnc125 := NB352_350.out; obtain ⟨hcz126_0, hcz126_1, hcz126_2, hcz126_3, hcz126_4, hcz126_5, hcz126_6, hfz126_0, hfz126_1, hfz126_2, hfz126_3, hfz126_4, hfz126_5, hfz126_6⟩ := cz7_ (w := wc) BK350; have hnb127 := NB351_352.out; have hnc127 := NB352_351.out; obtain ⟨hcz128_0, hcz128_1, hcz128_2, hfz128_0, hfz128_1, hfz128_2⟩ := cz3_ (w := wc) BK351
      go_wp2_with (first | ((with_reducible refine gate_callee (f := 15) rfl ?_); refine goesL_ (some 27) rfl rfl Tryd.func15 (by kernel_rfl) rfl #[.agg #[.int .u32 a0_0, .int .i64 a0_1, .slice A0_2 l0_2.length c0_2, .int .i64 a0_3, .int .i64 a0_4, .int .i64 a0_5, .int .i64 a0_6], .slice A1 l1.length c1, .agg #[.int .i64 a2_0, .int .u32 a2_1, .slice A2_2 l2_2.length c2_2]] rfl am_ ?_; (with_reducible refine (spec_Some.calls kj4 a0_0 a0_1 _ _ l0_2 a0_3 a0_4 a0_5 a0_6 (fun k_ => ((P1_ k_ ∨ w.heap.size ≤ k_) ∧ (k_ ≠ gb350 ∧ (k_ ≠ gb351 ∧ k_ ≠ gb352)))) _ _ l1 a2_0 a2_1 _ _ l2_2 t373 t376 t377 t378 t379 t382 _ ?side1 ?side2 ?side3 ?side4 ?side5 ?side6 A29.out).mono ?_); (case side1 => exact cC_ HR0_2 HB); (case side2 => exact HC0_2.out); (case side3 => exact HO_1.out); (case side4 => exact cC_ HR2_2 HB); (case side5 => exact HC2_2.out); (case side6 => exact Lg_below HG.out (hB_ HB)); rintro e w129 ⟨v374, v380, v383, rfl, ho0, ho1, ho2, hb⟩; refine ⟨_, rfl, ?_⟩; have n0_ := Aside0.mk (Kd.V_mono (Kd.V_told (Kd.V_told (Kd.V_old (vV_ HO_1) hb) (Kd.R_base ho1)) (Kd.R_base ho2)) (fun _ h_ => h_.1)); have n1_ := Aside0.mk (Kd.V_lower (Kd.V_mono (ok' := fun k_ => (P1_ k_ ∨ w.heap.size ≤ k_) ∧ some k_ ≠ (v380 : Value).ownBlock ∧ some k_ ≠ (v383 : Value).ownBlock ∧ k_ ≠ gb350 ∧ k_ ≠ gb351 ∧ k_ ≠ gb352) ho0 (fun k_ hk_ => ⟨Or.elim hk_.1 (fun hs_ => hs_.1) (fun hn_ => (.inr (Nat.le_trans (below_size (hB_ HB)) hn_))), hk_.2.1, hk_.2.2, Or.elim hk_.1 (fun hs_ => hs_.2.1) (fun hn_ => (fB_ BK350 k_ hn_)), Or.elim hk_.1 (fun hs_ => hs_.2.2.1) (fun hn_ => (fB_ BK351 k_ hn_)), Or.elim hk_.1 (fun hs_ => hs_.2.2.2) (fun hn_ => (fB_ BK352 k_ hn_))⟩)) (below_size (hB_ HB))); have n2_ := Aside0.mk (Kd.R_lower (Kd.R_newM (M := fun k_ => (w.heap.size ≤ k_)) (Kd.R_mono (ok' := fun k_ => True) ho1 (fun _ hk_ => trivial)) (below_size (hB_ HB)) (fun k_ h_ => h_)) (below_size (hB_ HB))); have n3_ := Aside0.mk (Kd.R_lower (Kd.R_newM (M := fun k_ => (w.heap.size ≤ k_)) (Kd.R_mono (ok' := fun k_ => True) ho2 (fun _ hk_ => trivial)) (below_size (hB_ HB)) (fun k_ h_ => h_)) (below_size (hB_ HB))); have n5_ := bB_ BK351 hb; have n7_ := Aside0.mk (below_step (hB_ HB) hb); clear HO_1; clear BK351; clear HB; have HO_1 := n0_; have HO375 := n1_; have HO381 := n2_; have HO384 := n3_; have BK351 := n5_; have HB := n7_; replace BK350 := bB_ BK350 hb; replace BK352 := bB_ BK352 hb; clear n0_ n1_ n2_ n3_ n5_ n7_; (try clear hb); (try clear hb2); (try clear hk); (try clear hi); (try clear ho0); (try clear ho1); (try clear ho2)) | ((with_reducible refine gate_dst (N := 11) rfl ?_); refine box_event ?hg (N := 11) ?hd (cs := #[.int .i64 0, .int .u32 0, .bool false, .slice none 0 0, .slice none 0 0]) (t := 34) ?hr ?_; (case hd => rfl); (case hg => rfl); (case hr => first | (go_simp; done) | (go_simp; rfl)); intro gb385 hg w130 hbox hb; have n0_ := Aside0.mk (Kd.V_below (Kd.V_elderB (vV_ HO_1) gb385 (Nat.le_of_eq hg.symm)) hb); have n1_ := Aside0.mk (Kd.V_below (Kd.V_elderB (vV_ HO375) gb385 (Nat.le_of_eq hg.symm)) hb); have n2_ := Aside0.mk (Kd.R_below (rR_ HO381) hb); have n3_ := Aside0.mk (Kd.R_below (rR_ HO384) hb); have n5_ := bB_ BK351 hb; have n7_ := Aside0.mk (below_step (hB_ HB) hb); have n8_ := Aside0.mk (hbox); have n9_ := gG_ (w := w) hg HB; have n10_ := gG_ (w := w) hg HB; have n11_ := nL_ hg BK350; have n12_ := nG_ hg BK350; have n13_ := nL_ hg BK351; have n14_ := nG_ hg BK351; have n15_ := nL_ hg BK352; have n16_ := nG_ hg BK352; clear HO_1; clear HO375; clear HO381; clear HO384; clear BK351; clear HB; have HO_1 := n0_; have HO375 := n1_; have HO381 := n2_; have HO384 := n3_; have BK351 := n5_; have HB := n7_; have BK385 := n8_; have GW385 := n9_; have GE385 := n10_; have NB350_385 := n11_; have NB385_350 := n12_; have NB351_385 := n13_; have NB385_351 := n14_; have NB352_385 := n15_; have NB385_352 := n16_; replace BK350 := bB_ BK350 hb; replace BK352 := bB_ BK352 hb; clear n0_ n1_ n2_ n3_ n5_ n7_ n8_ n9_ n10_ n11_ n12_ n13_ n14_ n15_ n16_; clear hb hbox hg; have hnb131 := NB385_350.out; have hnc131 := NB350_385.out; have hnb132 := NB385_351.out; have hnc132 := NB351_385.out; have hnb133 := NB385_352.out; have hnc133 := NB352_385.out; obtain ⟨hcz134_0, hcz134_1, hcz134_2, hcz134_3, hcz134_4, hfz134_0, hfz134_1, hfz134_2, hfz134_3, hfz134_4⟩ := cz5_ (w := w130) BK385; obtain ⟨Ao135, co135, eo135⟩ := Kd.R_slice HO381.out; subst eo135; obtain ⟨Ao136, co136, eo136⟩ := Kd.R_slice HO384.out; subst eo136; obtain ⟨hcz137_0, hcz137_1, hcz137_2, hcz137_3, hcz137_4, hfz137_0, hfz137_1, hfz137_2, hfz137_3, hfz137_4⟩ := cz5_ (w := w130) BK352) | ((with_reducible refine gate_callee (f := 19) rfl ?_); refine goesL_ (some 33) rfl rfl Tryd.func19 (by kernel_rfl) rfl #[.agg #[.int .i64 a3_0, .int .u32 a3_1, .bool a3_2, .slice A3_3 l3_3.length c3_3, .slice A3_4 l3_4.length c3_4], .agg #[.int .i64 t376, .int .u32 t377, .bool t378, .slice Ao135 t379.length co135, .slice Ao136 t382.length co136]] rfl am_ ?_; (with_reducible refine (spec_Same.calls kj4 a3_0 a3_1 a3_2 _ _ l3_3 _ _ l3_4 t376 t377 t378 _ _ t379 _ _ t382 false _ ?side1 ?side2 ?side3 ?side4 ?side5 ?side6 ?side7 ?side8 A30.out).mono ?_); (case side1 => exact Kd.C_below HR3_3.out (hB_ HB)); (case side2 => exact HC3_3.out); (case side3 => exact Kd.C_below HR3_4.out (hB_ HB)); (case side4 => exact HC3_4.out); (case side5 => refine (Kd.R_reads' (e := 22) (base := w.heap.size) (ok := fun k_ => ((w.heap.size ≤ k_) ∧ True)) (n := t379.length) (c := co135) ?_).2.2; exact (by (with_reducible repeat (first | apply Kd.R_alloc | apply Kd.R_drewN | apply Kd.R_drew)); exact (Kd.R_mono (rF5_ (g := gb385) (Kd.R_types HO381.out BK385.out (by decide)) (fun _ hk => hk.2)) (fun _ h_ => h_.1)))); (case side6 => exact (Kd.R_reads' HO381.out).2.1); (case side7 => refine (Kd.R_reads' (e := 31) (base := w.heap.size) (ok := fun k_ => ((w.heap.size ≤ k_) ∧ True)) (n := t382.length) (c := co136) ?_).2.2; exact (by (with_reducible repeat (first | apply Kd.R_alloc | apply Kd.R_drewN | apply Kd.R_drew)); exact (Kd.R_mono (rF5_ (g := gb385) (Kd.R_types HO384.out BK385.out (by decide)) (fun _ hk => hk.2)) (fun _ h_ => h_.1)))); (case side8 => exact (Kd.R_reads' HO384.out).2.1); rintro e w138 ⟨rfl, hb⟩; refine ⟨_, rfl, ?_⟩; have n0_ := Aside0.mk (Kd.V_below (by (with_reducible repeat (first | apply Kd.V_alloc | apply Kd.V_drewN | apply Kd.V_drew)); exact (Kd.V_mono (vF5_ (g := gb385) (Kd.V_mono HO_1.out (fun k_ hk => (⟨hk, hk.2⟩ : _ ∧ k_ ≠ gb385))) (fun _ hk => hk.2)) (fun _ h_ => h_.1))) hb); have n1_ := Aside0.mk (Kd.V_below (by (with_reducible repeat (first | apply Kd.V_alloc | apply Kd.V_drewN | apply Kd.V_drew)); exact (Kd.V_mono (vF5_ (g := gb385) (Kd.V_mono HO375.out (fun k_ hk => (⟨hk, hk.2⟩ : _ ∧ k_ ≠ gb385))) (fun _ hk => hk.2)) (fun _ h_ => h_.1))) hb); have n2_ := Aside0.mk (Kd.R_below (by (with_reducible repeat (first | apply Kd.R_alloc | apply Kd.R_drewN | apply Kd.R_drew)); exact (Kd.R_mono (rF5_ (g := gb385) (Kd.R_types HO381.out BK385.out (by decide)) (fun _ hk => hk.2)) (fun _ h_ => h_.1))) hb); have n3_ := Aside0.mk (Kd.R_below (by (with_reducible repeat (first | apply Kd.R_alloc | apply Kd.R_drewN | apply Kd.R_drew)); exact (Kd.R_mono (rF5_ (g := gb385) (Kd.R_types HO384.out BK385.out (by decide)) (fun _ hk => hk.2)) (fun _ h_ => h_.1))) hb); have n4_ := Aside0.mk (blk_below (g := gb350) (o := .cells #[.int .u32 a0_0, .int .i64 a0_1, .slice A0_2 l0_2.length c0_2, .int .i64 a0_3, .int .i64 a0_4, .int .i64 a0_5, .int .i64 a0_6] 27 (0, 0)) (by (with_reducible repeat (first | refine blk_drewN ?_ _ | refine blk_drew ?_ | refine blk_alloc ?_ _)); refine blk_far ?_ NB350_385.out _; refine blk_far ?_ NB350_385.out _; refine blk_far ?_ NB350_385.out _; refine blk_far ?_ NB350_385.out _; refine blk_far ?_ NB350_385.out _; (with_reducible repeat (first | refine blk_drewN ?_ _ | refine blk_drew ?_ | refine blk_alloc ?_ _)); exact BK350.out) hb); have n5_ := Aside0.mk (blk_below (g := gb351) (o := .cells #[.int .i64 a2_0, .int .u32 a2_1, .slice A2_2 l2_2.length c2_2] 30 (0, 0)) (by (with_reducible repeat (first | refine blk_drewN ?_ _ | refine blk_drew ?_ | refine blk_alloc ?_ _)); refine blk_far ?_ NB351_385.out _; refine blk_far ?_ NB351_385.out _; refine blk_far ?_ NB351_385.out _; refine blk_far ?_ NB351_385.out _; refine blk_far ?_ NB351_385.out _; (with_reducible repeat (first | refine blk_drewN ?_ _ | refine blk_drew ?_ | refine blk_alloc ?_ _)); exact BK351.out) hb); have n6_ := Aside0.mk (blk_below (g := gb352) (o := .cells #[.int .i64 a3_0, .int .u32 a3_1, .bool a3_2, .slice A3_3 l3_3.length c3_3, .slice A3_4 l3_4.length c3_4] 34 (0, 0)) (by (with_reducible repeat (first | refine blk_drewN ?_ _ | refine blk_drew ?_ | refine blk_alloc ?_ _)); refine blk_far ?_ NB352_385.out _; refine blk_far ?_ NB352_385.out _; refine blk_far ?_ NB352_385.out _; refine blk_far ?_ NB352_385.out _; refine blk_far ?_ NB352_385.out _; (with_reducible repeat (first | refine blk_drewN ?_ _ | refine blk_drew ?_ | refine blk_alloc ?_ _)); exact BK352.out) hb); have n7_ := Aside0.mk (blk_below (g := gb385) (o := .cells #[.int .i64 t376, .int .u32 t377, .bool t378, .slice Ao135 t379.length co135, .slice Ao136 t382.length co136] 34 (0, 0)) (by (with_reducible repeat (first | refine blk_drewN ?_ _ | refine blk_drew ?_ | refine blk_alloc ?_ _)); refine blk_put (cs := #[.int .i64 t376, .int .u32 t377, .bool t378, .slice Ao135 t379.length co135, .slice none 0 0]) ?_ 4 _ rfl; refine blk_put (cs := #[.int .i64 t376, .int .u32 t377, .bool t378, .slice none 0 0, .slice none 0 0]) ?_ 3 _ rfl; refine blk_put (cs := #[.int .i64 t376, .int .u32 t377, .bool false, .slice none 0 0, .slice none 0 0]) ?_ 2 _ rfl; refine blk_put (cs := #[.int .i64 t376, .int .u32 0, .bool false, .slice none 0 0, .slice none 0 0]) ?_ 1 _ rfl; refine blk_put (cs := #[.int .i64 0, .int .u32 0, .bool false, .slice none 0 0, .slice none 0 0]) ?_ 0 _ rfl; (with_reducible repeat (first | refine blk_drewN ?_ _ | refine blk_drew ?_ | refine blk_alloc ?_ _)); exact BK385.out) hb); clear HO_1; clear HO375; clear HO381; clear HO384; clear BK350; clear BK351; clear BK352; clear BK385; have HO_1 := n0_; have HO375 := n1_; have HO381 := n2_; have HO384 := n3_; have BK350 := n4_; have BK351 := n5_; have BK352 := n6_; have BK385 := n7_; replace HB := hS_ HB hb; clear n0_ n1_ n2_ n3_ n4_ n5_ n6_ n7_; (try clear hb); (try clear hb2); (try clear hk); (try clear hi); obtain ⟨hcz139_0, hcz139_1, hcz139_2, hcz139_3, hcz139_4, hcz139_5, hcz139_6, hfz139_0, hfz139_1, hfz139_2, hfz139_3, hfz139_4, hfz139_5, hfz139_6⟩ := cz7_ (w := w138) BK350; obtain ⟨hcz140_0, hcz140_1, hcz140_2, hfz140_0, hfz140_1, hfz140_2⟩ := cz3_ (w := w138) BK351) | ((with_reducible refine gate_callee (f := 32) rfl ?_); refine goesL_ (some 38) rfl rfl Tryd.func32 (by kernel_rfl) rfl #[.agg #[.int .u32 a0_0, .int .i64 a0_1, .slice A0_2 l0_2.length c0_2, .int .i64 a0_3, .int .i64 a0_4, .int .i64 a0_5, .int .i64 a0_6], .agg #[.int .i64 a2_0, .int .u32 a2_1, .slice A2_2 l2_2.length c2_2]] rfl am_ ?_; (with_reducible refine (ask_Check.calls kj4 a0_0 a0_1 _ _ l0_2 a0_3 a0_4 a0_5 a0_6 a2_0 a2_1 _ _ l2_2 t387 _ ?side1 ?side2 ?side3 ?side4 ?side5 A47.out).mono ?_); (case side1 => exact cC_ HR0_2 HB); (case side2 => exact HC0_2.out); (case side3 => exact cC_ HR2_2 HB); (case side4 => exact HC2_2.out); (case side5 => exact Lg_below HG.out (hB_ HB)); rintro e w141 ⟨rfl, hb⟩; refine ⟨_, rfl, ?_⟩; have n0_ := Aside0.mk (Kd.V_below (vV_ HO_1) hb); have n1_ := Aside0.mk (Kd.V_below (vV_ HO375) hb); have n2_ := Aside0.mk (Kd.R_below (rR_ HO381) hb); have n3_ := Aside0.mk (Kd.R_below (rR_ HO384) hb); have n5_ := bB_ BK351 hb; have n7_ := bB_ BK385 hb; clear HO_1; clear HO375; clear HO381; clear HO384; clear BK351; clear BK385; have HO_1 := n0_; have HO375 := n1_; have HO381 := n2_; have HO384 := n3_; have BK351 := n5_; have BK385 := n7_; replace BK350 := bB_ BK350 hb; replace BK352 := bB_ BK352 hb; replace HB := hS_ HB hb; clear n0_ n1_ n2_ n3_ n5_ n7_; (try clear hb); (try clear hb2); (try clear hk); (try clear hi)))
      go_ret2
      exact ⟨_, er_, by (with_reducible repeat (first | apply Kd.V_alloc | apply Kd.V_drewN | apply Kd.V_drew)); exact Kd.V_mono HO_1.out (fun _ hk => hk.1.1.1.1), hB_ HB⟩

end Go.Proofs.YtkiimboedgnoiaaDoor.PSpecLegal
