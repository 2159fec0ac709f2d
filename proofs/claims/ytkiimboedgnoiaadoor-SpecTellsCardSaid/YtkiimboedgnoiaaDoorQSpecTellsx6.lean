/- The walk of SpecTells, part of it: what the Go functions answer; no condition. -/
import Derived.Test.YtkiimboedgnoiaaDoorQSpecTellsx0
import Derived.Test.YtkiimboedgnoiaaDoorQSpecTellsx1
import Derived.Test.YtkiimboedgnoiaaDoorQSpecTellsx2
import Derived.Test.YtkiimboedgnoiaaDoorQSpecTellsx3
import Derived.Test.YtkiimboedgnoiaaDoorQSpecTellsx5
namespace Go.Proofs.YtkiimboedgnoiaaDoor.PSpecTells
open Go.RowKit Go.Proofs.YtkiimboedgnoiaaDoorW.PrintWords Go.Proofs.YtkiimboedgnoiaaDoorW.PrintLast Go.Proofs.YtkiimboedgnoiaaDoorW.PrintMore
attribute [local go_sem] max2_int min2_int max_two min_two max_three min_three max_four min_four   -- for this text's walks alone
set_option linter.unusedVariables false
set_option linter.unusedSimpArgs false

/-! ### spec_Legal: function 13 -/
mutual
def spec_Legal.j0 : Nat → List Int → Bool → Int → Int → List Int → Int → Int → Int → Int → Int → Int → List Int → Int → Int → Bool → List Int → List Int → Option (List Int × Bool)
 | 0, _, _, _, _, _, _, _, _, _, _, _, _, _, _, _, _, _ => none
 | k + 1, x1, x21, x351000, x351001, x351002, x351003, x351004, x351005, x351006, x352000, x352001, x352002, x353000, x353001, x353002, x353003, x353004 => if x21 = true then (some (x1, true)) else ((spec_Some.f k x351000 x351001 x351002 x351003 x351004 x351005 x351006 x1 x352000 x352001 x352002).bind fun bt373 => ((spec_Same.f k x353000 x353001 x353002 x353003 x353004 bt373.2.1 bt373.2.2.1 bt373.2.2.2.1 bt373.2.2.2.2.1 bt373.2.2.2.2.2).bind fun t386 => (if t386 = true then (some (bt373.1, true)) else ((ask_Check.f k x351000 x351001 x351002 x351003 x351004 x351005 x351006 x352000 x352001 x352002).bind fun t387 => (if t387 = 0 then (if x352000 = 6 then ((spec_fail.f 11).bind fun bt388 => ((spec_Same.f k x353000 x353001 x353002 x353003 x353004 bt388.1 bt388.2.1 bt388.2.2.1 bt388.2.2.2.1 bt388.2.2.2.2).bind fun t397 => (spec_Legal.j1 k x1 t397 x351000 x351001 x351002 x351003 x351004 x351005 x351006 x352000 x352001 x352002 x353000 x353001 x353002 x353003 x353004))) else (spec_Legal.j1 k x1 false x351000 x351001 x351002 x351003 x351004 x351005 x351006 x352000 x352001 x352002 x353000 x353001 x353002 x353003 x353004)) else (some (x1, false)))))))
def spec_Legal.j1 : Nat → List Int → Bool → Int → Int → List Int → Int → Int → Int → Int → Int → Int → List Int → Int → Int → Bool → List Int → List Int → Option (List Int × Bool)
 | 0, _, _, _, _, _, _, _, _, _, _, _, _, _, _, _, _, _ => none
 | k + 1, x1, x40, x351000, x351001, x351002, x351003, x351004, x351005, x351006, x352000, x352001, x352002, x353000, x353001, x353002, x353003, x353004 => if x40 = true then (some (x1, true)) else (if x352000 = 1 then ((spec_Same.f k x353000 x353001 x353002 x353003 x353004 0 x353001 false ([] : List Int) ([] : List Int)).bind fun t398 => (spec_Legal.j2 k x1 t398 x351000 x351001 x351002 x351003 x351004 x351005 x351006 x353000 x353001 x353002 x353003 x353004)) else (spec_Legal.j2 k x1 false x351000 x351001 x351002 x351003 x351004 x351005 x351006 x353000 x353001 x353002 x353003 x353004))
def spec_Legal.j2 : Nat → List Int → Bool → Int → Int → List Int → Int → Int → Int → Int → Int → Int → Bool → List Int → List Int → Option (List Int × Bool)
 | 0, _, _, _, _, _, _, _, _, _, _, _, _, _, _ => none
 | k + 1, x1, x50, x351000, x351001, x351002, x351003, x351004, x351005, x351006, x353000, x353001, x353002, x353003, x353004 => if x50 = true then ((block_Find.f k x351000 x351001 x351002 x351003 x351004 x351005 x351006 x353001).bind fun bt399 => (if bt399.2 = 0 then ((model_Has.f k x1 bt399.1).bind fun t401 => (if t401 = true then (some (x1, false)) else ((model_With.f k x1 bt399.1).bind fun t402 => (some (t402, true))))) else (some (x1, false)))) else (some (x1, false))
end
def spec_Legal.f (k : Nat) (a0_0 a0_1 : Int) (l0_2 : List Int) (a0_3 a0_4 : Int) (a0_5 a0_6 : Int) (l1 : List Int) (a2_0 a2_1 : Int) (l2_2 : List Int) (a3_0 a3_1 : Int) (a3_2 : Bool) (l3_3 l3_4 : List Int) : Option (List Int × Bool) := (spec_fail.f 10).bind fun bt353 => ((spec_Same.f k a3_0 a3_1 a3_2 l3_3 l3_4 bt353.1 bt353.2.1 bt353.2.2.1 bt353.2.2.2.1 bt353.2.2.2.2).bind fun t362 => (if t362 = true then (spec_Legal.j0 k l1 true a0_0 a0_1 l0_2 a0_3 a0_4 a0_5 a0_6 a2_0 a2_1 l2_2 a3_0 a3_1 a3_2 l3_3 l3_4) else ((spec_fail.f 12).bind fun bt363 => ((spec_Same.f k a3_0 a3_1 a3_2 l3_3 l3_4 bt363.1 bt363.2.1 bt363.2.2.1 bt363.2.2.2.1 bt363.2.2.2.2).bind fun t372 => (spec_Legal.j0 k l1 t372 a0_0 a0_1 l0_2 a0_3 a0_4 a0_5 a0_6 a2_0 a2_1 l2_2 a3_0 a3_1 a3_2 l3_3 l3_4)))))
theorem spec_Legal.mono_l : ∀ k, (∀ y0 y1 y2 y3 y4 y5 y6 y7 y8 y9 y10 y11 y12 y13 y14 y15 y16, LeO (spec_Legal.j0 k y0 y1 y2 y3 y4 y5 y6 y7 y8 y9 y10 y11 y12 y13 y14 y15 y16) (spec_Legal.j0 (k + 1) y0 y1 y2 y3 y4 y5 y6 y7 y8 y9 y10 y11 y12 y13 y14 y15 y16)) ∧ (∀ y0 y1 y2 y3 y4 y5 y6 y7 y8 y9 y10 y11 y12 y13 y14 y15 y16, LeO (spec_Legal.j1 k y0 y1 y2 y3 y4 y5 y6 y7 y8 y9 y10 y11 y12 y13 y14 y15 y16) (spec_Legal.j1 (k + 1) y0 y1 y2 y3 y4 y5 y6 y7 y8 y9 y10 y11 y12 y13 y14 y15 y16)) ∧ (∀ y0 y1 y2 y3 y4 y5 y6 y7 y8 y9 y10 y11 y12 y13, LeO (spec_Legal.j2 k y0 y1 y2 y3 y4 y5 y6 y7 y8 y9 y10 y11 y12 y13) (spec_Legal.j2 (k + 1) y0 y1 y2 y3 y4 y5 y6 y7 y8 y9 y10 y11 y12 y13))
 | 0 => ⟨fun _ _ _ _ _ _ _ _ _ _ _ _ _ _ _ _ _ r h => by simp [spec_Legal.j0] at h, fun _ _ _ _ _ _ _ _ _ _ _ _ _ _ _ _ _ r h => by simp [spec_Legal.j1] at h, fun _ _ _ _ _ _ _ _ _ _ _ _ _ _ r h => by simp [spec_Legal.j2] at h⟩
 | k + 1 => by
  obtain ⟨ih0, ih1, ih2⟩ := spec_Legal.mono_l k
  refine ⟨?_, ?_, ?_⟩
  ·intro y0 y1 y2 y3 y4 y5 y6 y7 y8 y9 y10 y11 y12 y13 y14 y15 y16
   unfold spec_Legal.j0
   repeat' (with_reducible first | apply ih0 | apply ih1 | apply ih2 | apply ask_Check.mono | apply block_Find.mono | apply model_Has.mono | apply model_With.mono | apply spec_Same.mono | apply spec_Some.mono | exact LeO.refl _ | exact LeO.none _ | refine LeO.ite ?_ ?_ | refine LeO.bind ?_ (fun _ => ?_))
  ·intro y0 y1 y2 y3 y4 y5 y6 y7 y8 y9 y10 y11 y12 y13 y14 y15 y16
   unfold spec_Legal.j1
   repeat' (with_reducible first | apply ih0 | apply ih1 | apply ih2 | apply ask_Check.mono | apply block_Find.mono | apply model_Has.mono | apply model_With.mono | apply spec_Same.mono | apply spec_Some.mono | exact LeO.refl _ | exact LeO.none _ | refine LeO.ite ?_ ?_ | refine LeO.bind ?_ (fun _ => ?_))
  ·intro y0 y1 y2 y3 y4 y5 y6 y7 y8 y9 y10 y11 y12 y13
   unfold spec_Legal.j2
   repeat' (with_reducible first | apply ih0 | apply ih1 | apply ih2 | apply ask_Check.mono | apply block_Find.mono | apply model_Has.mono | apply model_With.mono | apply spec_Same.mono | apply spec_Some.mono | exact LeO.refl _ | exact LeO.none _ | refine LeO.ite ?_ ?_ | refine LeO.bind ?_ (fun _ => ?_))
theorem spec_Legal.mono : ∀ a0 a1 a2 a3 a4 a5 a6 a7 a8 a9 a10 a11 a12 a13 a14 a15 k, LeO (spec_Legal.f k a0 a1 a2 a3 a4 a5 a6 a7 a8 a9 a10 a11 a12 a13 a14 a15) (spec_Legal.f (k + 1) a0 a1 a2 a3 a4 a5 a6 a7 a8 a9 a10 a11 a12 a13 a14 a15) := by
 intro a0 a1 a2 a3 a4 a5 a6 a7 a8 a9 a10 a11 a12 a13 a14 a15 k
 obtain ⟨ih0, ih1, ih2⟩ := spec_Legal.mono_l k
 unfold spec_Legal.f
 repeat' (with_reducible first | apply ih0 | apply ih1 | apply ih2 | apply ask_Check.mono | apply block_Find.mono | apply model_Has.mono | apply model_With.mono | apply spec_Same.mono | apply spec_Some.mono | exact LeO.refl _ | exact LeO.none _ | refine LeO.ite ?_ ?_ | refine LeO.bind ?_ (fun _ => ?_))
def spec_Legal.T1 : Bool × List (List Nat × List Nat) := (true, [([], []), ([], []), ([0, 1, 1], [0, 1]), ([2, 2], [2]), ([3], [3]), ([3, 3], [3]), ([4, 5, 5, 3], [3, 4, 5]), ([3, 6], [3, 6])])
def spec_Legal.B1 : List Nat := [0, 0, 3, 7, 15, 15, 63, 127]
theorem spec_Legal.tab1 : rtab .any (opsOf Tryd.f13 1) = spec_Legal.T1 := by kernel_rfl
theorem spec_Legal.bits1 : waitsOk spec_Legal.T1.2 spec_Legal.B1 = true := by kernel_rfl
def spec_Legal.T7 : Bool × List (List Nat × List Nat) := (true, [([], []), ([0], [0]), ([1], [1]), ([2], [2]), ([3], [3]), ([3, 3], [3]), ([4, 5, 5, 3], [3, 4, 5]), ([3, 6], [3, 6]), ([7, 6], [7])])
def spec_Legal.B7 : List Nat := [0, 1, 3, 7, 15, 15, 63, 127, 255]
theorem spec_Legal.tab7 : rtab .any (opsOf Tryd.f13 7) = spec_Legal.T7 := by kernel_rfl
theorem spec_Legal.bits7 : waitsOk spec_Legal.T7.2 spec_Legal.B7 = true := by kernel_rfl
set_option maxHeartbeats 8000000 in
set_option maxRecDepth 100000 in
theorem spec_Legal.calls (k : Nat) (am an : Int) (bk : Option Addr) (bl : Nat) (al : List Int) (ao ap : Int) (aq ar : Int) (P1_ : Nat → Prop) (A1 : Option Addr) (c1 : Nat) (l1 : List Int) (aj ax : Int) (a6 : Option Addr) (a7 : Nat) (au : List Int) (ag ad : Int) (ah : Bool) (aY : Option Addr) (a0 : Nat) (ae : List Int) (aZ : Option Addr) (a1 : Nat) (af r1 : List Int) (r2 : Bool) (w : World) (hr0_2 : Kd.C (Kd.int .i64) w bk al.length al) (hc0_2 : al.length ≤ bl) (he : Kd.V (Kd.int .i64) 3 w w.heap.size (fun k_ => P1_ k_) (.slice A1 l1.length c1) l1) (hr2_2 : Kd.C (Kd.int .u32) w a6 au.length au) (hc2_2 : au.length ≤ a7) (hr3_3 : Kd.C (Kd.int .u32) w aY ae.length ae) (hc3_3 : ae.length ≤ a0) (hr3_4 : Kd.C (Kd.int .i64) w aZ af.length af) (hc3_4 : af.length ≤ a1) (hG : Lg w) (h : spec_Legal.f k am an al ao ap aq ar l1 aj ax au ag ad ah ae af = some (r1, r2)) :
  Calls Tryd.prog 13 #[.agg #[.int .u32 am, .int .i64 an, .slice bk al.length bl, .int .i64 ao, .int .i64 ap, .int .i64 aq, .int .i64 ar], .slice A1 l1.length c1, .agg #[.int .i64 aj, .int .u32 ax, .slice a6 au.length a7], .agg #[.int .i64 ag, .int .u32 ad, .bool ah, .slice aY ae.length a0, .slice aZ af.length a1]] w fun e w' => ∃ v0_ : Value, e = .returned (.tuple #[v0_, .bool r2]) ∧ Kd.V (Kd.int .i64) 3 w' w.heap.size (fun k_ => (P1_ k_ ∨ w.heap.size ≤ k_)) v0_ r1 ∧ Below w.heap.size w w' := by
 have hu27 := Tryd.underlying27
 have hu30 := Tryd.underlying30
 have hu34 := Tryd.underlying34
 have bd := Aside0.mk hr0_2
 have ba := Aside0.mk hc0_2
 clear hr0_2 hc0_2
 have aN := Aside0.mk (show Kd.V (Kd.int .i64) 3 w w.heap.size (fun k_ => (P1_ k_ ∨ w.heap.size ≤ k_)) (.slice A1 l1.length c1) l1 from Kd.V_mono he (fun k_ hk => .inl hk))
 have bu := Aside0.mk hr2_2
 have bp := Aside0.mk hc2_2
 clear hr2_2 hc2_2
 have be := Aside0.mk hr3_3
 have bb := Aside0.mk hc3_3
 clear hr3_3 hc3_3
 have bf := Aside0.mk hr3_4
 have bc := Aside0.mk hc3_4
 clear hr3_4 hc3_4
 have HB := Aside0.mk (Below.refl w.heap.size w)
 have HG := Aside0.mk hG
 clear hG
 have H : ((spec_fail.f 10).bind fun bt353 => ((spec_Same.f k ag ad ah ae af bt353.1 bt353.2.1 bt353.2.2.1 bt353.2.2.2.1 bt353.2.2.2.2).bind fun bx => (if bx = true then (spec_Legal.j0 k l1 true am an al ao ap aq ar aj ax au ag ad ah ae af) else ((spec_fail.f 12).bind fun bt363 => ((spec_Same.f k ag ad ah ae af bt363.1 bt363.2.1 bt363.2.2.1 bt363.2.2.2.1 bt363.2.2.2.2).bind fun a5 => (spec_Legal.j0 k l1 a5 am an al ao ap aq ar aj ax au ag ad ah ae af)))))) = some (r1, r2) := h
 clear h
 have ei := Aside0.mk H
 clear H
 go_enter Tryd.func13, Tryd.ntmps13
 go_upto_region 1 with (first | ((with_reducible refine gd_ 4 ?_); refine box_event ?hg (N := 4) ?hd (cs := #[.int .u32 am, .int .i64 an, .slice bk al.length bl, .int .i64 ao, .int .i64 ap, .int .i64 aq, .int .i64 ar]) (t := 27) ?hr ?_; (case hd => rfl); (case hg => rfl); (case hr => first | (go_simp; done) | (go_simp; rfl)); intro aK hg w6 hbox hb; replace aN := vE_ aN hg hb; have aa := Aside0.mk (hbox); have hl := gG_ hg HB; have hf := gG_ hg HB; replace HB := hS_ HB hb; clear hb hbox hg) | ((with_reducible refine gd_ 6 ?_); refine box_event ?hg (N := 6) ?hd (cs := #[.int .i64 aj, .int .u32 ax, .slice a6 au.length a7]) (t := 30) ?hr ?_; (case hd => rfl); (case hg => rfl); (case hr => first | (go_simp; done) | (go_simp; rfl)); intro aE hg w7 hbox hb; replace aN := vE_ aN hg hb; have ac := Aside0.mk (hbox); have hm := gG_ hg HB; have hh := gG_ hg HB; replace HB := hS_ HB hb; have aO := nL_ hg aa; have aP := nG_ hg aa; replace aa := bB_ aa hb; clear hb hbox hg) | ((with_reducible refine gd_ 7 ?_); refine box_event ?hg (N := 7) ?hd (cs := #[.int .i64 ag, .int .u32 ad, .bool ah, .slice aY ae.length a0, .slice aZ af.length a1]) (t := 34) ?hr ?_; (case hd => rfl); (case hg => rfl); (case hr => first | (go_simp; done) | (go_simp; rfl)); intro aF hg w8 hbox hb; replace aN := vE_ aN hg hb; have ab := Aside0.mk (hbox); have hn := gG_ hg HB; have hj := gG_ hg HB; have aT := nL_ hg aa; have aU := nG_ hg aa; have aQ := nL_ hg ac; have aR := nG_ hg ac; replace ac := bB_ ac hb; replace aa := bB_ aa hb; replace HB := hS_ HB hb; clear hb hbox hg))
 (try simp only [Act.put, List.setIfInBounds_toArray, List.set_cons_zero, List.set_cons_succ])
 go_cut [21] (fun v21 wc => ∃ (kq : Nat) (bC : Bool), v21 = .bool bC ∧ Aside0 (spec_Legal.j0 kq l1 bC am an al ao ap aq ar aj ax au ag ad ah ae af = some (r1, r2)) ∧ Aside0 (kq ≤ k) ∧ Aside0 (Kd.V (Kd.int .i64) 3 wc w.heap.size (fun k_ => (P1_ k_ ∨ w.heap.size ≤ k_) ∧ k_ ≠ aK ∧ k_ ≠ aE ∧ k_ ≠ aF) (.slice A1 l1.length c1) l1) ∧ Aside0 (wc.heap[aK]? = some (.cells #[.int .u32 am, .int .i64 an, (.slice bk al.length bl), .int .i64 ao, .int .i64 ap, .int .i64 aq, .int .i64 ar] 27 (0, 0))) ∧ Aside0 (wc.heap[aE]? = some (.cells #[.int .i64 aj, .int .u32 ax, (.slice a6 au.length a7)] 30 (0, 0))) ∧ Aside0 (wc.heap[aF]? = some (.cells #[.int .i64 ag, .int .u32 ad, .bool ah, (.slice aY ae.length a0), (.slice aZ af.length a1)] 34 (0, 0))) ∧ Aside0 (Below w.heap.size w wc))
 case first =>
  have H := ei.out; clear ei; replace H := bi_ H; obtain ⟨⟨bD, bE, bF, bG, bH⟩, A90, H⟩ := H
  replace H : ((spec_Same.f k ag ad ah ae af bD bE bF bG bH).bind fun bx => (if bx = true then (spec_Legal.j0 k l1 true am an al ao ap aq ar aj ax au ag ad ah ae af) else ((spec_fail.f 12).bind fun bt363 => ((spec_Same.f k ag ad ah ae af bt363.1 bt363.2.1 bt363.2.2.1 bt363.2.2.2.1 bt363.2.2.2.2).bind fun a5 => (spec_Legal.j0 k l1 a5 am an al ao ap aq ar aj ax au ag ad ah ae af))))) = some (r1, r2) := H
  have A9 := Aside0.mk A90; clear A90; replace H := bi_ H; obtain ⟨bx, A100, H⟩ := H
  replace H : (if bx = true then (spec_Legal.j0 k l1 true am an al ao ap aq ar aj ax au ag ad ah ae af) else ((spec_fail.f 12).bind fun bt363 => ((spec_Same.f k ag ad ah ae af bt363.1 bt363.2.1 bt363.2.2.1 bt363.2.2.2.1 bt363.2.2.2.2).bind fun a5 => (spec_Legal.j0 k l1 a5 am an al ao ap aq ar aj ax au ag ad ah ae af)))) = some (r1, r2) := H
  have A10 := Aside0.mk A100; clear A100
  by_cases c11 : bx = true
  ·subst c11
   have H1 : (spec_Legal.j0 k l1 true am an al ao ap aq ar aj ax au ag ad ah ae af) = some (r1, r2) := pf_ rfl H
   clear H; have H := H1; clear H1
   have H' := Aside0.mk H
   clear H
   try go_wp2
   replace aN := Aside0.mk (Kd.V_drew aN.out); replace aa := Aside0.mk (blk_drew aa.out); replace ac := Aside0.mk (blk_drew ac.out); replace ab := Aside0.mk (blk_drew ab.out); replace HB := Aside0.mk (below_drew1 HB.out)
   refine start_ (n := 8) (S := fun w' => L5_ w' aF (.int .i64 ag) (.int .u32 ad) (.bool ah) (.slice aY ae.length a0) (.slice aZ af.length a1)) (ds := []) (tf 8 0) (by kernel_rfl) rfl rfl (cl5_ ab) (fun hHeld => ?_); refine with_tabW spec_Legal.tab1 spec_Legal.bits1 (fun HT_ HW_ => ?_)
   generalize w8.drew = w12 at aN aa ac ab HB hHeld ⊢
   refine tkU_ 0 14 (tf 8 1) rfl rfl HT_ HW_ hHeld (by rintro w' ⟨s0, s1, s2, s3, s4⟩; go_simp; with_reducible rfl) ?_
   refine on_ (i := 1) (N := some 15) (tf 8 3) HT_ (fun K hK => ?_)
   refine gN_ Tryd.func31 (spec_fail.calls 10 bD bE bF bG bH _ A9.out) ?_
   rintro e w13 ⟨v357, v360, rfl, ho0, ho1, hb⟩
   refine ⟨_, rfl, ?_⟩
   replace aN := Aside0.mk (Kd.V_mono (Kd.V_told (Kd.V_told (Kd.V_old (vV_ aN) hb) (Kd.R_base ho0)) (Kd.R_base ho1)) (fun _ h_ => h_.1)); have aL := Aside0.mk (Kd.R_lower (Kd.R_newM (M := fun k_ => (w.heap.size ≤ k_)) ho0 (below_size (hB_ HB)) (fun k_ h_ => h_)) (below_size (hB_ HB))); have aM := Aside0.mk (Kd.R_lower (Kd.R_newM (M := fun k_ => (w.heap.size ≤ k_)) ho1 (below_size (hB_ HB)) (fun k_ h_ => h_)) (below_size (hB_ HB))); replace aa := bB_ aa hb; replace ac := bB_ ac hb; replace ab := bB_ ab hb; replace HB := hS_ HB hb
   (try clear hb)
   (try clear hb2)
   (try clear hk)
   (try clear hi)
   (try clear ho0)
   (try clear ho1)
   obtain ⟨h9, il, eo14⟩ := Kd.R_slice aL.out
   (first | subst eo14 | (injection eo14 with f1_ f2_ f3_; have f4_ := f1_.symm; have f5_ := f3_.symm; clear f1_ f2_ f3_; subst f4_; subst f5_))
   obtain ⟨ia, im, eo15⟩ := Kd.R_slice aM.out
   (first | subst eo15 | (injection eo15 with f1_ f2_ f3_; have f4_ := f1_.symm; have f5_ := f3_.symm; clear f1_ f2_ f3_; subst f4_; subst f5_))
   refine hK.out _ _ (cl5_ ab) (fun hHeld => ?_)
   clear hK K
   refine norm_ (a' := ?_) ?_ ?_
   rotate_left
   ·show Act.put _ (some 15) _ = _
    simp only [Act.put, List.setIfInBounds_toArray, List.set_cons_zero, List.set_cons_succ, i64_w, i32_w]
    rfl
   refine on_ (i := 2) (N := some 16) (tf 8 7) HT_ (fun K hK => ?_)
   refine gN_ Tryd.func19 (spec_Same.calls k ag ad ah _ _ ae _ _ af bD bE bF _ _ bG _ _ bH true _ (cC_ be HB) bb.out (cC_ bf HB) bc.out (cD_ (Kd.R_reads' aL.out).2.2) ((Kd.R_reads' aL.out).2.1) (cD_ (Kd.R_reads' aM.out).2.2) ((Kd.R_reads' aM.out).2.1) A10.out) ?_
   rintro e w16 ⟨rfl, hb⟩
   refine ⟨_, rfl, ?_⟩
   replace aN := vB_ aN hb; replace aL := rB_ aL hb; replace aM := rB_ aM hb; replace aa := bB_ aa hb; replace ac := bB_ ac hb; replace ab := bB_ ab hb; replace HB := hS_ HB hb
   (try clear hb)
   (try clear hb2)
   (try clear hk)
   (try clear hi)
   refine hK.out _ _ (cl5_ ab) (fun hHeld => ?_)
   clear hK K
   refine norm_ (a' := ?_) ?_ ?_
   rotate_left
   ·show Act.put _ (some 16) _ = _
    simp only [Act.put, List.setIfInBounds_toArray, List.set_cons_zero, List.set_cons_succ, i64_w, i32_w]
    rfl
   refine puU_ 3 17 (tf 8 15) HT_ ?_; refine pnU_ 4 18 (tf 8 31) HT_ ?_; refine pnU_ 5 19 (tf 8 63) HT_ ?_; refine pnU_ 6 20 (tf 8 127) HT_ ?_; refine puU_ 7 21 (tf 8 255) HT_ ?_
   refine done_ (done_of HT_.out (by kernel_rfl)) ?_
   try go_wp2
   go_meet
   case rel => exact ⟨_, (true), rs_, H', ⟨by first | omega | exact Nat.le_refl _⟩, ⟨Kd.V_mono (vV_ aN) (fun _ hk => ⟨hk.1.1.1.1.1, ⟨hk.1.1.1.1.2, ⟨hk.1.1.1.2, hk.1.1.2⟩⟩⟩)⟩, ⟨bk_ aa⟩, ⟨bk_ ac⟩, ⟨bk_ ab⟩, ⟨hB_ HB⟩⟩
  ·replace c11 := Bool.eq_false_iff.mpr c11
   subst c11
   have H1 : ((spec_fail.f 12).bind fun bt363 => ((spec_Same.f k ag ad ah ae af bt363.1 bt363.2.1 bt363.2.2.1 bt363.2.2.2.1 bt363.2.2.2.2).bind fun a5 => (spec_Legal.j0 k l1 a5 am an al ao ap aq ar aj ax au ag ad ah ae af))) = some (r1, r2) := nf_ H
   clear H; have H := H1; clear H1; replace H := bi_ H; obtain ⟨⟨dE, dF, dG, dH, dI⟩, A170, H⟩ := H
   replace H : ((spec_Same.f k ag ad ah ae af dE dF dG dH dI).bind fun a5 => (spec_Legal.j0 k l1 a5 am an al ao ap aq ar aj ax au ag ad ah ae af)) = some (r1, r2) := H
   have A17 := Aside0.mk A170; clear A170; replace H := bi_ H; obtain ⟨a5, A180, H⟩ := H
   replace H : (spec_Legal.j0 k l1 a5 am an al ao ap aq ar aj ax au ag ad ah ae af) = some (r1, r2) := H
   have A18 := Aside0.mk A180; clear A180
   have H' := Aside0.mk H
   clear H
   try go_wp2
   replace aN := Aside0.mk (Kd.V_drew aN.out); replace aa := Aside0.mk (blk_drew aa.out); replace ac := Aside0.mk (blk_drew ac.out); replace ab := Aside0.mk (blk_drew ab.out); replace HB := Aside0.mk (below_drew1 HB.out)
   refine start_ (n := 8) (S := fun w' => L5_ w' aF (.int .i64 ag) (.int .u32 ad) (.bool ah) (.slice aY ae.length a0) (.slice aZ af.length a1)) (ds := []) (tf 8 0) (by kernel_rfl) rfl rfl (cl5_ ab) (fun hHeld => ?_); refine with_tabW spec_Legal.tab1 spec_Legal.bits1 (fun HT_ HW_ => ?_)
   generalize w8.drew = w19 at aN aa ac ab HB hHeld ⊢
   refine tkU_ 0 14 (tf 8 1) rfl rfl HT_ HW_ hHeld (by rintro w' ⟨s0, s1, s2, s3, s4⟩; go_simp; with_reducible rfl) ?_
   refine on_ (i := 1) (N := some 15) (tf 8 3) HT_ (fun K hK => ?_)
   refine gN_ Tryd.func31 (spec_fail.calls 10 bD bE bF bG bH _ A9.out) ?_
   rintro e w20 ⟨v357, v360, rfl, ho0, ho1, hb⟩
   refine ⟨_, rfl, ?_⟩
   replace aN := Aside0.mk (Kd.V_mono (Kd.V_told (Kd.V_told (Kd.V_old (vV_ aN) hb) (Kd.R_base ho0)) (Kd.R_base ho1)) (fun _ h_ => h_.1)); have aL := Aside0.mk (Kd.R_lower (Kd.R_newM (M := fun k_ => (w.heap.size ≤ k_)) ho0 (below_size (hB_ HB)) (fun k_ h_ => h_)) (below_size (hB_ HB))); have aM := Aside0.mk (Kd.R_lower (Kd.R_newM (M := fun k_ => (w.heap.size ≤ k_)) ho1 (below_size (hB_ HB)) (fun k_ h_ => h_)) (below_size (hB_ HB))); replace aa := bB_ aa hb; replace ac := bB_ ac hb; replace ab := bB_ ab hb; replace HB := hS_ HB hb
   (try clear hb)
   (try clear hb2)
   (try clear hk)
   (try clear hi)
   (try clear ho0)
   (try clear ho1)
   obtain ⟨ib, io, eo21⟩ := Kd.R_slice aL.out
   (first | subst eo21 | (injection eo21 with f1_ f2_ f3_; have f4_ := f1_.symm; have f5_ := f3_.symm; clear f1_ f2_ f3_; subst f4_; subst f5_))
   obtain ⟨ic, ip, eo22⟩ := Kd.R_slice aM.out
   (first | subst eo22 | (injection eo22 with f1_ f2_ f3_; have f4_ := f1_.symm; have f5_ := f3_.symm; clear f1_ f2_ f3_; subst f4_; subst f5_))
   refine hK.out _ _ (cl5_ ab) (fun hHeld => ?_)
   clear hK K
   refine norm_ (a' := ?_) ?_ ?_
   rotate_left
   ·show Act.put _ (some 15) _ = _
    simp only [Act.put, List.setIfInBounds_toArray, List.set_cons_zero, List.set_cons_succ, i64_w, i32_w]
    rfl
   refine on_ (i := 2) (N := some 16) (tf 8 7) HT_ (fun K hK => ?_)
   refine gN_ Tryd.func19 (spec_Same.calls k ag ad ah _ _ ae _ _ af bD bE bF _ _ bG _ _ bH false _ (cC_ be HB) bb.out (cC_ bf HB) bc.out (cD_ (Kd.R_reads' aL.out).2.2) ((Kd.R_reads' aL.out).2.1) (cD_ (Kd.R_reads' aM.out).2.2) ((Kd.R_reads' aM.out).2.1) A10.out) ?_
   rintro e w23 ⟨rfl, hb⟩
   refine ⟨_, rfl, ?_⟩
   replace aN := vB_ aN hb; replace aL := rB_ aL hb; replace aM := rB_ aM hb; replace aa := bB_ aa hb; replace ac := bB_ ac hb; replace ab := bB_ ab hb; replace HB := hS_ HB hb
   (try clear hb)
   (try clear hb2)
   (try clear hk)
   (try clear hi)
   refine hK.out _ _ (cl5_ ab) (fun hHeld => ?_)
   clear hK K
   refine norm_ (a' := ?_) ?_ ?_
   rotate_left
   ·show Act.put _ (some 16) _ = _
    simp only [Act.put, List.setIfInBounds_toArray, List.set_cons_zero, List.set_cons_succ, i64_w, i32_w]
    rfl
   refine puU_ 3 17 (tf 8 15) HT_ ?_; refine tkU_ 4 18 (tf 8 31) rfl rfl HT_ HW_ hHeld (by rintro w' ⟨s0, s1, s2, s3, s4⟩; go_simp; with_reducible rfl) ?_
   refine on_ (i := 5) (N := some 19) (tf 8 63) HT_ (fun K hK => ?_)
   refine gN_ Tryd.func31 (spec_fail.calls 12 dE dF dG dH dI _ A17.out) ?_
   rintro e w24 ⟨v367, v370, rfl, ho0, ho1, hb⟩
   refine ⟨_, rfl, ?_⟩
   replace aN := Aside0.mk (Kd.V_mono (Kd.V_told (Kd.V_told (Kd.V_old (vV_ aN) hb) (Kd.R_base ho0)) (Kd.R_base ho1)) (fun _ h_ => h_.1)); have bq := Aside0.mk (Kd.R_lower (Kd.R_new' (Kd.R_newM (M := fun k_ => (w.heap.size ≤ k_)) ho0 (below_size (hB_ HB)) (fun k_ h_ => h_)) (Kd.R_lt (rR_ aL))) (below_size (hB_ HB))); replace aL := Aside0.mk (Kd.R_elder' (rR_ aL) (Kd.R_base ho0) hb); have br := Aside0.mk (Kd.R_lower (Kd.R_new' (Kd.R_newM (M := fun k_ => (w.heap.size ≤ k_)) ho1 (below_size (hB_ HB)) (fun k_ h_ => h_)) (Kd.R_lt (rR_ aM))) (below_size (hB_ HB))); replace aM := Aside0.mk (Kd.R_elder' (rR_ aM) (Kd.R_base ho1) hb); replace aa := bB_ aa hb; replace ac := bB_ ac hb; replace ab := bB_ ab hb; replace HB := hS_ HB hb
   (try clear hb)
   (try clear hb2)
   (try clear hk)
   (try clear hi)
   (try clear ho0)
   (try clear ho1)
   obtain ⟨ie, iq, eo25⟩ := Kd.R_slice bq.out
   (first | subst eo25 | (injection eo25 with f1_ f2_ f3_; have f4_ := f1_.symm; have f5_ := f3_.symm; clear f1_ f2_ f3_; subst f4_; subst f5_))
   obtain ⟨ig, ir, eo26⟩ := Kd.R_slice br.out
   (first | subst eo26 | (injection eo26 with f1_ f2_ f3_; have f4_ := f1_.symm; have f5_ := f3_.symm; clear f1_ f2_ f3_; subst f4_; subst f5_))
   refine hK.out _ _ (cl5_ ab) (fun hHeld => ?_)
   clear hK K
   refine norm_ (a' := ?_) ?_ ?_
   rotate_left
   ·show Act.put _ (some 19) _ = _
    simp only [Act.put, List.setIfInBounds_toArray, List.set_cons_zero, List.set_cons_succ, i64_w, i32_w]
    rfl
   refine on_ (i := 6) (N := some 20) (tf 8 127) HT_ (fun K hK => ?_)
   refine gN_ Tryd.func19 (spec_Same.calls k ag ad ah _ _ ae _ _ af dE dF dG _ _ dH _ _ dI a5 _ (cC_ be HB) bb.out (cC_ bf HB) bc.out (cD_ (Kd.R_reads' bq.out).2.2) ((Kd.R_reads' bq.out).2.1) (cD_ (Kd.R_reads' br.out).2.2) ((Kd.R_reads' br.out).2.1) A18.out) ?_
   rintro e w27 ⟨rfl, hb⟩
   refine ⟨_, rfl, ?_⟩
   replace aN := vB_ aN hb; replace aL := rB_ aL hb; replace aM := rB_ aM hb; replace bq := rB_ bq hb; replace br := rB_ br hb; replace aa := bB_ aa hb; replace ac := bB_ ac hb; replace ab := bB_ ab hb; replace HB := hS_ HB hb
   (try clear hb)
   (try clear hb2)
   (try clear hk)
   (try clear hi)
   refine hK.out _ _ (cl5_ ab) (fun hHeld => ?_)
   clear hK K
   refine norm_ (a' := ?_) ?_ ?_
   rotate_left
   ·show Act.put _ (some 20) _ = _
    simp only [Act.put, List.setIfInBounds_toArray, List.set_cons_zero, List.set_cons_succ, i64_w, i32_w]
    rfl
   refine puU_ 7 21 (tf 8 255) HT_ ?_
   refine done_ (done_of HT_.out (by kernel_rfl)) ?_
   try go_wp2
   go_meet
   case rel => exact ⟨_, (a5), rs_, H', ⟨by first | omega | exact Nat.le_refl _⟩, ⟨Kd.V_mono (vV_ aN) (fun _ hk => ⟨hk.1.1.1.1.1.1.1, ⟨hk.1.1.1.1.1.1.2, ⟨hk.1.1.1.1.1.2, hk.1.1.1.1.2⟩⟩⟩)⟩, ⟨bk_ aa⟩, ⟨bk_ ac⟩, ⟨bk_ ab⟩, ⟨hB_ HB⟩⟩
 case rest =>
  clear ei
  try clear c1
  try clear c2
  try clear p2
  try clear c3
  try clear c11
  try clear c13
  try clear c19
  obtain ⟨kq, bC, rfl, HA, dQ, ai, aa, ac, ab, HB⟩ := hcut
  cases kq with
  | zero => exact absurd HA.out (by simp [spec_Legal.j0])
  | succ kj4 =>
   have H := HA.out; clear HA; simp only [spec_Legal.j0] at H
   by_cases c28 : bC = true
   ·subst c28
    have H1 : (some (l1, true)) = some (r1, r2) := pf_ rfl H
    clear H; have H := H1; clear H1; simp only [Option.some.injEq, Prod.mk.injEq] at H; obtain ⟨rfl, rfl⟩ := H
    go_wp2
    go_ret2
    exact ⟨_, er_, Kd.V_mono (vV_ ai) (fun _ hk => hk.1), hB_ HB⟩
   ·replace c28 := Bool.eq_false_iff.mpr c28
    subst c28
    have H1 : ((spec_Some.f kj4 am an al ao ap aq ar l1 aj ax au).bind fun bt373 => ((spec_Same.f kj4 ag ad ah ae af bt373.2.1 bt373.2.2.1 bt373.2.2.2.1 bt373.2.2.2.2.1 bt373.2.2.2.2.2).bind fun bA => (if bA = true then (some (bt373.1, true)) else ((ask_Check.f kj4 am an al ao ap aq ar aj ax au).bind fun aW => (if aW = 0 then (if aj = 6 then ((spec_fail.f 11).bind fun bt388 => ((spec_Same.f kj4 ag ad ah ae af bt388.1 bt388.2.1 bt388.2.2.1 bt388.2.2.2.1 bt388.2.2.2.2).bind fun aX => (spec_Legal.j1 kj4 l1 aX am an al ao ap aq ar aj ax au ag ad ah ae af))) else (spec_Legal.j1 kj4 l1 false am an al ao ap aq ar aj ax au ag ad ah ae af)) else (some (l1, false))))))) = some (r1, r2) := nf_ H
    clear H; have H := H1; clear H1; replace H := bi_ H; obtain ⟨⟨bz, a2, a3, a4, aC, aD⟩, A290, H⟩ := H
    replace H : ((spec_Same.f kj4 ag ad ah ae af a2 a3 a4 aC aD).bind fun bA => (if bA = true then (some (bz, true)) else ((ask_Check.f kj4 am an al ao ap aq ar aj ax au).bind fun aW => (if aW = 0 then (if aj = 6 then ((spec_fail.f 11).bind fun bt388 => ((spec_Same.f kj4 ag ad ah ae af bt388.1 bt388.2.1 bt388.2.2.1 bt388.2.2.2.1 bt388.2.2.2.2).bind fun aX => (spec_Legal.j1 kj4 l1 aX am an al ao ap aq ar aj ax au ag ad ah ae af))) else (spec_Legal.j1 kj4 l1 false am an al ao ap aq ar aj ax au ag ad ah ae af)) else (some (l1, false)))))) = some (r1, r2) := H
    have A29 := Aside0.mk A290; clear A290; replace H := bi_ H; obtain ⟨bA, A300, H⟩ := H
    replace H : (if bA = true then (some (bz, true)) else ((ask_Check.f kj4 am an al ao ap aq ar aj ax au).bind fun aW => (if aW = 0 then (if aj = 6 then ((spec_fail.f 11).bind fun bt388 => ((spec_Same.f kj4 ag ad ah ae af bt388.1 bt388.2.1 bt388.2.2.1 bt388.2.2.2.1 bt388.2.2.2.2).bind fun aX => (spec_Legal.j1 kj4 l1 aX am an al ao ap aq ar aj ax au ag ad ah ae af))) else (spec_Legal.j1 kj4 l1 false am an al ao ap aq ar aj ax au ag ad ah ae af)) else (some (l1, false))))) = some (r1, r2) := H
    have A30 := Aside0.mk A300; clear A300
    by_cases c31 : bA = true
    ·subst c31
     have H1 : (some (bz, true)) = some (r1, r2) := pf_ rfl H
     clear H; have H := H1; clear H1; simp only [Option.some.injEq, Prod.mk.injEq] at H; obtain ⟨rfl, rfl⟩ := H; have ho := aO.out; have hN := aP.out; have hp := aT.out; have hO := aU.out; obtain ⟨bJ, bK, bL, bM, bN, bO, bP, cy, cz, cA, cB, cC, cD, cE⟩ := cz7_ (w := wc) aa; have hq := aQ.out; have hP := aR.out; obtain ⟨bQ, bR, bS, cF, cG, cH⟩ := cz3_ (w := wc) ac
     go_wp2_with (first | ((with_reducible refine gate_callee (f := 15) rfl ?_); refine gM_ (some 27) Tryd.func15 (spec_Some.calls kj4 am an _ _ al ao ap aq ar (fun k_ => ((P1_ k_ ∨ w.heap.size ≤ k_) ∧ (k_ ≠ aK ∧ (k_ ≠ aE ∧ k_ ≠ aF)))) _ _ l1 aj ax _ _ au bz a2 a3 a4 aC aD _ (cC_ bd HB) ba.out ai.out (cC_ bu HB) bp.out (Lg_below HG.out (hB_ HB)) A29.out) ?_; rintro e w37 ⟨v374, v380, v383, rfl, ho0, ho1, ho2, hb⟩; refine ⟨_, rfl, ?_⟩; replace ai := Aside0.mk (Kd.V_mono (Kd.V_told (Kd.V_told (Kd.V_old (vV_ ai) hb) (Kd.R_base ho1)) (Kd.R_base ho2)) (fun _ h_ => h_.1)); have az := Aside0.mk (Kd.V_lower (Kd.V_mono (ok' := fun k_ => (P1_ k_ ∨ w.heap.size ≤ k_) ∧ some k_ ≠ (v380 : Value).ownBlock ∧ some k_ ≠ (v383 : Value).ownBlock ∧ k_ ≠ aK ∧ k_ ≠ aE ∧ k_ ≠ aF) ho0 (fun k_ hk_ => ⟨Or.elim hk_.1 (fun hs_ => hs_.1) (fun hn_ => (.inr (Nat.le_trans (below_size (hB_ HB)) hn_))), hk_.2.1, hk_.2.2, Or.elim hk_.1 (fun hs_ => hs_.2.1) (fun hn_ => (fB_ aa k_ hn_)), Or.elim hk_.1 (fun hs_ => hs_.2.2.1) (fun hn_ => (fB_ ac k_ hn_)), Or.elim hk_.1 (fun hs_ => hs_.2.2.2) (fun hn_ => (fB_ ab k_ hn_))⟩)) (below_size (hB_ HB))); have av := Aside0.mk (Kd.R_lower (Kd.R_newM (M := fun k_ => (w.heap.size ≤ k_)) (Kd.R_mono (ok' := fun k_ => True) ho1 (fun _ hk_ => trivial)) (below_size (hB_ HB)) (fun k_ h_ => h_)) (below_size (hB_ HB))); have aw := Aside0.mk (Kd.R_lower (Kd.R_newM (M := fun k_ => (w.heap.size ≤ k_)) (Kd.R_mono (ok' := fun k_ => True) ho2 (fun _ hk_ => trivial)) (below_size (hB_ HB)) (fun k_ h_ => h_)) (below_size (hB_ HB))); replace ac := bB_ ac hb; replace HB := hS_ HB hb; replace aa := bB_ aa hb; replace ab := bB_ ab hb; (try clear hb); (try clear ho0); (try clear ho1); (try clear ho2)) | ((with_reducible refine gd_ 11 ?_); refine box_event ?hg (N := 11) ?hd (cs := #[.int .i64 0, .int .u32 0, .bool false, .slice none 0 0, .slice none 0 0]) (t := 34) ?hr ?_; (case hd => rfl); (case hg => rfl); (case hr => first | (go_simp; done) | (go_simp; rfl)); intro ay hg w38 hbox hb; replace ai := vE_ ai hg hb; replace az := vE_ az hg hb; replace av := rB_ av hb; replace aw := rB_ aw hb; have ak := Aside0.mk (hbox); have dP := gG_ hg HB; have dO := gG_ hg HB; replace HB := hS_ HB hb; have aA := nL_ hg aa; have aS := nG_ hg aa; have aI := nL_ hg ac; have aV := nG_ hg ac; replace ac := bB_ ac hb; have aB := nL_ hg ab; have aJ := nG_ hg ab; replace aa := bB_ aa hb; replace ab := bB_ ab hb; clear hb hbox hg; have hs := aS.out; have hQ := aA.out; have ht := aV.out; have hR := aI.out; have hu := aJ.out; have hS := aB.out; obtain ⟨bT, bU, bV, bW, bX, cI, cJ, cK, cL, cM⟩ := cz5_ (w := w38) ak; obtain ⟨eg, dC, eo43⟩ := Kd.R_slice av.out; subst eo43; obtain ⟨eh, dD, eo44⟩ := Kd.R_slice aw.out; subst eo44; obtain ⟨bY, bZ, b0, b1, b2, cN, cO, cP, cQ, cR⟩ := cz5_ (w := w38) ab) | ((with_reducible refine gate_callee (f := 19) rfl ?_); refine gL_ (some 33) Tryd.func19 #[.agg #[.int .i64 ag, .int .u32 ad, .bool ah, .slice aY ae.length a0, .slice aZ af.length a1], .agg #[.int .i64 a2, .int .u32 a3, .bool a4, .slice eg aC.length dC, .slice eh aD.length dD]] ?_; (with_reducible refine (spec_Same.calls kj4 ag ad ah _ _ ae _ _ af a2 a3 a4 _ _ aC _ _ aD true _ ?side1 ?side2 ?side3 ?side4 ?side5 ?side6 ?side7 ?side8 A30.out).mono ?_); (case side1 => exact Kd.C_below be.out (hB_ HB)); (case side2 => exact bb.out); (case side3 => exact Kd.C_below bf.out (hB_ HB)); (case side4 => exact bc.out); (case side5 => refine (Kd.R_reads' (e := 22) (base := w.heap.size) (ok := fun k_ => ((w.heap.size ≤ k_) ∧ True)) (n := aC.length) (c := dC) ?_).2.2; exact (by (with_reducible repeat (first | apply Kd.R_alloc | apply Kd.R_drewN | apply Kd.R_drew)); exact (Kd.R_mono (rF5_ (g := ay) (Kd.R_types av.out ak.out (by decide)) (fun _ hk => hk.2)) (fun _ h_ => h_.1)))); (case side6 => exact (Kd.R_reads' av.out).2.1); (case side7 => refine (Kd.R_reads' (e := 31) (base := w.heap.size) (ok := fun k_ => ((w.heap.size ≤ k_) ∧ True)) (n := aD.length) (c := dD) ?_).2.2; exact (by (with_reducible repeat (first | apply Kd.R_alloc | apply Kd.R_drewN | apply Kd.R_drew)); exact (Kd.R_mono (rF5_ (g := ay) (Kd.R_types aw.out ak.out (by decide)) (fun _ hk => hk.2)) (fun _ h_ => h_.1)))); (case side8 => exact (Kd.R_reads' aw.out).2.1); rintro e w46 ⟨rfl, hb⟩; refine ⟨_, rfl, ?_⟩; replace ai := Aside0.mk (Kd.V_below (by (with_reducible repeat (first | apply Kd.V_alloc | apply Kd.V_drewN | apply Kd.V_drew)); exact (Kd.V_mono (vF5_ (g := ay) (Kd.V_mono ai.out (fun k_ hk => (⟨hk, hk.2⟩ : _ ∧ k_ ≠ ay))) (fun _ hk => hk.2)) (fun _ h_ => h_.1))) hb); replace az := Aside0.mk (Kd.V_below (by (with_reducible repeat (first | apply Kd.V_alloc | apply Kd.V_drewN | apply Kd.V_drew)); exact (Kd.V_mono (vF5_ (g := ay) (Kd.V_mono az.out (fun k_ hk => (⟨hk, hk.2⟩ : _ ∧ k_ ≠ ay))) (fun _ hk => hk.2)) (fun _ h_ => h_.1))) hb); replace av := Aside0.mk (Kd.R_below (by (with_reducible repeat (first | apply Kd.R_alloc | apply Kd.R_drewN | apply Kd.R_drew)); exact (Kd.R_mono (rF5_ (g := ay) (Kd.R_types av.out ak.out (by decide)) (fun _ hk => hk.2)) (fun _ h_ => h_.1))) hb); replace aw := Aside0.mk (Kd.R_below (by (with_reducible repeat (first | apply Kd.R_alloc | apply Kd.R_drewN | apply Kd.R_drew)); exact (Kd.R_mono (rF5_ (g := ay) (Kd.R_types aw.out ak.out (by decide)) (fun _ hk => hk.2)) (fun _ h_ => h_.1))) hb); replace aa := Aside0.mk (blk_below (g := aK) (o := .cells #[.int .u32 am, .int .i64 an, .slice bk al.length bl, .int .i64 ao, .int .i64 ap, .int .i64 aq, .int .i64 ar] 27 (0, 0)) (by refine bp_ ?_; refine bF5_ ?_ aA.out; refine bp_ ?_; exact aa.out) hb); replace ac := Aside0.mk (blk_below (g := aE) (o := .cells #[.int .i64 aj, .int .u32 ax, .slice a6 au.length a7] 30 (0, 0)) (by refine bp_ ?_; refine bF5_ ?_ aI.out; refine bp_ ?_; exact ac.out) hb); replace ab := Aside0.mk (blk_below (g := aF) (o := .cells #[.int .i64 ag, .int .u32 ad, .bool ah, .slice aY ae.length a0, .slice aZ af.length a1] 34 (0, 0)) (by refine bp_ ?_; refine bF5_ ?_ aB.out; refine bp_ ?_; exact ab.out) hb); replace ak := Aside0.mk (blk_below (g := ay) (o := .cells #[.int .i64 a2, .int .u32 a3, .bool a4, .slice eg aC.length dC, .slice eh aD.length dD] 34 (0, 0)) (by refine bp_ ?_; apply bS5_; refine bp_ ?_; exact ak.out) hb); replace HB := hS_ HB hb; (try clear hb)))
     go_ret2
     exact ⟨_, er_, Kd.V_mono (vV_ az) (fun _ hk => hk.1.1), hB_ HB⟩
    ·replace c31 := Bool.eq_false_iff.mpr c31
     subst c31
     have H1 : ((ask_Check.f kj4 am an al ao ap aq ar aj ax au).bind fun aW => (if aW = 0 then (if aj = 6 then ((spec_fail.f 11).bind fun bt388 => ((spec_Same.f kj4 ag ad ah ae af bt388.1 bt388.2.1 bt388.2.2.1 bt388.2.2.2.1 bt388.2.2.2.2).bind fun aX => (spec_Legal.j1 kj4 l1 aX am an al ao ap aq ar aj ax au ag ad ah ae af))) else (spec_Legal.j1 kj4 l1 false am an al ao ap aq ar aj ax au ag ad ah ae af)) else (some (l1, false)))) = some (r1, r2) := nf_ H
     clear H; have H := H1; clear H1; replace H := bi_ H; obtain ⟨aW, A470, H⟩ := H
     replace H : (if aW = 0 then (if aj = 6 then ((spec_fail.f 11).bind fun bt388 => ((spec_Same.f kj4 ag ad ah ae af bt388.1 bt388.2.1 bt388.2.2.1 bt388.2.2.2.1 bt388.2.2.2.2).bind fun aX => (spec_Legal.j1 kj4 l1 aX am an al ao ap aq ar aj ax au ag ad ah ae af))) else (spec_Legal.j1 kj4 l1 false am an al ao ap aq ar aj ax au ag ad ah ae af)) else (some (l1, false))) = some (r1, r2) := H
     have A47 := Aside0.mk A470; clear A470
     by_cases c48 : aW = 0
     ·rw [if_pos c48] at H
      have dx : (aW == 0) = true := beq_iff_eq.mpr c48
      have dy : (aW != 0) = false := bne_eq_false_iff_eq.mpr c48
      clear c48; have dA := Aside0.mk H; clear H; have hv := aO.out; have hT := aP.out; have hw := aT.out; have hU := aU.out; obtain ⟨b3, b4, b5, b6, b7, b8, b9, cS, cT, cU, cV, cW, cX, cY⟩ := cz7_ (w := wc) aa; have hx := aQ.out; have hV := aR.out; obtain ⟨ca, cb, cc, cZ, c0, da⟩ := cz3_ (w := wc) ac
      go_upto_region 7 with (first | ((with_reducible refine gate_callee (f := 15) rfl ?_); refine gM_ (some 27) Tryd.func15 (spec_Some.calls kj4 am an _ _ al ao ap aq ar (fun k_ => ((P1_ k_ ∨ w.heap.size ≤ k_) ∧ (k_ ≠ aK ∧ (k_ ≠ aE ∧ k_ ≠ aF)))) _ _ l1 aj ax _ _ au bz a2 a3 a4 aC aD _ (cC_ bd HB) ba.out ai.out (cC_ bu HB) bp.out (Lg_below HG.out (hB_ HB)) A29.out) ?_; rintro e w55 ⟨v374, v380, v383, rfl, ho0, ho1, ho2, hb⟩; refine ⟨_, rfl, ?_⟩; replace ai := Aside0.mk (Kd.V_mono (Kd.V_told (Kd.V_told (Kd.V_old (vV_ ai) hb) (Kd.R_base ho1)) (Kd.R_base ho2)) (fun _ h_ => h_.1)); have az := Aside0.mk (Kd.V_lower (Kd.V_mono (ok' := fun k_ => (P1_ k_ ∨ w.heap.size ≤ k_) ∧ some k_ ≠ (v380 : Value).ownBlock ∧ some k_ ≠ (v383 : Value).ownBlock ∧ k_ ≠ aK ∧ k_ ≠ aE ∧ k_ ≠ aF) ho0 (fun k_ hk_ => ⟨Or.elim hk_.1 (fun hs_ => hs_.1) (fun hn_ => (.inr (Nat.le_trans (below_size (hB_ HB)) hn_))), hk_.2.1, hk_.2.2, Or.elim hk_.1 (fun hs_ => hs_.2.1) (fun hn_ => (fB_ aa k_ hn_)), Or.elim hk_.1 (fun hs_ => hs_.2.2.1) (fun hn_ => (fB_ ac k_ hn_)), Or.elim hk_.1 (fun hs_ => hs_.2.2.2) (fun hn_ => (fB_ ab k_ hn_))⟩)) (below_size (hB_ HB))); have av := Aside0.mk (Kd.R_lower (Kd.R_newM (M := fun k_ => (w.heap.size ≤ k_)) (Kd.R_mono (ok' := fun k_ => True) ho1 (fun _ hk_ => trivial)) (below_size (hB_ HB)) (fun k_ h_ => h_)) (below_size (hB_ HB))); have aw := Aside0.mk (Kd.R_lower (Kd.R_newM (M := fun k_ => (w.heap.size ≤ k_)) (Kd.R_mono (ok' := fun k_ => True) ho2 (fun _ hk_ => trivial)) (below_size (hB_ HB)) (fun k_ h_ => h_)) (below_size (hB_ HB))); replace ac := bB_ ac hb; replace HB := hS_ HB hb; replace aa := bB_ aa hb; replace ab := bB_ ab hb; (try clear hb); (try clear ho0); (try clear ho1); (try clear ho2)) | ((with_reducible refine gd_ 11 ?_); refine box_event ?hg (N := 11) ?hd (cs := #[.int .i64 0, .int .u32 0, .bool false, .slice none 0 0, .slice none 0 0]) (t := 34) ?hr ?_; (case hd => rfl); (case hg => rfl); (case hr => first | (go_simp; done) | (go_simp; rfl)); intro ay hg w56 hbox hb; replace ai := vE_ ai hg hb; replace az := vE_ az hg hb; replace av := rB_ av hb; replace aw := rB_ aw hb; have ak := Aside0.mk (hbox); have dP := gG_ hg HB; have dO := gG_ hg HB; replace HB := hS_ HB hb; have aA := nL_ hg aa; have aS := nG_ hg aa; have aI := nL_ hg ac; have aV := nG_ hg ac; replace ac := bB_ ac hb; have aB := nL_ hg ab; have aJ := nG_ hg ab; replace aa := bB_ aa hb; replace ab := bB_ ab hb; clear hb hbox hg; have hy := aS.out; have hW := aA.out; have hz := aV.out; have hX := aI.out; have hA := aJ.out; have hY := aB.out; obtain ⟨cd, ce, cf, cg, ch, db, dc, dd, de, df⟩ := cz5_ (w := w56) ak; obtain ⟨bg, a8, eo61⟩ := Kd.R_slice av.out; subst eo61; obtain ⟨bh, a9, eo62⟩ := Kd.R_slice aw.out; subst eo62; obtain ⟨ci, cj, ck, cl, cm, dg, dh, di, dj, dk⟩ := cz5_ (w := w56) ab) | ((with_reducible refine gate_callee (f := 19) rfl ?_); refine gL_ (some 33) Tryd.func19 #[.agg #[.int .i64 ag, .int .u32 ad, .bool ah, .slice aY ae.length a0, .slice aZ af.length a1], .agg #[.int .i64 a2, .int .u32 a3, .bool a4, .slice bg aC.length a8, .slice bh aD.length a9]] ?_; (with_reducible refine (spec_Same.calls kj4 ag ad ah _ _ ae _ _ af a2 a3 a4 _ _ aC _ _ aD false _ ?side1 ?side2 ?side3 ?side4 ?side5 ?side6 ?side7 ?side8 A30.out).mono ?_); (case side1 => exact Kd.C_below be.out (hB_ HB)); (case side2 => exact bb.out); (case side3 => exact Kd.C_below bf.out (hB_ HB)); (case side4 => exact bc.out); (case side5 => refine (Kd.R_reads' (e := 22) (base := w.heap.size) (ok := fun k_ => ((w.heap.size ≤ k_) ∧ True)) (n := aC.length) (c := a8) ?_).2.2; exact (by (with_reducible repeat (first | apply Kd.R_alloc | apply Kd.R_drewN | apply Kd.R_drew)); exact (Kd.R_mono (rF5_ (g := ay) (Kd.R_types av.out ak.out (by decide)) (fun _ hk => hk.2)) (fun _ h_ => h_.1)))); (case side6 => exact (Kd.R_reads' av.out).2.1); (case side7 => refine (Kd.R_reads' (e := 31) (base := w.heap.size) (ok := fun k_ => ((w.heap.size ≤ k_) ∧ True)) (n := aD.length) (c := a9) ?_).2.2; exact (by (with_reducible repeat (first | apply Kd.R_alloc | apply Kd.R_drewN | apply Kd.R_drew)); exact (Kd.R_mono (rF5_ (g := ay) (Kd.R_types aw.out ak.out (by decide)) (fun _ hk => hk.2)) (fun _ h_ => h_.1)))); (case side8 => exact (Kd.R_reads' aw.out).2.1); rintro e w64 ⟨rfl, hb⟩; refine ⟨_, rfl, ?_⟩; replace ai := Aside0.mk (Kd.V_below (by (with_reducible repeat (first | apply Kd.V_alloc | apply Kd.V_drewN | apply Kd.V_drew)); exact (Kd.V_mono (vF5_ (g := ay) (Kd.V_mono ai.out (fun k_ hk => (⟨hk, hk.2⟩ : _ ∧ k_ ≠ ay))) (fun _ hk => hk.2)) (fun _ h_ => h_.1))) hb); replace az := Aside0.mk (Kd.V_below (by (with_reducible repeat (first | apply Kd.V_alloc | apply Kd.V_drewN | apply Kd.V_drew)); exact (Kd.V_mono (vF5_ (g := ay) (Kd.V_mono az.out (fun k_ hk => (⟨hk, hk.2⟩ : _ ∧ k_ ≠ ay))) (fun _ hk => hk.2)) (fun _ h_ => h_.1))) hb); replace av := Aside0.mk (Kd.R_below (by (with_reducible repeat (first | apply Kd.R_alloc | apply Kd.R_drewN | apply Kd.R_drew)); exact (Kd.R_mono (rF5_ (g := ay) (Kd.R_types av.out ak.out (by decide)) (fun _ hk => hk.2)) (fun _ h_ => h_.1))) hb); replace aw := Aside0.mk (Kd.R_below (by (with_reducible repeat (first | apply Kd.R_alloc | apply Kd.R_drewN | apply Kd.R_drew)); exact (Kd.R_mono (rF5_ (g := ay) (Kd.R_types aw.out ak.out (by decide)) (fun _ hk => hk.2)) (fun _ h_ => h_.1))) hb); replace aa := Aside0.mk (blk_below (g := aK) (o := .cells #[.int .u32 am, .int .i64 an, .slice bk al.length bl, .int .i64 ao, .int .i64 ap, .int .i64 aq, .int .i64 ar] 27 (0, 0)) (by refine bp_ ?_; refine bF5_ ?_ aA.out; refine bp_ ?_; exact aa.out) hb); replace ac := Aside0.mk (blk_below (g := aE) (o := .cells #[.int .i64 aj, .int .u32 ax, .slice a6 au.length a7] 30 (0, 0)) (by refine bp_ ?_; refine bF5_ ?_ aI.out; refine bp_ ?_; exact ac.out) hb); replace ab := Aside0.mk (blk_below (g := aF) (o := .cells #[.int .i64 ag, .int .u32 ad, .bool ah, .slice aY ae.length a0, .slice aZ af.length a1] 34 (0, 0)) (by refine bp_ ?_; refine bF5_ ?_ aB.out; refine bp_ ?_; exact ab.out) hb); replace ak := Aside0.mk (blk_below (g := ay) (o := .cells #[.int .i64 a2, .int .u32 a3, .bool a4, .slice bg aC.length a8, .slice bh aD.length a9] 34 (0, 0)) (by refine bp_ ?_; apply bS5_; refine bp_ ?_; exact ak.out) hb); replace HB := hS_ HB hb; (try clear hb); obtain ⟨cn, co, cp, cq, cr, ct, cu, dl, dm, dn, dp, dq, dr, dt⟩ := cz7_ (w := w64) aa; obtain ⟨cv, cw, cx, du, dv, dw⟩ := cz3_ (w := w64) ac) | ((with_reducible refine gate_callee (f := 32) rfl ?_); refine gM_ (some 38) Tryd.func32 (ask_Check.calls kj4 am an _ _ al ao ap aq ar aj ax _ _ au aW _ (cC_ bd HB) ba.out (cC_ bu HB) bp.out (Lg_below HG.out (hB_ HB)) A47.out) ?_; rintro e w67 ⟨rfl, hb⟩; refine ⟨_, rfl, ?_⟩; replace ai := vB_ ai hb; replace az := vB_ az hb; replace av := rB_ av hb; replace aw := rB_ aw hb; replace ac := bB_ ac hb; replace ak := bB_ ak hb; replace aa := bB_ aa hb; replace ab := bB_ ab hb; replace HB := hS_ HB hb; (try clear hb)))
      (try simp only [Act.put, List.setIfInBounds_toArray, List.set_cons_zero, List.set_cons_succ])
      go_cut [40] (fun v40 wc => ∃ (kq : Nat) (bv : Bool), v40 = .bool bv ∧ Aside0 (spec_Legal.j1 kq l1 bv am an al ao ap aq ar aj ax au ag ad ah ae af = some (r1, r2)) ∧ Aside0 (kq ≤ kj4) ∧ Aside0 (Kd.V (Kd.int .i64) 3 wc w.heap.size (fun k_ => (P1_ k_ ∨ w.heap.size ≤ k_) ∧ some k_ ≠ ((.slice bg aC.length a8) : Value).ownBlock ∧ some k_ ≠ ((.slice bh aD.length a9) : Value).ownBlock ∧ k_ ≠ aK ∧ k_ ≠ aE ∧ k_ ≠ aF ∧ k_ ≠ ay) (.slice A1 l1.length c1) l1) ∧ Aside0 (Kd.R (Kd.int .u32) 22 wc w.heap.size (fun k_ => (w.heap.size ≤ k_)) (.slice bg aC.length a8) aC) ∧ Aside0 (Kd.R (Kd.int .i64) 31 wc w.heap.size (fun k_ => (w.heap.size ≤ k_)) (.slice bh aD.length a9) aD) ∧ Aside0 (wc.heap[aK]? = some (.cells #[.int .u32 am, .int .i64 an, (.slice bk al.length bl), .int .i64 ao, .int .i64 ap, .int .i64 aq, .int .i64 ar] 27 (0, 0))) ∧ Aside0 (wc.heap[aE]? = some (.cells #[.int .i64 aj, .int .u32 ax, (.slice a6 au.length a7)] 30 (0, 0))) ∧ Aside0 (wc.heap[aF]? = some (.cells #[.int .i64 ag, .int .u32 ad, .bool ah, (.slice aY ae.length a0), (.slice aZ af.length a1)] 34 (0, 0))) ∧ Aside0 (wc.heap[ay]? = some (.cells #[.int .i64 a2, .int .u32 a3, .bool a4, (.slice bg aC.length a8), (.slice bh aD.length a9)] 34 (0, 0))) ∧ Aside0 (Below w.heap.size w wc))
      case first =>
       have H := dA.out; clear dA
       by_cases c68 : aj = 6
       ·rw [if_pos c68] at H
        have bm : (aj == 6) = true := beq_iff_eq.mpr c68
        have dz : (aj != 6) = false := bne_eq_false_iff_eq.mpr c68
        clear c68
        (first | rw [bm] | (simp only [i64_w, i32_w]; rw [bm]) | skip)
        replace H := bi_ H; obtain ⟨⟨dJ, dK, dL, dM, dN⟩, A690, H⟩ := H
        replace H : ((spec_Same.f kj4 ag ad ah ae af dJ dK dL dM dN).bind fun aX => (spec_Legal.j1 kj4 l1 aX am an al ao ap aq ar aj ax au ag ad ah ae af)) = some (r1, r2) := H
        have A69 := Aside0.mk A690; clear A690; replace H := bi_ H; obtain ⟨aX, A700, H⟩ := H
        replace H : (spec_Legal.j1 kj4 l1 aX am an al ao ap aq ar aj ax au ag ad ah ae af) = some (r1, r2) := H
        have A70 := Aside0.mk A700; clear A700
        have H' := Aside0.mk H
        clear H
        try go_wp2
        replace ai := Aside0.mk (Kd.V_drew ai.out); replace az := Aside0.mk (Kd.V_drew az.out); replace av := Aside0.mk (Kd.R_drew av.out); replace aw := Aside0.mk (Kd.R_drew aw.out); replace aa := Aside0.mk (blk_drew aa.out); replace ac := Aside0.mk (blk_drew ac.out); replace ab := Aside0.mk (blk_drew ab.out); replace ak := Aside0.mk (blk_drew ak.out); replace HB := Aside0.mk (below_drew1 HB.out)
        refine start_ (n := 9) (S := fun w' => P3_ w' aE (.int .i64 aj) (.int .u32 ax) (.slice a6 au.length a7) (L5_ w' aF (.int .i64 ag) (.int .u32 ad) (.bool ah) (.slice aY ae.length a0) (.slice aZ af.length a1))) (ds := []) (tf 9 0) (by kernel_rfl) rfl rfl (ck3_ ac (cl5_ ab)) (fun hHeld => ?_); refine with_tabW spec_Legal.tab7 spec_Legal.bits7 (fun HT_ HW_ => ?_)
        generalize w67.drew = w71 at ai az av aw aa ac ab ak HB hHeld ⊢
        refine puU_ 0 41 (tf 9 1) HT_ ?_; refine tkU_ 1 42 (tf 9 3) rfl rfl HT_ HW_ hHeld (by rintro w' ⟨s0, s1, s2, s3, s4, s5, s6, s7⟩; go_simp; with_reducible rfl) ?_; refine puU_ 2 43 (tf 9 7) HT_ ?_; refine puU_ 3 44 (tf 9 15) HT_ ?_; refine tkU_ 4 45 (tf 9 31) rfl rfl HT_ HW_ hHeld (by rintro w' ⟨s0, s1, s2, s3, s4, s5, s6, s7⟩; go_simp; with_reducible rfl) ?_
        refine on_ (i := 5) (N := some 46) (tf 9 63) HT_ (fun K hK => ?_)
        refine gN_ Tryd.func31 (spec_fail.calls 11 dJ dK dL dM dN _ A69.out) ?_
        rintro e w72 ⟨v392, v395, rfl, ho0, ho1, hb⟩
        refine ⟨_, rfl, ?_⟩
        replace ai := Aside0.mk (Kd.V_mono (Kd.V_told (Kd.V_told (Kd.V_old (vV_ ai) hb) (Kd.R_base ho0)) (Kd.R_base ho1)) (fun _ h_ => h_.1)); replace az := Aside0.mk (Kd.V_mono (Kd.V_told (Kd.V_told (Kd.V_old (vV_ az) hb) (Kd.R_base ho0)) (Kd.R_base ho1)) (fun _ h_ => h_.1)); have bs := Aside0.mk (Kd.R_lower (Kd.R_new' (Kd.R_newM (M := fun k_ => (w.heap.size ≤ k_)) ho0 (below_size (hB_ HB)) (fun k_ h_ => h_)) (Kd.R_lt (rR_ av))) (below_size (hB_ HB))); replace av := Aside0.mk (Kd.R_elder' (rR_ av) (Kd.R_base ho0) hb); have bt := Aside0.mk (Kd.R_lower (Kd.R_new' (Kd.R_newM (M := fun k_ => (w.heap.size ≤ k_)) ho1 (below_size (hB_ HB)) (fun k_ h_ => h_)) (Kd.R_lt (rR_ aw))) (below_size (hB_ HB))); replace aw := Aside0.mk (Kd.R_elder' (rR_ aw) (Kd.R_base ho1) hb); replace aa := bB_ aa hb; replace ac := bB_ ac hb; replace ab := bB_ ab hb; replace ak := bB_ ak hb; replace HB := hS_ HB hb
        (try clear hb)
        (try clear hb2)
        (try clear hk)
        (try clear hi)
        (try clear ho0)
        (try clear ho1)
        obtain ⟨ii, it, eo73⟩ := Kd.R_slice bs.out
        (first | subst eo73 | (injection eo73 with f1_ f2_ f3_; have f4_ := f1_.symm; have f5_ := f3_.symm; clear f1_ f2_ f3_; subst f4_; subst f5_))
        obtain ⟨ij, iu, eo74⟩ := Kd.R_slice bt.out
        (first | subst eo74 | (injection eo74 with f1_ f2_ f3_; have f4_ := f1_.symm; have f5_ := f3_.symm; clear f1_ f2_ f3_; subst f4_; subst f5_))
        refine hK.out _ _ (ck3_ ac (cl5_ ab)) (fun hHeld => ?_)
        clear hK K
        refine norm_ (a' := ?_) ?_ ?_
        rotate_left
        ·show Act.put _ (some 46) _ = _
         simp only [Act.put, List.setIfInBounds_toArray, List.set_cons_zero, List.set_cons_succ, i64_w, i32_w]
         rfl
        refine on_ (i := 6) (N := some 47) (tf 9 127) HT_ (fun K hK => ?_)
        refine gN_ Tryd.func19 (spec_Same.calls kj4 ag ad ah _ _ ae _ _ af dJ dK dL _ _ dM _ _ dN aX _ (cC_ be HB) bb.out (cC_ bf HB) bc.out (cD_ (Kd.R_reads' bs.out).2.2) ((Kd.R_reads' bs.out).2.1) (cD_ (Kd.R_reads' bt.out).2.2) ((Kd.R_reads' bt.out).2.1) A70.out) ?_
        rintro e w75 ⟨rfl, hb⟩
        refine ⟨_, rfl, ?_⟩
        replace ai := vB_ ai hb; replace az := vB_ az hb; replace av := rB_ av hb; replace aw := rB_ aw hb; replace bs := rB_ bs hb; replace bt := rB_ bt hb; replace aa := bB_ aa hb; replace ac := bB_ ac hb; replace ab := bB_ ab hb; replace ak := bB_ ak hb; replace HB := hS_ HB hb
        (try clear hb)
        (try clear hb2)
        (try clear hk)
        (try clear hi)
        refine hK.out _ _ (ck3_ ac (cl5_ ab)) (fun hHeld => ?_)
        clear hK K
        refine norm_ (a' := ?_) ?_ ?_
        rotate_left
        ·show Act.put _ (some 47) _ = _
         simp only [Act.put, List.setIfInBounds_toArray, List.set_cons_zero, List.set_cons_succ, i64_w, i32_w]
         rfl
        refine puU_ 7 48 (tf 9 255) HT_ ?_; refine puU_ 8 40 (tf 9 511) HT_ ?_
        refine done_ (done_of HT_.out (by kernel_rfl)) ?_
        try go_wp2
        go_meet
        case rel => exact ⟨_, (aX), rs_, H', ⟨by have := dQ.out; first | omega | exact Nat.le_refl _⟩, ⟨Kd.V_mono (vV_ ai) (fun _ hk => ⟨hk.1.1.1.1.1.1, ⟨hk.1.1.1.1.2, ⟨hk.1.1.1.2, ⟨hk.1.1.1.1.1.2.1, ⟨hk.1.1.1.1.1.2.2.1, ⟨hk.1.1.1.1.1.2.2.2, hk.1.1.2⟩⟩⟩⟩⟩⟩)⟩, ⟨Kd.R_mono (rR_ av) (fun _ hk => hk.1.1)⟩, ⟨Kd.R_mono (rR_ aw) (fun _ hk => hk.1.1)⟩, ⟨bk_ aa⟩, ⟨bk_ ac⟩, ⟨bk_ ab⟩, ⟨bk_ ak⟩, ⟨hB_ HB⟩⟩
       ·rw [if_neg c68] at H
        have bm : (aj == 6) = false := beq_eq_false_iff_ne.mpr c68
        have dz : (aj != 6) = true := bne_iff_ne.mpr c68
        (first | rw [bm] | (simp only [i64_w, i32_w]; rw [bm]) | skip)
        have H' := Aside0.mk H
        clear H
        try go_wp2
        replace ai := Aside0.mk (Kd.V_drew ai.out); replace az := Aside0.mk (Kd.V_drew az.out); replace av := Aside0.mk (Kd.R_drew av.out); replace aw := Aside0.mk (Kd.R_drew aw.out); replace aa := Aside0.mk (blk_drew aa.out); replace ac := Aside0.mk (blk_drew ac.out); replace ab := Aside0.mk (blk_drew ab.out); replace ak := Aside0.mk (blk_drew ak.out); replace HB := Aside0.mk (below_drew1 HB.out)
        refine start_ (n := 9) (S := fun w' => L3_ w' aE (.int .i64 aj) (.int .u32 ax) (.slice a6 au.length a7)) (ds := []) (tf 9 0) (by kernel_rfl) rfl rfl (cl3_ ac) (fun hHeld => ?_); refine with_tabW spec_Legal.tab7 spec_Legal.bits7 (fun HT_ HW_ => ?_)
        generalize w67.drew = w76 at ai az av aw aa ac ab ak HB hHeld ⊢
        refine puU_ 0 41 (tf 9 1) HT_ ?_; refine tkU_ 1 42 (tf 9 3) rfl rfl HT_ HW_ hHeld (by rintro w' ⟨s0, s1, s2⟩; go_simp; with_reducible rfl) ?_; refine puU_ 2 43 (tf 9 7) HT_ ?_; refine puU_ 3 44 (tf 9 15) HT_ ?_; refine pnU_ 4 45 (tf 9 31) HT_ ?_; refine pnU_ 5 46 (tf 9 63) HT_ ?_; refine pnU_ 6 47 (tf 9 127) HT_ ?_; refine puU_ 7 48 (tf 9 255) HT_ ?_; refine puU_ 8 40 (tf 9 511) HT_ ?_
        refine done_ (done_of HT_.out (by kernel_rfl)) ?_
        try go_wp2
        go_meet
        case rel => exact ⟨_, (false), rs_, H', ⟨by have := dQ.out; first | omega | exact Nat.le_refl _⟩, ⟨Kd.V_mono (vV_ ai) (fun _ hk => ⟨hk.1.1.1.1, ⟨hk.1.1.2, ⟨hk.1.2, ⟨hk.1.1.1.2.1, ⟨hk.1.1.1.2.2.1, ⟨hk.1.1.1.2.2.2, hk.2⟩⟩⟩⟩⟩⟩)⟩, ⟨Kd.R_mono (rR_ av) (fun _ hk => hk.1)⟩, ⟨Kd.R_mono (rR_ aw) (fun _ hk => hk.1)⟩, ⟨bk_ aa⟩, ⟨bk_ ac⟩, ⟨bk_ ab⟩, ⟨bk_ ak⟩, ⟨hB_ HB⟩⟩
      case rest =>
       clear dA
       try clear c1
       try clear c2
       try clear p2
       try clear c3
       try clear c4
       try clear c5
       try clear c6
       try clear c11
       try clear c13
       try clear c15
       try clear c19
       try clear c28
       try clear c31
       try clear c32
       try clear c33
       try clear c35
       try clear c39
       try clear c40
       try clear c41
       try clear c48
       try clear dx
       try clear dy
       try clear c50
       try clear c51
       try clear c53
       try clear c57
       try clear c58
       try clear c59
       try clear c68
       try clear bm
       try clear dz
       try clear bJ bK bL bM bN bO bP
       try clear bQ bR bS
       try clear bT bU bV bW bX
       try clear bY bZ b0 b1 b2
       try clear b3 b4 b5 b6 b7 b8 b9
       try clear ca cb cc
       try clear cd ce cf cg ch
       try clear ci cj ck cl cm
       try clear cn co cp cq cr ct cu
       try clear cv cw cx
       try clear cy cz cA cB cC cD cE
       try clear cF cG cH
       try clear cI cJ cK cL cM
       try clear cN cO cP cQ cR
       try clear cS cT cU cV cW cX cY
       try clear cZ c0 da
       try clear db dc dd de df
       try clear dg dh di dj dk
       try clear dl dm dn dp dq dr dt
       try clear du dv dw
       try clear p2
       obtain ⟨kq, bv, rfl, HA, ej, ai, aG, aH, aa, ac, ab, ak, HB⟩ := hcut
       cases kq with
       | zero => exact absurd HA.out (by simp [spec_Legal.j1])
       | succ kj48 =>
        have H := HA.out; clear HA; simp only [spec_Legal.j1] at H
        by_cases c77 : bv = true
        ·subst c77
         have H1 : (some (l1, true)) = some (r1, r2) := pf_ rfl H
         clear H; have H := H1; clear H1; simp only [Option.some.injEq, Prod.mk.injEq] at H; obtain ⟨rfl, rfl⟩ := H
         go_wp2
         go_ret2
         exact ⟨_, er_, Kd.V_mono (vV_ ai) (fun _ hk => hk.1), hB_ HB⟩
        ·replace c77 := Bool.eq_false_iff.mpr c77
         subst c77
         have H1 : (if aj = 1 then ((spec_Same.f kj48 ag ad ah ae af 0 ad false ([] : List Int) ([] : List Int)).bind fun bI => (spec_Legal.j2 kj48 l1 bI am an al ao ap aq ar ag ad ah ae af)) else (spec_Legal.j2 kj48 l1 false am an al ao ap aq ar ag ad ah ae af)) = some (r1, r2) := nf_ H
         clear H; have H := H1; clear H1; have dB := Aside0.mk H; clear H
         go_upto_region 9 with (fail)
         go_cut [50] (fun v50 wc => ∃ (kq : Nat) (bw : Bool), v50 = .bool bw ∧ Aside0 (spec_Legal.j2 kq l1 bw am an al ao ap aq ar ag ad ah ae af = some (r1, r2)) ∧ Aside0 (kq ≤ kj48) ∧ Aside0 (Kd.V (Kd.int .i64) 3 wc w.heap.size (fun k_ => (P1_ k_ ∨ w.heap.size ≤ k_) ∧ some k_ ≠ ((.slice bg aC.length a8) : Value).ownBlock ∧ some k_ ≠ ((.slice bh aD.length a9) : Value).ownBlock ∧ k_ ≠ aK ∧ k_ ≠ aE ∧ k_ ≠ aF ∧ k_ ≠ ay) (.slice A1 l1.length c1) l1) ∧ Aside0 (Kd.R (Kd.int .u32) 22 wc w.heap.size (fun k_ => (w.heap.size ≤ k_)) (.slice bg aC.length a8) aC) ∧ Aside0 (Kd.R (Kd.int .i64) 31 wc w.heap.size (fun k_ => (w.heap.size ≤ k_)) (.slice bh aD.length a9) aD) ∧ Aside0 (wc.heap[aK]? = some (.cells #[.int .u32 am, .int .i64 an, (.slice bk al.length bl), .int .i64 ao, .int .i64 ap, .int .i64 aq, .int .i64 ar] 27 (0, 0))) ∧ Aside0 (wc.heap[aE]? = some (.cells #[.int .i64 aj, .int .u32 ax, (.slice a6 au.length a7)] 30 (0, 0))) ∧ Aside0 (wc.heap[aF]? = some (.cells #[.int .i64 ag, .int .u32 ad, .bool ah, (.slice aY ae.length a0), (.slice aZ af.length a1)] 34 (0, 0))) ∧ Aside0 (wc.heap[ay]? = some (.cells #[.int .i64 a2, .int .u32 a3, .bool a4, (.slice bg aC.length a8), (.slice bh aD.length a9)] 34 (0, 0))) ∧ Aside0 (Below w.heap.size w wc))
         case first =>
          have H := dB.out; clear dB
          by_cases c79 : aj = 1
          ·rw [if_pos c79] at H
           have bo : (aj == 1) = true := beq_iff_eq.mpr c79
           have dR : (aj != 1) = false := bne_eq_false_iff_eq.mpr c79
           clear c79
           (first | rw [bo] | (simp only [i64_w, i32_w]; rw [bo]) | skip)
           replace H := bi_ H; obtain ⟨bI, A800, H⟩ := H
           replace H : (spec_Legal.j2 kj48 l1 bI am an al ao ap aq ar ag ad ah ae af) = some (r1, r2) := H
           have A80 := Aside0.mk A800; clear A800
           have H' := Aside0.mk H
           clear H; have hB := aP.out; have hZ := aO.out; have hC := aQ.out; have h0 := aR.out; have hD := aI.out; have h1 := aV.out; obtain ⟨dU, dV, dW, d5, d6, d7⟩ := cz3_ (w := wc) ac; have hE := aU.out; have h2 := aT.out; have hF := aB.out; have h3 := aJ.out; obtain ⟨dX, dY, dZ, d0, d1, d8, d9, ea, eb, ec⟩ := cz5_ (w := wc) ab
           go_wp2_with (first | (go_at_call 19; (refine (spec_Same.calls kj48 ag ad ah _ _ ae _ _ af 0 ad false _ _ ([] : List Int) _ _ ([] : List Int) bI _ ?side1 ?side2 ?side3 ?side4 ?side5 ?side6 ?side7 ?side8 A80.out).mono ?_); (case side1 => exact cC_ be HB); (case side2 => exact bb.out); (case side3 => exact cC_ bf HB); (case side4 => exact bc.out); (case side5 => exact Kd.C_nil _ _); (case side6 => exact Nat.le_refl _); (case side7 => exact Kd.C_nil _ _); (case side8 => exact Nat.le_refl _); rintro e w88 ⟨rfl, hb⟩; (try clear A80); replace ai := vB_ ai hb; replace aG := rB_ aG hb; replace aH := rB_ aH hb; replace ac := bB_ ac hb; replace ak := bB_ ak hb; replace aa := bB_ aa hb; replace ab := bB_ ab hb; replace HB := hS_ HB hb; (try clear hb)))
           go_meet
           case rel => exact ⟨_, (bI), rs_, H', ⟨by have := dQ.out; have := ej.out; first | omega | exact Nat.le_refl _⟩, ⟨vV_ ai⟩, ⟨rR_ aG⟩, ⟨rR_ aH⟩, ⟨bk_ aa⟩, ⟨bk_ ac⟩, ⟨bk_ ab⟩, ⟨bk_ ak⟩, ⟨hB_ HB⟩⟩
          ·rw [if_neg c79] at H
           have bo : (aj == 1) = false := beq_eq_false_iff_ne.mpr c79
           have dR : (aj != 1) = true := bne_iff_ne.mpr c79
           (first | rw [bo] | (simp only [i64_w, i32_w]; rw [bo]) | skip)
           have H' := Aside0.mk H
           clear H; have hH := aP.out; have h4 := aO.out; have hI := aQ.out; have h5 := aR.out; have hJ := aI.out; have h6 := aV.out; obtain ⟨d2, d3, d4, ed, ee, ef⟩ := cz3_ (w := wc) ac
           go_wp2
           go_meet
           case rel => exact ⟨_, (false), rs_, H', ⟨by have := dQ.out; have := ej.out; first | omega | exact Nat.le_refl _⟩, ⟨vV_ ai⟩, ⟨rR_ aG⟩, ⟨rR_ aH⟩, ⟨bk_ aa⟩, ⟨bk_ ac⟩, ⟨bk_ ab⟩, ⟨bk_ ak⟩, ⟨hB_ HB⟩⟩
         case rest =>
          clear dB
          try clear c1
          try clear c2
          try clear p2
          try clear c3
          try clear c4
          try clear c5
          try clear c6
          try clear c7
          try clear c8
          try clear c9
          try clear c11
          try clear c13
          try clear c15
          try clear c19
          try clear c28
          try clear c31
          try clear c32
          try clear c33
          try clear c35
          try clear c39
          try clear c40
          try clear c41
          try clear c48
          try clear dx
          try clear dy
          try clear c50
          try clear c51
          try clear c53
          try clear c57
          try clear c58
          try clear c59
          try clear c68
          try clear bm
          try clear dz
          try clear c77
          try clear c79
          try clear bo
          try clear dR
          try clear c81
          try clear c82
          try clear c83
          try clear c85
          try clear c86
          try clear c89
          try clear c90
          try clear c91
          try clear bJ bK bL bM bN bO bP
          try clear bQ bR bS
          try clear bT bU bV bW bX
          try clear bY bZ b0 b1 b2
          try clear b3 b4 b5 b6 b7 b8 b9
          try clear ca cb cc
          try clear cd ce cf cg ch
          try clear ci cj ck cl cm
          try clear cn co cp cq cr ct cu
          try clear cv cw cx
          try clear dU dV dW
          try clear dX dY dZ d0 d1
          try clear d2 d3 d4
          try clear cy cz cA cB cC cD cE
          try clear cF cG cH
          try clear cI cJ cK cL cM
          try clear cN cO cP cQ cR
          try clear cS cT cU cV cW cX cY
          try clear cZ c0 da
          try clear db dc dd de df
          try clear dg dh di dj dk
          try clear dl dm dn dp dq dr dt
          try clear du dv dw
          try clear d5 d6 d7
          try clear d8 d9 ea eb ec
          try clear ed ee ef
          try clear p2
          obtain ⟨kq, bw, rfl, HA, ik, ai, aG, aH, aa, ac, ab, ak, HB⟩ := hcut
          cases kq with
          | zero => exact absurd HA.out (by simp [spec_Legal.j2])
          | succ kj77 =>
           have H := HA.out; clear HA; simp only [spec_Legal.j2] at H
           by_cases c93 : bw = true
           ·subst c93
            have H1 : ((block_Find.f kj77 am an al ao ap aq ar ad).bind fun bt399 => (if bt399.2 = 0 then ((model_Has.f kj77 l1 bt399.1).bind fun bB => (if bB = true then (some (l1, false)) else ((model_With.f kj77 l1 bt399.1).bind fun bj => (some (bj, true))))) else (some (l1, false)))) = some (r1, r2) := pf_ rfl H
            clear H; have H := H1; clear H1; replace H := bi_ H; obtain ⟨⟨bi, bn⟩, A940, H⟩ := H
            replace H : (if bn = 0 then ((model_Has.f kj77 l1 bi).bind fun bB => (if bB = true then (some (l1, false)) else ((model_With.f kj77 l1 bi).bind fun bj => (some (bj, true))))) else (some (l1, false))) = some (r1, r2) := H
            have A94 := Aside0.mk A940; clear A940
            by_cases c95 : bn = 0
            ·rw [if_pos c95] at H
             have en : (bn == 0) = true := beq_iff_eq.mpr c95
             have eo : (bn != 0) = false := bne_eq_false_iff_eq.mpr c95
             clear c95; replace H := bi_ H; obtain ⟨bB, A960, H⟩ := H
             replace H : (if bB = true then (some (l1, false)) else ((model_With.f kj77 l1 bi).bind fun bj => (some (bj, true)))) = some (r1, r2) := H
             have A96 := Aside0.mk A960; clear A960
             by_cases c97 : bB = true
             ·subst c97
              have H1 : (some (l1, false)) = some (r1, r2) := pf_ rfl H
              clear H; have H := H1; clear H1; simp only [Option.some.injEq, Prod.mk.injEq] at H; obtain ⟨rfl, rfl⟩ := H; have hL := aO.out; have h7 := aP.out; have hM := aT.out; have h8 := aU.out; have gA := aA.out; have gT := aS.out; obtain ⟨ep, er, et, eu, ev, ew, ex, fv, fw, fx, fy, fz, fA, fB⟩ := cz7_ (w := wc) aa; have gB := aR.out; have gU := aQ.out; have gC := aB.out; have gV := aJ.out; obtain ⟨ey, ez, eA, eB, eC, fC, fD, fE, fF, fG⟩ := cz5_ (w := wc) ab
              go_wp2_with (first | ((with_reducible refine gate_callee (f := 33) rfl ?_); refine gM_ (some 65) Tryd.func33 (block_Find.calls kj77 am an _ _ al ao ap aq ar ad bi bn _ (cC_ bd HB) ba.out A94.out) ?_; rintro e w105 ⟨rfl, hb⟩; refine ⟨_, rfl, ?_⟩; replace ai := vB_ ai hb; replace aG := rB_ aG hb; replace aH := rB_ aH hb; replace ac := bB_ ac hb; replace ak := bB_ ak hb; replace aa := bB_ aa hb; replace ab := bB_ ab hb; replace HB := hS_ HB hb; (try clear hb)) | (go_at_call 34; (with_reducible refine (model_Has.calls kj77 _ _ l1 bi true _ (cD_ (Kd.V_reads' ai.out).2.2) ((Kd.V_reads' ai.out).2.1) A96.out).mono ?_); rintro e w' ⟨rfl, ⟨nd, rfl⟩⟩))
              go_ret2
              exact ⟨_, er_, Kd.V_mono (vV_ ai) (fun _ hk => hk.1), hB_ HB⟩
             ·replace c97 := Bool.eq_false_iff.mpr c97
              subst c97
              have H1 : ((model_With.f kj77 l1 bi).bind fun bj => (some (bj, true))) = some (r1, r2) := nf_ H
              clear H; have H := H1; clear H1; replace H := bi_ H; obtain ⟨bj, A1060, H⟩ := H
              replace H : (some (bj, true)) = some (r1, r2) := H
              have A106 := Aside0.mk A1060; clear A1060; simp only [Option.some.injEq, Prod.mk.injEq] at H; obtain ⟨rfl, rfl⟩ := H; have gD := aO.out; have gW := aP.out; have gE := aT.out; have gX := aU.out; have gF := aA.out; have gY := aS.out; obtain ⟨eD, eE, eF, eG, eH, eI, eJ, fH, fI, fJ, fK, fL, fM, fN⟩ := cz7_ (w := wc) aa; have gG := aR.out; have gZ := aQ.out; have gH := aB.out; have g0 := aJ.out; obtain ⟨eK, eL, eM, eN, eO, fO, fP, fQ, fR, fS⟩ := cz5_ (w := wc) ab
              go_wp2_with (first | ((with_reducible refine gate_callee (f := 33) rfl ?_); refine gM_ (some 65) Tryd.func33 (block_Find.calls kj77 am an _ _ al ao ap aq ar ad bi bn _ (cC_ bd HB) ba.out A94.out) ?_; rintro e w114 ⟨rfl, hb⟩; refine ⟨_, rfl, ?_⟩; replace ai := vB_ ai hb; replace aG := rB_ aG hb; replace aH := rB_ aH hb; replace ac := bB_ ac hb; replace ak := bB_ ak hb; replace aa := bB_ aa hb; replace ab := bB_ ab hb; replace HB := hS_ HB hb; (try clear hb)) | (go_at_call 34; (with_reducible refine (model_Has.calls kj77 _ _ l1 bi false _ (cD_ (Kd.V_reads' ai.out).2.2) ((Kd.V_reads' ai.out).2.1) A96.out).mono ?_); rintro e w' ⟨rfl, ⟨nd, rfl⟩⟩) | ((with_reducible refine gate_callee (f := 35) rfl ?_); refine gM_ (some 78) Tryd.func35 (model_With.calls kj77 (fun k_ => ((P1_ k_ ∨ w.heap.size ≤ k_) ∧ (some k_ ≠ (.slice bg aC.length a8 : Value).ownBlock ∧ (some k_ ≠ (.slice bh aD.length a9 : Value).ownBlock ∧ (k_ ≠ aK ∧ (k_ ≠ aE ∧ (k_ ≠ aF ∧ k_ ≠ ay))))))) _ _ l1 bi bj _ ai.out A106.out) ?_; rintro e w115 ⟨v403, rfl, ho0, hb⟩; refine ⟨_, rfl, ?_⟩; replace ai := vB_ ai hb; have em := Aside0.mk (Kd.V_lower (Kd.V_mono (ok' := fun k_ => (P1_ k_ ∨ w.heap.size ≤ k_) ∧ some k_ ≠ (.slice bg aC.length a8 : Value).ownBlock ∧ some k_ ≠ (.slice bh aD.length a9 : Value).ownBlock ∧ k_ ≠ aK ∧ k_ ≠ aE ∧ k_ ≠ aF ∧ k_ ≠ ay) ho0 (fun k_ hk_ => ⟨Or.elim hk_ (fun hs_ => hs_.1) (fun hn_ => (.inr (Nat.le_trans (below_size (hB_ HB)) hn_))), Or.elim hk_ (fun hs_ => hs_.2.1) (fun hn_ => (Kd.fresh' (Kd.R_lt (rR_ aG)) k_ hn_)), Or.elim hk_ (fun hs_ => hs_.2.2.1) (fun hn_ => (Kd.fresh' (Kd.R_lt (rR_ aH)) k_ hn_)), Or.elim hk_ (fun hs_ => hs_.2.2.2.1) (fun hn_ => (fB_ aa k_ hn_)), Or.elim hk_ (fun hs_ => hs_.2.2.2.2.1) (fun hn_ => (fB_ ac k_ hn_)), Or.elim hk_ (fun hs_ => hs_.2.2.2.2.2.1) (fun hn_ => (fB_ ab k_ hn_)), Or.elim hk_ (fun hs_ => hs_.2.2.2.2.2.2) (fun hn_ => (fB_ ak k_ hn_))⟩)) (below_size (hB_ HB))); replace ac := bB_ ac hb; replace ak := bB_ ak hb; replace aa := bB_ aa hb; replace ab := bB_ ab hb; replace HB := hS_ HB hb; (try clear hb); (try clear ho0)))
              go_ret2
              exact ⟨_, er_, Kd.V_mono (vV_ em) (fun _ hk => hk.1), hB_ HB⟩
            ·rw [if_neg c95] at H
             have en : (bn == 0) = false := beq_eq_false_iff_ne.mpr c95
             have eo : (bn != 0) = true := bne_iff_ne.mpr c95
             simp only [Option.some.injEq, Prod.mk.injEq] at H; obtain ⟨rfl, rfl⟩ := H; have gI := aO.out; have g1 := aP.out; have gJ := aT.out; have g2 := aU.out; have gK := aA.out; have g3 := aS.out; obtain ⟨eP, eQ, eR, eS, eT, eU, eV, fT, fU, fV, fW, fX, fY, fZ⟩ := cz7_ (w := wc) aa; have gL := aR.out; have g4 := aQ.out; have gM := aB.out; have g5 := aJ.out; obtain ⟨eW, eX, eY, eZ, e0, f0, f1, f2, f3, f4⟩ := cz5_ (w := wc) ab
             go_wp2_with (first | ((with_reducible refine gate_callee (f := 33) rfl ?_); refine gM_ (some 65) Tryd.func33 (block_Find.calls kj77 am an _ _ al ao ap aq ar ad bi bn _ (cC_ bd HB) ba.out A94.out) ?_; rintro e w123 ⟨rfl, hb⟩; refine ⟨_, rfl, ?_⟩; replace ai := vB_ ai hb; replace ac := bB_ ac hb; replace ak := bB_ ak hb; replace aa := bB_ aa hb; replace ab := bB_ ab hb; replace HB := hS_ HB hb; (try clear hb)))
             go_ret2
             exact ⟨_, er_, Kd.V_mono (vV_ ai) (fun _ hk => hk.1), hB_ HB⟩
           ·replace c93 := Bool.eq_false_iff.mpr c93
            subst c93
            have H1 : (some (l1, false)) = some (r1, r2) := nf_ H
            clear H; have H := H1; clear H1; simp only [Option.some.injEq, Prod.mk.injEq] at H; obtain ⟨rfl, rfl⟩ := H
            go_wp2
            go_ret2
            exact ⟨_, er_, Kd.V_mono (vV_ ai) (fun _ hk => hk.1), hB_ HB⟩
     ·rw [if_neg c48] at H
      have dx : (aW == 0) = false := beq_eq_false_iff_ne.mpr c48
      have dy : (aW != 0) = true := bne_iff_ne.mpr c48
      simp only [Option.some.injEq, Prod.mk.injEq] at H; obtain ⟨rfl, rfl⟩ := H; have gN := aO.out; have g6 := aP.out; have gO := aT.out; have g7 := aU.out; obtain ⟨e1, e2, e3, e4, e5, e6, e7, f5, f6, f7, f8, f9, ga, gb⟩ := cz7_ (w := wc) aa; have gP := aQ.out; have g8 := aR.out; obtain ⟨e8, e9, fa, gc, gd, gf⟩ := cz3_ (w := wc) ac
      go_wp2_with (first | ((with_reducible refine gate_callee (f := 15) rfl ?_); refine gM_ (some 27) Tryd.func15 (spec_Some.calls kj4 am an _ _ al ao ap aq ar (fun k_ => ((P1_ k_ ∨ w.heap.size ≤ k_) ∧ (k_ ≠ aK ∧ (k_ ≠ aE ∧ k_ ≠ aF)))) _ _ l1 aj ax _ _ au bz a2 a3 a4 aC aD _ (cC_ bd HB) ba.out ai.out (cC_ bu HB) bp.out (Lg_below HG.out (hB_ HB)) A29.out) ?_; rintro e w129 ⟨v374, v380, v383, rfl, ho0, ho1, ho2, hb⟩; refine ⟨_, rfl, ?_⟩; replace ai := Aside0.mk (Kd.V_mono (Kd.V_told (Kd.V_told (Kd.V_old (vV_ ai) hb) (Kd.R_base ho1)) (Kd.R_base ho2)) (fun _ h_ => h_.1)); have az := Aside0.mk (Kd.V_lower (Kd.V_mono (ok' := fun k_ => (P1_ k_ ∨ w.heap.size ≤ k_) ∧ some k_ ≠ (v380 : Value).ownBlock ∧ some k_ ≠ (v383 : Value).ownBlock ∧ k_ ≠ aK ∧ k_ ≠ aE ∧ k_ ≠ aF) ho0 (fun k_ hk_ => ⟨Or.elim hk_.1 (fun hs_ => hs_.1) (fun hn_ => (.inr (Nat.le_trans (below_size (hB_ HB)) hn_))), hk_.2.1, hk_.2.2, Or.elim hk_.1 (fun hs_ => hs_.2.1) (fun hn_ => (fB_ aa k_ hn_)), Or.elim hk_.1 (fun hs_ => hs_.2.2.1) (fun hn_ => (fB_ ac k_ hn_)), Or.elim hk_.1 (fun hs_ => hs_.2.2.2) (fun hn_ => (fB_ ab k_ hn_))⟩)) (below_size (hB_ HB))); have av := Aside0.mk (Kd.R_lower (Kd.R_newM (M := fun k_ => (w.heap.size ≤ k_)) (Kd.R_mono (ok' := fun k_ => True) ho1 (fun _ hk_ => trivial)) (below_size (hB_ HB)) (fun k_ h_ => h_)) (below_size (hB_ HB))); have aw := Aside0.mk (Kd.R_lower (Kd.R_newM (M := fun k_ => (w.heap.size ≤ k_)) (Kd.R_mono (ok' := fun k_ => True) ho2 (fun _ hk_ => trivial)) (below_size (hB_ HB)) (fun k_ h_ => h_)) (below_size (hB_ HB))); replace ac := bB_ ac hb; replace HB := hS_ HB hb; replace aa := bB_ aa hb; replace ab := bB_ ab hb; (try clear hb); (try clear ho0); (try clear ho1); (try clear ho2)) | ((with_reducible refine gd_ 11 ?_); refine box_event ?hg (N := 11) ?hd (cs := #[.int .i64 0, .int .u32 0, .bool false, .slice none 0 0, .slice none 0 0]) (t := 34) ?hr ?_; (case hd => rfl); (case hg => rfl); (case hr => first | (go_simp; done) | (go_simp; rfl)); intro ay hg w130 hbox hb; replace ai := vE_ ai hg hb; replace av := rB_ av hb; replace aw := rB_ aw hb; have ak := Aside0.mk (hbox); have dP := gG_ hg HB; have dO := gG_ hg HB; replace HB := hS_ HB hb; have aA := nL_ hg aa; have aS := nG_ hg aa; have aI := nL_ hg ac; have aV := nG_ hg ac; replace ac := bB_ ac hb; have aB := nL_ hg ab; have aJ := nG_ hg ab; replace aa := bB_ aa hb; replace ab := bB_ ab hb; clear hb hbox hg; have gQ := aS.out; have g9 := aA.out; have gR := aV.out; have ha := aI.out; have gS := aJ.out; have hc := aB.out; obtain ⟨fb, fc, fd, fe, ff, gg, gh, gi, gj, gk⟩ := cz5_ (w := w130) ak; obtain ⟨ek, dS, eo135⟩ := Kd.R_slice av.out; subst eo135; obtain ⟨el, dT, eo136⟩ := Kd.R_slice aw.out; subst eo136; obtain ⟨fg, fh, fi, fj, fk, gl, gm, gn, go, gp⟩ := cz5_ (w := w130) ab) | ((with_reducible refine gate_callee (f := 19) rfl ?_); refine gL_ (some 33) Tryd.func19 #[.agg #[.int .i64 ag, .int .u32 ad, .bool ah, .slice aY ae.length a0, .slice aZ af.length a1], .agg #[.int .i64 a2, .int .u32 a3, .bool a4, .slice ek aC.length dS, .slice el aD.length dT]] ?_; (with_reducible refine (spec_Same.calls kj4 ag ad ah _ _ ae _ _ af a2 a3 a4 _ _ aC _ _ aD false _ ?side1 ?side2 ?side3 ?side4 ?side5 ?side6 ?side7 ?side8 A30.out).mono ?_); (case side1 => exact Kd.C_below be.out (hB_ HB)); (case side2 => exact bb.out); (case side3 => exact Kd.C_below bf.out (hB_ HB)); (case side4 => exact bc.out); (case side5 => refine (Kd.R_reads' (e := 22) (base := w.heap.size) (ok := fun k_ => ((w.heap.size ≤ k_) ∧ True)) (n := aC.length) (c := dS) ?_).2.2; exact (by (with_reducible repeat (first | apply Kd.R_alloc | apply Kd.R_drewN | apply Kd.R_drew)); exact (Kd.R_mono (rF5_ (g := ay) (Kd.R_types av.out ak.out (by decide)) (fun _ hk => hk.2)) (fun _ h_ => h_.1)))); (case side6 => exact (Kd.R_reads' av.out).2.1); (case side7 => refine (Kd.R_reads' (e := 31) (base := w.heap.size) (ok := fun k_ => ((w.heap.size ≤ k_) ∧ True)) (n := aD.length) (c := dT) ?_).2.2; exact (by (with_reducible repeat (first | apply Kd.R_alloc | apply Kd.R_drewN | apply Kd.R_drew)); exact (Kd.R_mono (rF5_ (g := ay) (Kd.R_types aw.out ak.out (by decide)) (fun _ hk => hk.2)) (fun _ h_ => h_.1)))); (case side8 => exact (Kd.R_reads' aw.out).2.1); rintro e w138 ⟨rfl, hb⟩; refine ⟨_, rfl, ?_⟩; replace ai := Aside0.mk (Kd.V_below (by (with_reducible repeat (first | apply Kd.V_alloc | apply Kd.V_drewN | apply Kd.V_drew)); exact (Kd.V_mono (vF5_ (g := ay) (Kd.V_mono ai.out (fun k_ hk => (⟨hk, hk.2⟩ : _ ∧ k_ ≠ ay))) (fun _ hk => hk.2)) (fun _ h_ => h_.1))) hb); replace aa := Aside0.mk (blk_below (g := aK) (o := .cells #[.int .u32 am, .int .i64 an, .slice bk al.length bl, .int .i64 ao, .int .i64 ap, .int .i64 aq, .int .i64 ar] 27 (0, 0)) (by refine bp_ ?_; refine bF5_ ?_ aA.out; refine bp_ ?_; exact aa.out) hb); replace ac := Aside0.mk (blk_below (g := aE) (o := .cells #[.int .i64 aj, .int .u32 ax, .slice a6 au.length a7] 30 (0, 0)) (by refine bp_ ?_; refine bF5_ ?_ aI.out; refine bp_ ?_; exact ac.out) hb); replace HB := hS_ HB hb; (try clear hb); obtain ⟨fl, fm, fn, fo, fp, fq, fr, gq, gr, gs, gt, gu, gv, gw⟩ := cz7_ (w := w138) aa; obtain ⟨fs, ft, fu, gx, gy, gz⟩ := cz3_ (w := w138) ac) | ((with_reducible refine gate_callee (f := 32) rfl ?_); refine gM_ (some 38) Tryd.func32 (ask_Check.calls kj4 am an _ _ al ao ap aq ar aj ax _ _ au aW _ (cC_ bd HB) ba.out (cC_ bu HB) bp.out (Lg_below HG.out (hB_ HB)) A47.out) ?_; rintro e w141 ⟨rfl, hb⟩; refine ⟨_, rfl, ?_⟩; replace ai := vB_ ai hb; replace HB := hS_ HB hb; (try clear hb)))
      go_ret2
      exact ⟨_, er_, Kd.V_mono (vV_ ai) (fun _ hk => hk.1.1.1.1), hB_ HB⟩

end Go.Proofs.YtkiimboedgnoiaaDoor.PSpecTells
