/- The walk of SpecBack, part of it: what the Go functions answer; no condition. -/
import Derived.Test.YtkiimboedgnoiaaDoorQSpecBackx0
import Derived.Test.YtkiimboedgnoiaaDoorQSpecBackx1
import Derived.Test.YtkiimboedgnoiaaDoorQSpecBackx2
import Derived.Test.YtkiimboedgnoiaaDoorQSpecBackx3
import Derived.Test.YtkiimboedgnoiaaDoorQSpecBackx5
namespace Go.Proofs.YtkiimboedgnoiaaDoor.PSpecBack
open Go.RowKit Go.Proofs.YtkiimboedgnoiaaDoorW.PrintWords Go.Proofs.YtkiimboedgnoiaaDoorW.PrintLast Go.Proofs.YtkiimboedgnoiaaDoorW.PrintMore
attribute [local go_sem] max2_int min2_int max_two min_two max_three min_three max_four min_four   -- for this text's walks alone
set_option linter.unusedVariables false
set_option linter.unusedSimpArgs false

/-! ### spec_Legal: function 13 -/
mutual
def spec_Legal.j0 : Nat → List Int → Bool → Int → Int → List Int → Int → Int → Int → Int → Int → Int → List Int → Int → Int → Bool → List Int → List Int → Option (List Int × Bool)
 | 0, _, _, _, _, _, _, _, _, _, _, _, _, _, _, _, _, _ => none
 | k + 1, x1, x21, x351000, x351001, x351002, x351003, x351004, x351005, x351006, x352000, x352001, x352002, x353000, x353001, x353002, x353003, x353004 => if x21 = true then (some (x1, true)) else ((spec_Some.f k x351000 x351001 x351002 x351003 x351004 x351005 x351006 x1 x352000 x352001 x352002).bind fun bt373 => ((spec_Same.f k x353000 x353001 x353002 x353003 x353004 bt373.2.1 bt373.2.2.1 bt373.2.2.2.1 bt373.2.2.2.2.1 bt373.2.2.2.2.2).bind fun t386 => (if t386 = true then (some (bt373.1, true)) else ((ask_Check.f k x351000 x351001 x351002 x351003 x351004 x351005 x351006 x352000 x352001 x352002).bind fun t387 => (if t387 = 0 then (if x352000 = 6 then ((spec_fail.f 11).bind fun bt388 => ((spec_Same.f k x353000 x353001 x353002 x353003 x353004 bt388.1 bt388.2.1 bt388.2.2.1 bt388.2.2.2.1 bt388.2.2.2.2).bind fun t397 => (spec_Legal.j1 k x1 t397 x351000 x351001 x351002 x351003 x351004 x351005 x351006 x352000 x352001 x352002 x353000 x353001 x353002 x353003 x353004))) else (spec_Legal.j1 k x1 false x351000 x351001 x351002 x351003 x351004 x351005 x351006 x352000 x352001 x352002 x353000 x353001 x353002 x353003 x353004)) else (some (x1, false)))))))
def spec_Legal.j1 : Nat → List Int → Bool → Int → Int → List Int → Int → Int → Int → Int → Int → Int → List Int → Int → Int → Bool → List Int → List Int → Option (List Int × Bool)
 | 0, _, _, _, _, _, _, _, _, _, _, _, _, _, _, _, _, _ => none
 | k + 1, x1, x40, x351000, x351001, x351002, x351003, x351004, x351005, x351006, x352000, x352001, x352002, x353000, x353001, x353002, x353003, x353004 => if x40 = true then (some (x1, true)) else (if x352000 = 1 then ((spec_Same.f k x353000 x353001 x353002 x353003 x353004 0 x353001 false ([] : List Int) ([] : List Int)).bind fun t398 => (spec_Legal.j2 k x1 t398 x351000 x351001 x351002 x351003 x351004 x351005 x351006 x353000 x353001 x353002 x353003 x353004)) else (spec_Legal.j2 k x1 false x351000 x351001 x351002 x351003 x351004 x351005 x351006 x353000 x353001 x353002 x353003 x353004))
def spec_Legal.j2 : Nat → List Int → Bool → Int → Int → List Int → Int → Int → Int → Int → Int → Int → Bool → List Int → List Int → Option (List Int × Bool)
 | 0, _, _, _, _, _, _, _, _, _, _, _, _, _, _ => none
 | k + 1, x1, x50, x351000, x351001, x351002, x351003, x351004, x351005, x351006, x353000, x353001, x353002, x353003, x353004 => if x50 = true then ((block_Find.f k x351000 x351001 x351002 x351003 x351004 x351005 x351006 x353001).bind fun bt399 => (if bt399.2 = 0 then ((model_Has.f k x1 bt399.1).bind fun t401 => (if t401 = true then (some (x1, false)) else ((model_With.f k x1 bt399.1).bind fun t402 => (some (t402, true))))) else (some (x1, false)))) else (some (x1, false))
end
def spec_Legal.f (k : Nat) (a0_0 a0_1 : Int) (l0_2 : List Int) (a0_3 a0_4 : Int) (a0_5 a0_6 : Int) (l1 : List Int) (a2_0 a2_1 : Int) (l2_2 : List Int) (a3_0 a3_1 : Int) (a3_2 : Bool) (l3_3 l3_4 : List Int) : Option (List Int × Bool) := (spec_fail.f 10).bind fun bt353 => ((spec_Same.f k a3_0 a3_1 a3_2 l3_3 l3_4 bt353.1 bt353.2.1 bt353.2.2.1 bt353.2.2.2.1 bt353.2.2.2.2).bind fun t362 => (if t362 = true then (spec_Legal.j0 k l1 true a0_0 a0_1 l0_2 a0_3 a0_4 a0_5 a0_6 a2_0 a2_1 l2_2 a3_0 a3_1 a3_2 l3_3 l3_4) else ((spec_fail.f 12).bind fun bt363 => ((spec_Same.f k a3_0 a3_1 a3_2 l3_3 l3_4 bt363.1 bt363.2.1 bt363.2.2.1 bt363.2.2.2.1 bt363.2.2.2.2).bind fun t372 => (spec_Legal.j0 k l1 t372 a0_0 a0_1 l0_2 a0_3 a0_4 a0_5 a0_6 a2_0 a2_1 l2_2 a3_0 a3_1 a3_2 l3_3 l3_4)))))
theorem spec_Legal.mono_l : ∀ k, (∀ y0 y1 y2 y3 y4 y5 y6 y7 y8 y9 y10 y11 y12 y13 y14 y15 y16, LeO (spec_Legal.j0 k y0 y1 y2 y3 y4 y5 y6 y7 y8 y9 y10 y11 y12 y13 y14 y15 y16) (spec_Legal.j0 (k + 1) y0 y1 y2 y3 y4 y5 y6 y7 y8 y9 y10 y11 y12 y13 y14 y15 y16)) ∧ (∀ y0 y1 y2 y3 y4 y5 y6 y7 y8 y9 y10 y11 y12 y13 y14 y15 y16, LeO (spec_Legal.j1 k y0 y1 y2 y3 y4 y5 y6 y7 y8 y9 y10 y11 y12 y13 y14 y15 y16) (spec_Legal.j1 (k + 1) y0 y1 y2 y3 y4 y5 y6 y7 y8 y9 y10 y11 y12 y13 y14 y15 y16)) ∧ (∀ y0 y1 y2 y3 y4 y5 y6 y7 y8 y9 y10 y11 y12 y13, LeO (spec_Legal.j2 k y0 y1 y2 y3 y4 y5 y6 y7 y8 y9 y10 y11 y12 y13) (spec_Legal.j2 (k + 1) y0 y1 y2 y3 y4 y5 y6 y7 y8 y9 y10 y11 y12 y13))
 | 0 => ⟨fun _ _ _ _ _ _ _ _ _ _ _ _ _ _ _ _ _ r h => by simp [spec_Legal.j0] at h, fun _ _ _ _ _ _ _ _ _ _ _ _ _ _ _ _ _ r h => by simp [spec_Legal.j1] at h, fun _ _ _ _ _ _ _ _ _ _ _ _ _ _ r h => by simp [spec_Legal.j2] at h⟩
 | k + 1 => by
  obtain ⟨ih0, ih1, ih2⟩ := spec_Legal.mono_l k
  refine ⟨?_, ?_, ?_⟩
  ·intro y0 y1 y2 y3 y4 y5 y6 y7 y8 y9 y10 y11 y12 y13 y14 y15 y16
   unfold spec_Legal.j0
   repeat' (with_reducible first | apply ih0 | apply ih1 | apply ih2 | apply ask_Check.mono | apply block_Find.mono | apply model_Has.mono | apply model_With.mono | apply spec_Same.mono | apply spec_Some.mono | exact LeO.refl _ | exact LeO.none _ | refine LeO.ite ?_ ?_ | refine LeO.bind ?_ (fun _ => ?_))
  ·intro y0 y1 y2 y3 y4 y5 y6 y7 y8 y9 y10 y11 y12 y13 y14 y15 y16
   unfold spec_Legal.j1
   repeat' (with_reducible first | apply ih0 | apply ih1 | apply ih2 | apply ask_Check.mono | apply block_Find.mono | apply model_Has.mono | apply model_With.mono | apply spec_Same.mono | apply spec_Some.mono | exact LeO.refl _ | exact LeO.none _ | refine LeO.ite ?_ ?_ | refine LeO.bind ?_ (fun _ => ?_))
  ·intro y0 y1 y2 y3 y4 y5 y6 y7 y8 y9 y10 y11 y12 y13
   unfold spec_Legal.j2
   repeat' (with_reducible first | apply ih0 | apply ih1 | apply ih2 | apply ask_Check.mono | apply block_Find.mono | apply model_Has.mono | apply model_With.mono | apply spec_Same.mono | apply spec_Some.mono | exact LeO.refl _ | exact LeO.none _ | refine LeO.ite ?_ ?_ | refine LeO.bind ?_ (fun _ => ?_))
theorem spec_Legal.mono : ∀ a0 a1 a2 a3 a4 a5 a6 a7 a8 a9 a10 a11 a12 a13 a14 a15 k, LeO (spec_Legal.f k a0 a1 a2 a3 a4 a5 a6 a7 a8 a9 a10 a11 a12 a13 a14 a15) (spec_Legal.f (k + 1) a0 a1 a2 a3 a4 a5 a6 a7 a8 a9 a10 a11 a12 a13 a14 a15) := by
 intro a0 a1 a2 a3 a4 a5 a6 a7 a8 a9 a10 a11 a12 a13 a14 a15 k
 obtain ⟨ih0, ih1, ih2⟩ := spec_Legal.mono_l k
 unfold spec_Legal.f
 repeat' (with_reducible first | apply ih0 | apply ih1 | apply ih2 | apply ask_Check.mono | apply block_Find.mono | apply model_Has.mono | apply model_With.mono | apply spec_Same.mono | apply spec_Some.mono | exact LeO.refl _ | exact LeO.none _ | refine LeO.ite ?_ ?_ | refine LeO.bind ?_ (fun _ => ?_))
def spec_Legal.T1 : Bool × List (List Nat × List Nat) := (true, [([], []), ([], []), ([0, 1, 1], [0, 1]), ([2, 2], [2]), ([3], [3]), ([3, 3], [3]), ([4, 5, 5, 3], [3, 4, 5]), ([3, 6], [3, 6])])
def spec_Legal.B1 : List Nat := [0, 0, 3, 7, 15, 15, 63, 127]
theorem spec_Legal.tab1 : rtab .any (opsOf Tryd.f13 1) = spec_Legal.T1 := by kernel_rfl
theorem spec_Legal.bits1 : waitsOk spec_Legal.T1.2 spec_Legal.B1 = true := by kernel_rfl
def spec_Legal.T7 : Bool × List (List Nat × List Nat) := (true, [([], []), ([0], [0]), ([1], [1]), ([2], [2]), ([3], [3]), ([3, 3], [3]), ([4, 5, 5, 3], [3, 4, 5]), ([3, 6], [3, 6]), ([7, 6], [7])])
def spec_Legal.B7 : List Nat := [0, 1, 3, 7, 15, 15, 63, 127, 255]
theorem spec_Legal.tab7 : rtab .any (opsOf Tryd.f13 7) = spec_Legal.T7 := by kernel_rfl
theorem spec_Legal.bits7 : waitsOk spec_Legal.T7.2 spec_Legal.B7 = true := by kernel_rfl
set_option maxHeartbeats 8000000 in
set_option maxRecDepth 100000 in
theorem spec_Legal.calls (k : Nat) (am an : Int) (a0 : Option Addr) (a4 : Nat) (ak : List Int) (ao ap : Int) (aq ar : Int) (P1_ : Nat → Prop) (A1 : Option Addr) (c1 : Nat) (l1 : List Int) (ai ax : Int) (a5 : Option Addr) (a6 : Nat) (av : List Int) (ag ad : Int) (ah : Bool) (aV : Option Addr) (aX : Nat) (ae : List Int) (aW : Option Addr) (aY : Nat) (af r1 : List Int) (r2 : Bool) (w : World) (hr0_2 : Kd.C (Kd.int .i64) w a0 ak.length ak) (hc0_2 : ak.length ≤ a4) (hy : Kd.V (Kd.int .i64) 3 w w.heap.size (fun k_ => P1_ k_) (.slice A1 l1.length c1) l1) (hr2_2 : Kd.C (Kd.int .u32) w a5 av.length av) (hc2_2 : av.length ≤ a6) (hr3_3 : Kd.C (Kd.int .u32) w aV ae.length ae) (hc3_3 : ae.length ≤ aX) (hr3_4 : Kd.C (Kd.int .i64) w aW af.length af) (hc3_4 : af.length ≤ aY) (hG : Lg w) (h : spec_Legal.f k am an ak ao ap aq ar l1 ai ax av ag ad ah ae af = some (r1, r2)) :
  Calls Tryd.prog 13 #[.agg #[.int .u32 am, .int .i64 an, .slice a0 ak.length a4, .int .i64 ao, .int .i64 ap, .int .i64 aq, .int .i64 ar], .slice A1 l1.length c1, .agg #[.int .i64 ai, .int .u32 ax, .slice a5 av.length a6], .agg #[.int .i64 ag, .int .u32 ad, .bool ah, .slice aV ae.length aX, .slice aW af.length aY]] w fun e w' => ∃ v0_ : Value, e = .returned (.tuple #[v0_, .bool r2]) ∧ Kd.V (Kd.int .i64) 3 w' w.heap.size (fun k_ => (P1_ k_ ∨ w.heap.size ≤ k_)) v0_ r1 ∧ Below w.heap.size w w' := by
 have hu27 := Tryd.underlying27
 have hu30 := Tryd.underlying30
 have hu34 := Tryd.underlying34
 have bh := Aside0.mk hr0_2
 have be := Aside0.mk hc0_2
 clear hr0_2 hc0_2
 have aP := Aside0.mk (show Kd.V (Kd.int .i64) 3 w w.heap.size (fun k_ => (P1_ k_ ∨ w.heap.size ≤ k_)) (.slice A1 l1.length c1) l1 from Kd.V_mono hy (fun k_ hk => .inl hk))
 have bA := Aside0.mk hr2_2
 have bu := Aside0.mk hc2_2
 clear hr2_2 hc2_2
 have bi := Aside0.mk hr3_3
 have bf := Aside0.mk hc3_3
 clear hr3_3 hc3_3
 have bj := Aside0.mk hr3_4
 have bg := Aside0.mk hc3_4
 clear hr3_4 hc3_4
 have HB := Aside0.mk (Below.refl w.heap.size w)
 have HG := Aside0.mk hG
 clear hG
 have H : ((spec_fail.f 10).bind fun bt353 => ((spec_Same.f k ag ad ah ae af bt353.1 bt353.2.1 bt353.2.2.1 bt353.2.2.2.1 bt353.2.2.2.2).bind fun bD => (if bD = true then (spec_Legal.j0 k l1 true am an ak ao ap aq ar ai ax av ag ad ah ae af) else ((spec_fail.f 12).bind fun bt363 => ((spec_Same.f k ag ad ah ae af bt363.1 bt363.2.1 bt363.2.2.1 bt363.2.2.2.1 bt363.2.2.2.2).bind fun a9 => (spec_Legal.j0 k l1 a9 am an ak ao ap aq ar ai ax av ag ad ah ae af)))))) = some (r1, r2) := h
 clear h
 have ei := Aside0.mk H
 clear H
 go_enter Tryd.func13, Tryd.ntmps13
 go_upto_region 1 with (first | ((with_reducible refine gate_dst (N := 4) rfl ?_); refine box_event ?hg (N := 4) ?hd (cs := #[.int .u32 am, .int .i64 an, .slice a0 ak.length a4, .int .i64 ao, .int .i64 ap, .int .i64 aq, .int .i64 ar]) (t := 27) ?hr ?_; (case hd => rfl); (case hg => rfl); (case hr => first | (go_simp; done) | (go_simp; rfl)); intro aL hg w6 hbox hb; replace aP := vE_ aP hg hb; have ac := Aside0.mk (hbox); have hC := gG_ hg HB; have hz := gG_ hg HB; replace HB := hS_ HB hb; clear hb hbox hg) | ((with_reducible refine gate_dst (N := 6) rfl ?_); refine box_event ?hg (N := 6) ?hd (cs := #[.int .i64 ai, .int .u32 ax, .slice a5 av.length a6]) (t := 30) ?hr ?_; (case hd => rfl); (case hg => rfl); (case hr => first | (go_simp; done) | (go_simp; rfl)); intro aE hg w7 hbox hb; replace aP := vE_ aP hg hb; have ab := Aside0.mk (hbox); have hD := gG_ hg HB; have hA := gG_ hg HB; replace HB := hS_ HB hb; have aQ := nL_ hg ac; have aR := nG_ hg ac; replace ac := bB_ ac hb; clear hb hbox hg) | ((with_reducible refine gate_dst (N := 7) rfl ?_); refine box_event ?hg (N := 7) ?hd (cs := #[.int .i64 ag, .int .u32 ad, .bool ah, .slice aV ae.length aX, .slice aW af.length aY]) (t := 34) ?hr ?_; (case hd => rfl); (case hg => rfl); (case hr => first | (go_simp; done) | (go_simp; rfl)); intro aB hg w8 hbox hb; replace aP := vE_ aP hg hb; have aa := Aside0.mk (hbox); have hE := gG_ hg HB; have hB := gG_ hg HB; have a1 := nL_ hg ac; have a2 := nG_ hg ac; have aS := nL_ hg ab; have aT := nG_ hg ab; replace ab := bB_ ab hb; replace ac := bB_ ac hb; replace HB := hS_ HB hb; clear hb hbox hg))
 (try simp only [Act.put, List.setIfInBounds_toArray, List.set_cons_zero, List.set_cons_succ])
 go_cut [21] (fun v21 wc => ∃ (kq : Nat) (bH : Bool), v21 = .bool bH ∧ Aside0 (spec_Legal.j0 kq l1 bH am an ak ao ap aq ar ai ax av ag ad ah ae af = some (r1, r2)) ∧ Aside0 (kq ≤ k) ∧ Aside0 (Kd.V (Kd.int .i64) 3 wc w.heap.size (fun k_ => (P1_ k_ ∨ w.heap.size ≤ k_) ∧ k_ ≠ aL ∧ k_ ≠ aE ∧ k_ ≠ aB) (.slice A1 l1.length c1) l1) ∧ Aside0 (wc.heap[aL]? = some (.cells #[.int .u32 am, .int .i64 an, (.slice a0 ak.length a4), .int .i64 ao, .int .i64 ap, .int .i64 aq, .int .i64 ar] 27 (0, 0))) ∧ Aside0 (wc.heap[aE]? = some (.cells #[.int .i64 ai, .int .u32 ax, (.slice a5 av.length a6)] 30 (0, 0))) ∧ Aside0 (wc.heap[aB]? = some (.cells #[.int .i64 ag, .int .u32 ad, .bool ah, (.slice aV ae.length aX), (.slice aW af.length aY)] 34 (0, 0))) ∧ Aside0 (Below w.heap.size w wc))
 case first =>
  have H := ei.out; clear ei; replace H := bi_ H; obtain ⟨⟨bp, bq, br, bs, bt⟩, A90, H⟩ := H
  replace H : ((spec_Same.f k ag ad ah ae af bp bq br bs bt).bind fun bD => (if bD = true then (spec_Legal.j0 k l1 true am an ak ao ap aq ar ai ax av ag ad ah ae af) else ((spec_fail.f 12).bind fun bt363 => ((spec_Same.f k ag ad ah ae af bt363.1 bt363.2.1 bt363.2.2.1 bt363.2.2.2.1 bt363.2.2.2.2).bind fun a9 => (spec_Legal.j0 k l1 a9 am an ak ao ap aq ar ai ax av ag ad ah ae af))))) = some (r1, r2) := H
  have A9 := Aside0.mk A90; clear A90; replace H := bi_ H; obtain ⟨bD, A100, H⟩ := H
  replace H : (if bD = true then (spec_Legal.j0 k l1 true am an ak ao ap aq ar ai ax av ag ad ah ae af) else ((spec_fail.f 12).bind fun bt363 => ((spec_Same.f k ag ad ah ae af bt363.1 bt363.2.1 bt363.2.2.1 bt363.2.2.2.1 bt363.2.2.2.2).bind fun a9 => (spec_Legal.j0 k l1 a9 am an ak ao ap aq ar ai ax av ag ad ah ae af)))) = some (r1, r2) := H
  have A10 := Aside0.mk A100; clear A100
  by_cases c11 : bD = true
  ·subst c11
   have H1 : (spec_Legal.j0 k l1 true am an ak ao ap aq ar ai ax av ag ad ah ae af) = some (r1, r2) := by rw [if_pos rfl] at H; exact H
   clear H; have H := H1; clear H1
   have H' := Aside0.mk H
   clear H
   try go_wp2
   replace aP := Aside0.mk (Kd.V_drew aP.out); replace ac := Aside0.mk (blk_drew ac.out); replace ab := Aside0.mk (blk_drew ab.out); replace aa := Aside0.mk (blk_drew aa.out); replace HB := Aside0.mk (below_drew1 HB.out)
   refine start_ (n := 8) (S := fun w' => w'.cell? ⟨aB, 0, none⟩ = some (.int .i64 ag) ∧ w'.cell? ⟨aB, 1, none⟩ = some (.int .u32 ad) ∧ w'.cell? ⟨aB, 2, none⟩ = some (.bool ah) ∧ w'.cell? ⟨aB, 3, none⟩ = some (.slice aV ae.length aX) ∧ w'.cell? ⟨aB, 4, none⟩ = some (.slice aW af.length aY)) (ds := []) (tf 8 0) (by kernel_rfl) rfl rfl ⟨(blk_cell aa.out 0).trans rfl, (blk_cell aa.out 1).trans rfl, (blk_cell aa.out 2).trans rfl, (blk_cell aa.out 3).trans rfl, (blk_cell aa.out 4).trans rfl⟩ (fun hHeld => ?_); refine with_tabW spec_Legal.tab1 spec_Legal.bits1 (fun HT_ HW_ => ?_)
   generalize w8.drew = w12 at aP ac ab aa HB hHeld ⊢
   refine tk_ (i := 0) (N := some 14) (tf 8 1) rfl rfl HT_ HW_ hHeld (by rintro w' ⟨s0, s1, s2, s3, s4⟩; go_simp; with_reducible rfl) ?_
   refine on_ (i := 1) (N := some 15) (tf 8 3) HT_ (fun K hK => ?_)
   refine goes_ Tryd.func31 (by kernel_rfl) rfl #[.int .i64 10] (by rfl) rfl rfl am_ ?_
   with_reducible refine (spec_fail.calls 10 bp bq br bs bt _ A9.out).mono ?_
   rintro e w13 ⟨v357, v360, rfl, ho0, ho1, hb⟩
   refine ⟨_, rfl, ?_⟩
   replace aP := Aside0.mk (Kd.V_mono (Kd.V_told (Kd.V_told (Kd.V_old (vV_ aP) hb) (Kd.R_base ho0)) (Kd.R_base ho1)) (fun _ h_ => h_.1)); have aM := Aside0.mk (Kd.R_lower (Kd.R_newM (M := fun k_ => (w.heap.size ≤ k_)) ho0 (below_size (hB_ HB)) (fun k_ h_ => h_)) (below_size (hB_ HB))); have aN := Aside0.mk (Kd.R_lower (Kd.R_newM (M := fun k_ => (w.heap.size ≤ k_)) ho1 (below_size (hB_ HB)) (fun k_ h_ => h_)) (below_size (hB_ HB))); replace ac := bB_ ac hb; replace ab := bB_ ab hb; replace aa := bB_ aa hb; replace HB := hS_ HB hb
   (try clear hb)
   (try clear hb2)
   (try clear hk)
   (try clear hi)
   (try clear ho0)
   (try clear ho1)
   obtain ⟨ep, ez, eo14⟩ := Kd.R_slice aM.out
   (first | subst eo14 | (injection eo14 with f1_ f2_ f3_; have f4_ := f1_.symm; have f5_ := f3_.symm; clear f1_ f2_ f3_; subst f4_; subst f5_))
   obtain ⟨er, eA, eo15⟩ := Kd.R_slice aN.out
   (first | subst eo15 | (injection eo15 with f1_ f2_ f3_; have f4_ := f1_.symm; have f5_ := f3_.symm; clear f1_ f2_ f3_; subst f4_; subst f5_))
   refine hK.out _ _ (cl5_ aa) (fun hHeld => ?_)
   clear hK K
   refine norm_ (a' := ?_) ?_ ?_
   rotate_left
   ·show Act.put _ (some 15) _ = _
    simp only [Act.put, List.setIfInBounds_toArray, List.set_cons_zero, List.set_cons_succ, i64_w, i32_w]
    rfl
   refine on_ (i := 2) (N := some 16) (tf 8 7) HT_ (fun K hK => ?_)
   refine goes_ Tryd.func19 (by kernel_rfl) rfl #[.agg #[.int .i64 ag, .int .u32 ad, .bool ah, .slice aV ae.length aX, .slice aW af.length aY], .agg #[.int .i64 bp, .int .u32 bq, .bool br, .slice ep bs.length ez, .slice er bt.length eA]] (by rfl) rfl rfl am_ ?_
   with_reducible refine (spec_Same.calls k ag ad ah _ _ ae _ _ af bp bq br _ _ bs _ _ bt true _ ?side1 ?side2 ?side3 ?side4 ?side5 ?side6 ?side7 ?side8 A10.out).mono ?_
   (case side1 => exact cC_ bi HB)
   (case side2 => exact bf.out)
   (case side3 => exact cC_ bj HB)
   (case side4 => exact bg.out)
   (case side5 => exact cD_ (Kd.R_reads' aM.out).2.2)
   (case side6 => exact (Kd.R_reads' aM.out).2.1)
   (case side7 => exact cD_ (Kd.R_reads' aN.out).2.2)
   (case side8 => exact (Kd.R_reads' aN.out).2.1)
   rintro e w16 ⟨rfl, hb⟩
   refine ⟨_, rfl, ?_⟩
   replace aP := vB_ aP hb; replace aM := rB_ aM hb; replace aN := rB_ aN hb; replace ac := bB_ ac hb; replace ab := bB_ ab hb; replace aa := bB_ aa hb; replace HB := hS_ HB hb
   (try clear hb)
   (try clear hb2)
   (try clear hk)
   (try clear hi)
   refine hK.out _ _ (cl5_ aa) (fun hHeld => ?_)
   clear hK K
   refine norm_ (a' := ?_) ?_ ?_
   rotate_left
   ·show Act.put _ (some 16) _ = _
    simp only [Act.put, List.setIfInBounds_toArray, List.set_cons_zero, List.set_cons_succ, i64_w, i32_w]
    rfl
   refine pu_ (i := 3) (N := some 17) (tf 8 15) HT_ ?_; refine pn_ (i := 4) (N := some 18) (tf 8 31) HT_ ?_; refine pn_ (i := 5) (N := some 19) (tf 8 63) HT_ ?_; refine pn_ (i := 6) (N := some 20) (tf 8 127) HT_ ?_; refine pu_ (i := 7) (N := some 21) (tf 8 255) HT_ ?_
   refine done_ (done_of HT_.out (by kernel_rfl)) ?_
   try go_wp2
   go_meet
   case rel => exact ⟨_, (true), rs_, H', ⟨by first | omega | exact Nat.le_refl _⟩, ⟨Kd.V_mono (vV_ aP) (fun _ hk => ⟨hk.1.1.1.1.1, ⟨hk.1.1.1.1.2, ⟨hk.1.1.1.2, hk.1.1.2⟩⟩⟩)⟩, ⟨bk_ ac⟩, ⟨bk_ ab⟩, ⟨bk_ aa⟩, ⟨hB_ HB⟩⟩
  ·replace c11 := Bool.eq_false_iff.mpr c11
   subst c11
   have H1 : ((spec_fail.f 12).bind fun bt363 => ((spec_Same.f k ag ad ah ae af bt363.1 bt363.2.1 bt363.2.2.1 bt363.2.2.2.1 bt363.2.2.2.2).bind fun a9 => (spec_Legal.j0 k l1 a9 am an ak ao ap aq ar ai ax av ag ad ah ae af))) = some (r1, r2) := by rw [if_neg (show ¬ (false = true) by decide)] at H; exact H
   clear H; have H := H1; clear H1; replace H := bi_ H; obtain ⟨⟨dB, dC, dD, dE, dF⟩, A170, H⟩ := H
   replace H : ((spec_Same.f k ag ad ah ae af dB dC dD dE dF).bind fun a9 => (spec_Legal.j0 k l1 a9 am an ak ao ap aq ar ai ax av ag ad ah ae af)) = some (r1, r2) := H
   have A17 := Aside0.mk A170; clear A170; replace H := bi_ H; obtain ⟨a9, A180, H⟩ := H
   replace H : (spec_Legal.j0 k l1 a9 am an ak ao ap aq ar ai ax av ag ad ah ae af) = some (r1, r2) := H
   have A18 := Aside0.mk A180; clear A180
   have H' := Aside0.mk H
   clear H
   try go_wp2
   replace aP := Aside0.mk (Kd.V_drew aP.out); replace ac := Aside0.mk (blk_drew ac.out); replace ab := Aside0.mk (blk_drew ab.out); replace aa := Aside0.mk (blk_drew aa.out); replace HB := Aside0.mk (below_drew1 HB.out)
   refine start_ (n := 8) (S := fun w' => w'.cell? ⟨aB, 0, none⟩ = some (.int .i64 ag) ∧ w'.cell? ⟨aB, 1, none⟩ = some (.int .u32 ad) ∧ w'.cell? ⟨aB, 2, none⟩ = some (.bool ah) ∧ w'.cell? ⟨aB, 3, none⟩ = some (.slice aV ae.length aX) ∧ w'.cell? ⟨aB, 4, none⟩ = some (.slice aW af.length aY)) (ds := []) (tf 8 0) (by kernel_rfl) rfl rfl ⟨(blk_cell aa.out 0).trans rfl, (blk_cell aa.out 1).trans rfl, (blk_cell aa.out 2).trans rfl, (blk_cell aa.out 3).trans rfl, (blk_cell aa.out 4).trans rfl⟩ (fun hHeld => ?_); refine with_tabW spec_Legal.tab1 spec_Legal.bits1 (fun HT_ HW_ => ?_)
   generalize w8.drew = w19 at aP ac ab aa HB hHeld ⊢
   refine tk_ (i := 0) (N := some 14) (tf 8 1) rfl rfl HT_ HW_ hHeld (by rintro w' ⟨s0, s1, s2, s3, s4⟩; go_simp; with_reducible rfl) ?_
   refine on_ (i := 1) (N := some 15) (tf 8 3) HT_ (fun K hK => ?_)
   refine goes_ Tryd.func31 (by kernel_rfl) rfl #[.int .i64 10] (by rfl) rfl rfl am_ ?_
   with_reducible refine (spec_fail.calls 10 bp bq br bs bt _ A9.out).mono ?_
   rintro e w20 ⟨v357, v360, rfl, ho0, ho1, hb⟩
   refine ⟨_, rfl, ?_⟩
   replace aP := Aside0.mk (Kd.V_mono (Kd.V_told (Kd.V_told (Kd.V_old (vV_ aP) hb) (Kd.R_base ho0)) (Kd.R_base ho1)) (fun _ h_ => h_.1)); have aM := Aside0.mk (Kd.R_lower (Kd.R_newM (M := fun k_ => (w.heap.size ≤ k_)) ho0 (below_size (hB_ HB)) (fun k_ h_ => h_)) (below_size (hB_ HB))); have aN := Aside0.mk (Kd.R_lower (Kd.R_newM (M := fun k_ => (w.heap.size ≤ k_)) ho1 (below_size (hB_ HB)) (fun k_ h_ => h_)) (below_size (hB_ HB))); replace ac := bB_ ac hb; replace ab := bB_ ab hb; replace aa := bB_ aa hb; replace HB := hS_ HB hb
   (try clear hb)
   (try clear hb2)
   (try clear hk)
   (try clear hi)
   (try clear ho0)
   (try clear ho1)
   obtain ⟨et, eB, eo21⟩ := Kd.R_slice aM.out
   (first | subst eo21 | (injection eo21 with f1_ f2_ f3_; have f4_ := f1_.symm; have f5_ := f3_.symm; clear f1_ f2_ f3_; subst f4_; subst f5_))
   obtain ⟨eu, eC, eo22⟩ := Kd.R_slice aN.out
   (first | subst eo22 | (injection eo22 with f1_ f2_ f3_; have f4_ := f1_.symm; have f5_ := f3_.symm; clear f1_ f2_ f3_; subst f4_; subst f5_))
   refine hK.out _ _ (cl5_ aa) (fun hHeld => ?_)
   clear hK K
   refine norm_ (a' := ?_) ?_ ?_
   rotate_left
   ·show Act.put _ (some 15) _ = _
    simp only [Act.put, List.setIfInBounds_toArray, List.set_cons_zero, List.set_cons_succ, i64_w, i32_w]
    rfl
   refine on_ (i := 2) (N := some 16) (tf 8 7) HT_ (fun K hK => ?_)
   refine goes_ Tryd.func19 (by kernel_rfl) rfl #[.agg #[.int .i64 ag, .int .u32 ad, .bool ah, .slice aV ae.length aX, .slice aW af.length aY], .agg #[.int .i64 bp, .int .u32 bq, .bool br, .slice et bs.length eB, .slice eu bt.length eC]] (by rfl) rfl rfl am_ ?_
   with_reducible refine (spec_Same.calls k ag ad ah _ _ ae _ _ af bp bq br _ _ bs _ _ bt false _ ?side1 ?side2 ?side3 ?side4 ?side5 ?side6 ?side7 ?side8 A10.out).mono ?_
   (case side1 => exact cC_ bi HB)
   (case side2 => exact bf.out)
   (case side3 => exact cC_ bj HB)
   (case side4 => exact bg.out)
   (case side5 => exact cD_ (Kd.R_reads' aM.out).2.2)
   (case side6 => exact (Kd.R_reads' aM.out).2.1)
   (case side7 => exact cD_ (Kd.R_reads' aN.out).2.2)
   (case side8 => exact (Kd.R_reads' aN.out).2.1)
   rintro e w23 ⟨rfl, hb⟩
   refine ⟨_, rfl, ?_⟩
   replace aP := vB_ aP hb; replace aM := rB_ aM hb; replace aN := rB_ aN hb; replace ac := bB_ ac hb; replace ab := bB_ ab hb; replace aa := bB_ aa hb; replace HB := hS_ HB hb
   (try clear hb)
   (try clear hb2)
   (try clear hk)
   (try clear hi)
   refine hK.out _ _ (cl5_ aa) (fun hHeld => ?_)
   clear hK K
   refine norm_ (a' := ?_) ?_ ?_
   rotate_left
   ·show Act.put _ (some 16) _ = _
    simp only [Act.put, List.setIfInBounds_toArray, List.set_cons_zero, List.set_cons_succ, i64_w, i32_w]
    rfl
   refine pu_ (i := 3) (N := some 17) (tf 8 15) HT_ ?_; refine tk_ (i := 4) (N := some 18) (tf 8 31) rfl rfl HT_ HW_ hHeld (by rintro w' ⟨s0, s1, s2, s3, s4⟩; go_simp; with_reducible rfl) ?_
   refine on_ (i := 5) (N := some 19) (tf 8 63) HT_ (fun K hK => ?_)
   refine goes_ Tryd.func31 (by kernel_rfl) rfl #[.int .i64 12] (by rfl) rfl rfl am_ ?_
   with_reducible refine (spec_fail.calls 12 dB dC dD dE dF _ A17.out).mono ?_
   rintro e w24 ⟨v367, v370, rfl, ho0, ho1, hb⟩
   refine ⟨_, rfl, ?_⟩
   replace aP := Aside0.mk (Kd.V_mono (Kd.V_told (Kd.V_told (Kd.V_old (vV_ aP) hb) (Kd.R_base ho0)) (Kd.R_base ho1)) (fun _ h_ => h_.1)); have bv := Aside0.mk (Kd.R_lower (Kd.R_new' (Kd.R_newM (M := fun k_ => (w.heap.size ≤ k_)) ho0 (below_size (hB_ HB)) (fun k_ h_ => h_)) (Kd.R_lt (rR_ aM))) (below_size (hB_ HB))); replace aM := Aside0.mk (Kd.R_elder' (rR_ aM) (Kd.R_base ho0) hb); have bw := Aside0.mk (Kd.R_lower (Kd.R_new' (Kd.R_newM (M := fun k_ => (w.heap.size ≤ k_)) ho1 (below_size (hB_ HB)) (fun k_ h_ => h_)) (Kd.R_lt (rR_ aN))) (below_size (hB_ HB))); replace aN := Aside0.mk (Kd.R_elder' (rR_ aN) (Kd.R_base ho1) hb); replace ac := bB_ ac hb; replace ab := bB_ ab hb; replace aa := bB_ aa hb; replace HB := hS_ HB hb
   (try clear hb)
   (try clear hb2)
   (try clear hk)
   (try clear hi)
   (try clear ho0)
   (try clear ho1)
   obtain ⟨ev, eD, eo25⟩ := Kd.R_slice bv.out
   (first | subst eo25 | (injection eo25 with f1_ f2_ f3_; have f4_ := f1_.symm; have f5_ := f3_.symm; clear f1_ f2_ f3_; subst f4_; subst f5_))
   obtain ⟨ew, eE, eo26⟩ := Kd.R_slice bw.out
   (first | subst eo26 | (injection eo26 with f1_ f2_ f3_; have f4_ := f1_.symm; have f5_ := f3_.symm; clear f1_ f2_ f3_; subst f4_; subst f5_))
   refine hK.out _ _ (cl5_ aa) (fun hHeld => ?_)
   clear hK K
   refine norm_ (a' := ?_) ?_ ?_
   rotate_left
   ·show Act.put _ (some 19) _ = _
    simp only [Act.put, List.setIfInBounds_toArray, List.set_cons_zero, List.set_cons_succ, i64_w, i32_w]
    rfl
   refine on_ (i := 6) (N := some 20) (tf 8 127) HT_ (fun K hK => ?_)
   refine goes_ Tryd.func19 (by kernel_rfl) rfl #[.agg #[.int .i64 ag, .int .u32 ad, .bool ah, .slice aV ae.length aX, .slice aW af.length aY], .agg #[.int .i64 dB, .int .u32 dC, .bool dD, .slice ev dE.length eD, .slice ew dF.length eE]] (by rfl) rfl rfl am_ ?_
   with_reducible refine (spec_Same.calls k ag ad ah _ _ ae _ _ af dB dC dD _ _ dE _ _ dF a9 _ ?side1 ?side2 ?side3 ?side4 ?side5 ?side6 ?side7 ?side8 A18.out).mono ?_
   (case side1 => exact cC_ bi HB)
   (case side2 => exact bf.out)
   (case side3 => exact cC_ bj HB)
   (case side4 => exact bg.out)
   (case side5 => exact cD_ (Kd.R_reads' bv.out).2.2)
   (case side6 => exact (Kd.R_reads' bv.out).2.1)
   (case side7 => exact cD_ (Kd.R_reads' bw.out).2.2)
   (case side8 => exact (Kd.R_reads' bw.out).2.1)
   rintro e w27 ⟨rfl, hb⟩
   refine ⟨_, rfl, ?_⟩
   replace aP := vB_ aP hb; replace aM := rB_ aM hb; replace aN := rB_ aN hb; replace bv := rB_ bv hb; replace bw := rB_ bw hb; replace ac := bB_ ac hb; replace ab := bB_ ab hb; replace aa := bB_ aa hb; replace HB := hS_ HB hb
   (try clear hb)
   (try clear hb2)
   (try clear hk)
   (try clear hi)
   refine hK.out _ _ (cl5_ aa) (fun hHeld => ?_)
   clear hK K
   refine norm_ (a' := ?_) ?_ ?_
   rotate_left
   ·show Act.put _ (some 20) _ = _
    simp only [Act.put, List.setIfInBounds_toArray, List.set_cons_zero, List.set_cons_succ, i64_w, i32_w]
    rfl
   refine pu_ (i := 7) (N := some 21) (tf 8 255) HT_ ?_
   refine done_ (done_of HT_.out (by kernel_rfl)) ?_
   try go_wp2
   go_meet
   case rel => exact ⟨_, (a9), rs_, H', ⟨by first | omega | exact Nat.le_refl _⟩, ⟨Kd.V_mono (vV_ aP) (fun _ hk => ⟨hk.1.1.1.1.1.1.1, ⟨hk.1.1.1.1.1.1.2, ⟨hk.1.1.1.1.1.2, hk.1.1.1.1.2⟩⟩⟩)⟩, ⟨bk_ ac⟩, ⟨bk_ ab⟩, ⟨bk_ aa⟩, ⟨hB_ HB⟩⟩
 case rest =>
  clear ei
  try clear c1
  try clear c2
  try clear p2
  try clear c3
  try clear c11
  try clear c13
  try clear c19
  obtain ⟨kq, bH, rfl, HA, dR, aj, ac, ab, aa, HB⟩ := hcut
  cases kq with
  | zero => exact absurd HA.out (by simp [spec_Legal.j0])
  | succ kj4 =>
   have H := HA.out; clear HA; simp only [spec_Legal.j0] at H
   by_cases c28 : bH = true
   ·subst c28
    have H1 : (some (l1, true)) = some (r1, r2) := by rw [if_pos rfl] at H; exact H
    clear H; have H := H1; clear H1; simp only [Option.some.injEq, Prod.mk.injEq] at H; obtain ⟨rfl, rfl⟩ := H
    go_wp2
    go_ret2
    exact ⟨_, er_, Kd.V_mono (vV_ aj) (fun _ hk => hk.1), hB_ HB⟩
   ·replace c28 := Bool.eq_false_iff.mpr c28
    subst c28
    have H1 : ((spec_Some.f kj4 am an ak ao ap aq ar l1 ai ax av).bind fun bt373 => ((spec_Same.f kj4 ag ad ah ae af bt373.2.1 bt373.2.2.1 bt373.2.2.2.1 bt373.2.2.2.2.1 bt373.2.2.2.2.2).bind fun bF => (if bF = true then (some (bt373.1, true)) else ((ask_Check.f kj4 am an ak ao ap aq ar ai ax av).bind fun a7 => (if a7 = 0 then (if ai = 6 then ((spec_fail.f 11).bind fun bt388 => ((spec_Same.f kj4 ag ad ah ae af bt388.1 bt388.2.1 bt388.2.2.1 bt388.2.2.2.1 bt388.2.2.2.2).bind fun a8 => (spec_Legal.j1 kj4 l1 a8 am an ak ao ap aq ar ai ax av ag ad ah ae af))) else (spec_Legal.j1 kj4 l1 false am an ak ao ap aq ar ai ax av ag ad ah ae af)) else (some (l1, false))))))) = some (r1, r2) := by rw [if_neg (show ¬ (false = true) by decide)] at H; exact H
    clear H; have H := H1; clear H1; replace H := bi_ H; obtain ⟨⟨bE, aJ, aO, aZ, aF, aG⟩, A290, H⟩ := H
    replace H : ((spec_Same.f kj4 ag ad ah ae af aJ aO aZ aF aG).bind fun bF => (if bF = true then (some (bE, true)) else ((ask_Check.f kj4 am an ak ao ap aq ar ai ax av).bind fun a7 => (if a7 = 0 then (if ai = 6 then ((spec_fail.f 11).bind fun bt388 => ((spec_Same.f kj4 ag ad ah ae af bt388.1 bt388.2.1 bt388.2.2.1 bt388.2.2.2.1 bt388.2.2.2.2).bind fun a8 => (spec_Legal.j1 kj4 l1 a8 am an ak ao ap aq ar ai ax av ag ad ah ae af))) else (spec_Legal.j1 kj4 l1 false am an ak ao ap aq ar ai ax av ag ad ah ae af)) else (some (l1, false)))))) = some (r1, r2) := H
    have A29 := Aside0.mk A290; clear A290; replace H := bi_ H; obtain ⟨bF, A300, H⟩ := H
    replace H : (if bF = true then (some (bE, true)) else ((ask_Check.f kj4 am an ak ao ap aq ar ai ax av).bind fun a7 => (if a7 = 0 then (if ai = 6 then ((spec_fail.f 11).bind fun bt388 => ((spec_Same.f kj4 ag ad ah ae af bt388.1 bt388.2.1 bt388.2.2.1 bt388.2.2.2.1 bt388.2.2.2.2).bind fun a8 => (spec_Legal.j1 kj4 l1 a8 am an ak ao ap aq ar ai ax av ag ad ah ae af))) else (spec_Legal.j1 kj4 l1 false am an ak ao ap aq ar ai ax av ag ad ah ae af)) else (some (l1, false))))) = some (r1, r2) := H
    have A30 := Aside0.mk A300; clear A300
    by_cases c31 : bF = true
    ·subst c31
     have H1 : (some (bE, true)) = some (r1, r2) := by rw [if_pos rfl] at H; exact H
     clear H; have H := H1; clear H1; simp only [Option.some.injEq, Prod.mk.injEq] at H; obtain ⟨rfl, rfl⟩ := H; have hF := aQ.out; have h3 := aR.out; have hH := a1.out; have h4 := a2.out; obtain ⟨bJ, bK, bL, bM, bN, bO, bP, cy, cz, cA, cB, cC, cD, cE⟩ := cz7_ (w := wc) ac; have hI := aS.out; have h5 := aT.out; obtain ⟨bQ, bR, bS, cF, cG, cH⟩ := cz3_ (w := wc) ab
     go_wp2_with (first | ((with_reducible refine gate_callee (f := 15) rfl ?_); refine gL_ (some 27) Tryd.func15 #[.agg #[.int .u32 am, .int .i64 an, .slice a0 ak.length a4, .int .i64 ao, .int .i64 ap, .int .i64 aq, .int .i64 ar], .slice A1 l1.length c1, .agg #[.int .i64 ai, .int .u32 ax, .slice a5 av.length a6]] ?_; (with_reducible refine (spec_Some.calls kj4 am an _ _ ak ao ap aq ar (fun k_ => ((P1_ k_ ∨ w.heap.size ≤ k_) ∧ (k_ ≠ aL ∧ (k_ ≠ aE ∧ k_ ≠ aB)))) _ _ l1 ai ax _ _ av bE aJ aO aZ aF aG _ ?side1 ?side2 ?side3 ?side4 ?side5 ?side6 A29.out).mono ?_); (case side1 => exact cC_ bh HB); (case side2 => exact be.out); (case side3 => exact aj.out); (case side4 => exact cC_ bA HB); (case side5 => exact bu.out); (case side6 => exact Lg_below HG.out (hB_ HB)); rintro e w37 ⟨v374, v380, v383, rfl, ho0, ho1, ho2, hb⟩; refine ⟨_, rfl, ?_⟩; replace aj := Aside0.mk (Kd.V_mono (Kd.V_told (Kd.V_told (Kd.V_old (vV_ aj) hb) (Kd.R_base ho1)) (Kd.R_base ho2)) (fun _ h_ => h_.1)); have aD := Aside0.mk (Kd.V_lower (Kd.V_mono (ok' := fun k_ => (P1_ k_ ∨ w.heap.size ≤ k_) ∧ some k_ ≠ (v380 : Value).ownBlock ∧ some k_ ≠ (v383 : Value).ownBlock ∧ k_ ≠ aL ∧ k_ ≠ aE ∧ k_ ≠ aB) ho0 (fun k_ hk_ => ⟨Or.elim hk_.1 (fun hs_ => hs_.1) (fun hn_ => (.inr (Nat.le_trans (below_size (hB_ HB)) hn_))), hk_.2.1, hk_.2.2, Or.elim hk_.1 (fun hs_ => hs_.2.1) (fun hn_ => (fB_ ac k_ hn_)), Or.elim hk_.1 (fun hs_ => hs_.2.2.1) (fun hn_ => (fB_ ab k_ hn_)), Or.elim hk_.1 (fun hs_ => hs_.2.2.2) (fun hn_ => (fB_ aa k_ hn_))⟩)) (below_size (hB_ HB))); have ay := Aside0.mk (Kd.R_lower (Kd.R_newM (M := fun k_ => (w.heap.size ≤ k_)) (Kd.R_mono (ok' := fun k_ => True) ho1 (fun _ hk_ => trivial)) (below_size (hB_ HB)) (fun k_ h_ => h_)) (below_size (hB_ HB))); have az := Aside0.mk (Kd.R_lower (Kd.R_newM (M := fun k_ => (w.heap.size ≤ k_)) (Kd.R_mono (ok' := fun k_ => True) ho2 (fun _ hk_ => trivial)) (below_size (hB_ HB)) (fun k_ h_ => h_)) (below_size (hB_ HB))); replace ab := bB_ ab hb; replace HB := hS_ HB hb; replace ac := bB_ ac hb; replace aa := bB_ aa hb; (try clear hb); (try clear ho0); (try clear ho1); (try clear ho2)) | ((with_reducible refine gate_dst (N := 11) rfl ?_); refine box_event ?hg (N := 11) ?hd (cs := #[.int .i64 0, .int .u32 0, .bool false, .slice none 0 0, .slice none 0 0]) (t := 34) ?hr ?_; (case hd => rfl); (case hg => rfl); (case hr => first | (go_simp; done) | (go_simp; rfl)); intro aC hg w38 hbox hb; replace aj := vE_ aj hg hb; replace aD := vE_ aD hg hb; replace ay := rB_ ay hb; replace az := rB_ az hb; have al := Aside0.mk (hbox); have dQ := gG_ hg HB; have dP := gG_ hg HB; replace HB := hS_ HB hb; have au := nL_ hg ac; have aU := nG_ hg ac; have aw := nL_ hg ab; have a3 := nG_ hg ab; replace ab := bB_ ab hb; have aA := nL_ hg aa; have aK := nG_ hg aa; replace ac := bB_ ac hb; replace aa := bB_ aa hb; clear hb hbox hg; have hJ := aU.out; have h6 := au.out; have hL := a3.out; have h7 := aw.out; have hM := aK.out; have h8 := aA.out; obtain ⟨bT, bU, bV, bW, bX, cI, cJ, cK, cL, cM⟩ := cz5_ (w := w38) al; obtain ⟨dL, dA, eo43⟩ := Kd.R_slice ay.out; subst eo43; obtain ⟨eh, dO, eo44⟩ := Kd.R_slice az.out; subst eo44; obtain ⟨bY, bZ, b0, b1, b2, cN, cO, cP, cQ, cR⟩ := cz5_ (w := w38) aa) | ((with_reducible refine gate_callee (f := 19) rfl ?_); refine gL_ (some 33) Tryd.func19 #[.agg #[.int .i64 ag, .int .u32 ad, .bool ah, .slice aV ae.length aX, .slice aW af.length aY], .agg #[.int .i64 aJ, .int .u32 aO, .bool aZ, .slice dL aF.length dA, .slice eh aG.length dO]] ?_; (with_reducible refine (spec_Same.calls kj4 ag ad ah _ _ ae _ _ af aJ aO aZ _ _ aF _ _ aG true _ ?side1 ?side2 ?side3 ?side4 ?side5 ?side6 ?side7 ?side8 A30.out).mono ?_); (case side1 => exact Kd.C_below bi.out (hB_ HB)); (case side2 => exact bf.out); (case side3 => exact Kd.C_below bj.out (hB_ HB)); (case side4 => exact bg.out); (case side5 => refine (Kd.R_reads' (e := 22) (base := w.heap.size) (ok := fun k_ => ((w.heap.size ≤ k_) ∧ True)) (n := aF.length) (c := dA) ?_).2.2; exact (by (with_reducible repeat (first | apply Kd.R_alloc | apply Kd.R_drewN | apply Kd.R_drew)); exact (Kd.R_mono (rF5_ (g := aC) (Kd.R_types ay.out al.out (by decide)) (fun _ hk => hk.2)) (fun _ h_ => h_.1)))); (case side6 => exact (Kd.R_reads' ay.out).2.1); (case side7 => refine (Kd.R_reads' (e := 31) (base := w.heap.size) (ok := fun k_ => ((w.heap.size ≤ k_) ∧ True)) (n := aG.length) (c := dO) ?_).2.2; exact (by (with_reducible repeat (first | apply Kd.R_alloc | apply Kd.R_drewN | apply Kd.R_drew)); exact (Kd.R_mono (rF5_ (g := aC) (Kd.R_types az.out al.out (by decide)) (fun _ hk => hk.2)) (fun _ h_ => h_.1)))); (case side8 => exact (Kd.R_reads' az.out).2.1); rintro e w46 ⟨rfl, hb⟩; refine ⟨_, rfl, ?_⟩; replace aj := Aside0.mk (Kd.V_below (by (with_reducible repeat (first | apply Kd.V_alloc | apply Kd.V_drewN | apply Kd.V_drew)); exact (Kd.V_mono (vF5_ (g := aC) (Kd.V_mono aj.out (fun k_ hk => (⟨hk, hk.2⟩ : _ ∧ k_ ≠ aC))) (fun _ hk => hk.2)) (fun _ h_ => h_.1))) hb); replace aD := Aside0.mk (Kd.V_below (by (with_reducible repeat (first | apply Kd.V_alloc | apply Kd.V_drewN | apply Kd.V_drew)); exact (Kd.V_mono (vF5_ (g := aC) (Kd.V_mono aD.out (fun k_ hk => (⟨hk, hk.2⟩ : _ ∧ k_ ≠ aC))) (fun _ hk => hk.2)) (fun _ h_ => h_.1))) hb); replace ay := Aside0.mk (Kd.R_below (by (with_reducible repeat (first | apply Kd.R_alloc | apply Kd.R_drewN | apply Kd.R_drew)); exact (Kd.R_mono (rF5_ (g := aC) (Kd.R_types ay.out al.out (by decide)) (fun _ hk => hk.2)) (fun _ h_ => h_.1))) hb); replace az := Aside0.mk (Kd.R_below (by (with_reducible repeat (first | apply Kd.R_alloc | apply Kd.R_drewN | apply Kd.R_drew)); exact (Kd.R_mono (rF5_ (g := aC) (Kd.R_types az.out al.out (by decide)) (fun _ hk => hk.2)) (fun _ h_ => h_.1))) hb); replace ac := Aside0.mk (blk_below (g := aL) (o := .cells #[.int .u32 am, .int .i64 an, .slice a0 ak.length a4, .int .i64 ao, .int .i64 ap, .int .i64 aq, .int .i64 ar] 27 (0, 0)) (by (with_reducible repeat (first | refine blk_drewN ?_ _ | refine blk_drew ?_ | refine blk_alloc ?_ _)); refine blk_far ?_ au.out _; refine blk_far ?_ au.out _; refine blk_far ?_ au.out _; refine blk_far ?_ au.out _; refine blk_far ?_ au.out _; (with_reducible repeat (first | refine blk_drewN ?_ _ | refine blk_drew ?_ | refine blk_alloc ?_ _)); exact ac.out) hb); replace ab := Aside0.mk (blk_below (g := aE) (o := .cells #[.int .i64 ai, .int .u32 ax, .slice a5 av.length a6] 30 (0, 0)) (by (with_reducible repeat (first | refine blk_drewN ?_ _ | refine blk_drew ?_ | refine blk_alloc ?_ _)); refine blk_far ?_ aw.out _; refine blk_far ?_ aw.out _; refine blk_far ?_ aw.out _; refine blk_far ?_ aw.out _; refine blk_far ?_ aw.out _; (with_reducible repeat (first | refine blk_drewN ?_ _ | refine blk_drew ?_ | refine blk_alloc ?_ _)); exact ab.out) hb); replace aa := Aside0.mk (blk_below (g := aB) (o := .cells #[.int .i64 ag, .int .u32 ad, .bool ah, .slice aV ae.length aX, .slice aW af.length aY] 34 (0, 0)) (by (with_reducible repeat (first | refine blk_drewN ?_ _ | refine blk_drew ?_ | refine blk_alloc ?_ _)); refine blk_far ?_ aA.out _; refine blk_far ?_ aA.out _; refine blk_far ?_ aA.out _; refine blk_far ?_ aA.out _; refine blk_far ?_ aA.out _; (with_reducible repeat (first | refine blk_drewN ?_ _ | refine blk_drew ?_ | refine blk_alloc ?_ _)); exact aa.out) hb); replace al := Aside0.mk (blk_below (g := aC) (o := .cells #[.int .i64 aJ, .int .u32 aO, .bool aZ, .slice dL aF.length dA, .slice eh aG.length dO] 34 (0, 0)) (by (with_reducible repeat (first | refine blk_drewN ?_ _ | refine blk_drew ?_ | refine blk_alloc ?_ _)); refine blk_put (cs := #[.int .i64 aJ, .int .u32 aO, .bool aZ, .slice dL aF.length dA, .slice none 0 0]) ?_ 4 _ rfl; refine blk_put (cs := #[.int .i64 aJ, .int .u32 aO, .bool aZ, .slice none 0 0, .slice none 0 0]) ?_ 3 _ rfl; refine blk_put (cs := #[.int .i64 aJ, .int .u32 aO, .bool false, .slice none 0 0, .slice none 0 0]) ?_ 2 _ rfl; refine blk_put (cs := #[.int .i64 aJ, .int .u32 0, .bool false, .slice none 0 0, .slice none 0 0]) ?_ 1 _ rfl; refine blk_put (cs := #[.int .i64 0, .int .u32 0, .bool false, .slice none 0 0, .slice none 0 0]) ?_ 0 _ rfl; (with_reducible repeat (first | refine blk_drewN ?_ _ | refine blk_drew ?_ | refine blk_alloc ?_ _)); exact al.out) hb); replace HB := hS_ HB hb; (try clear hb)))
     go_ret2
     exact ⟨_, er_, Kd.V_mono (vV_ aD) (fun _ hk => hk.1.1), hB_ HB⟩
    ·replace c31 := Bool.eq_false_iff.mpr c31
     subst c31
     have H1 : ((ask_Check.f kj4 am an ak ao ap aq ar ai ax av).bind fun a7 => (if a7 = 0 then (if ai = 6 then ((spec_fail.f 11).bind fun bt388 => ((spec_Same.f kj4 ag ad ah ae af bt388.1 bt388.2.1 bt388.2.2.1 bt388.2.2.2.1 bt388.2.2.2.2).bind fun a8 => (spec_Legal.j1 kj4 l1 a8 am an ak ao ap aq ar ai ax av ag ad ah ae af))) else (spec_Legal.j1 kj4 l1 false am an ak ao ap aq ar ai ax av ag ad ah ae af)) else (some (l1, false)))) = some (r1, r2) := by rw [if_neg (show ¬ (false = true) by decide)] at H; exact H
     clear H; have H := H1; clear H1; replace H := bi_ H; obtain ⟨a7, A470, H⟩ := H
     replace H : (if a7 = 0 then (if ai = 6 then ((spec_fail.f 11).bind fun bt388 => ((spec_Same.f kj4 ag ad ah ae af bt388.1 bt388.2.1 bt388.2.2.1 bt388.2.2.2.1 bt388.2.2.2.2).bind fun a8 => (spec_Legal.j1 kj4 l1 a8 am an ak ao ap aq ar ai ax av ag ad ah ae af))) else (spec_Legal.j1 kj4 l1 false am an ak ao ap aq ar ai ax av ag ad ah ae af)) else (some (l1, false))) = some (r1, r2) := H
     have A47 := Aside0.mk A470; clear A470
     by_cases c48 : a7 = 0
     ·rw [if_pos c48] at H
      have dx : (a7 == 0) = true := beq_iff_eq.mpr c48
      have dy : (a7 != 0) = false := bne_eq_false_iff_eq.mpr c48
      clear c48; have dM := Aside0.mk H; clear H; have hN := aQ.out; have h9 := aR.out; have hO := a1.out; have ia := a2.out; obtain ⟨b3, b4, b5, b6, b7, b8, b9, cS, cT, cU, cV, cW, cX, cY⟩ := cz7_ (w := wc) ac; have hP := aS.out; have ib := aT.out; obtain ⟨ca, cb, cc, cZ, c0, da⟩ := cz3_ (w := wc) ab
      go_upto_region 7 with (first | ((with_reducible refine gate_callee (f := 15) rfl ?_); refine gL_ (some 27) Tryd.func15 #[.agg #[.int .u32 am, .int .i64 an, .slice a0 ak.length a4, .int .i64 ao, .int .i64 ap, .int .i64 aq, .int .i64 ar], .slice A1 l1.length c1, .agg #[.int .i64 ai, .int .u32 ax, .slice a5 av.length a6]] ?_; (with_reducible refine (spec_Some.calls kj4 am an _ _ ak ao ap aq ar (fun k_ => ((P1_ k_ ∨ w.heap.size ≤ k_) ∧ (k_ ≠ aL ∧ (k_ ≠ aE ∧ k_ ≠ aB)))) _ _ l1 ai ax _ _ av bE aJ aO aZ aF aG _ ?side1 ?side2 ?side3 ?side4 ?side5 ?side6 A29.out).mono ?_); (case side1 => exact cC_ bh HB); (case side2 => exact be.out); (case side3 => exact aj.out); (case side4 => exact cC_ bA HB); (case side5 => exact bu.out); (case side6 => exact Lg_below HG.out (hB_ HB)); rintro e w55 ⟨v374, v380, v383, rfl, ho0, ho1, ho2, hb⟩; refine ⟨_, rfl, ?_⟩; replace aj := Aside0.mk (Kd.V_mono (Kd.V_told (Kd.V_told (Kd.V_old (vV_ aj) hb) (Kd.R_base ho1)) (Kd.R_base ho2)) (fun _ h_ => h_.1)); have aD := Aside0.mk (Kd.V_lower (Kd.V_mono (ok' := fun k_ => (P1_ k_ ∨ w.heap.size ≤ k_) ∧ some k_ ≠ (v380 : Value).ownBlock ∧ some k_ ≠ (v383 : Value).ownBlock ∧ k_ ≠ aL ∧ k_ ≠ aE ∧ k_ ≠ aB) ho0 (fun k_ hk_ => ⟨Or.elim hk_.1 (fun hs_ => hs_.1) (fun hn_ => (.inr (Nat.le_trans (below_size (hB_ HB)) hn_))), hk_.2.1, hk_.2.2, Or.elim hk_.1 (fun hs_ => hs_.2.1) (fun hn_ => (fB_ ac k_ hn_)), Or.elim hk_.1 (fun hs_ => hs_.2.2.1) (fun hn_ => (fB_ ab k_ hn_)), Or.elim hk_.1 (fun hs_ => hs_.2.2.2) (fun hn_ => (fB_ aa k_ hn_))⟩)) (below_size (hB_ HB))); have ay := Aside0.mk (Kd.R_lower (Kd.R_newM (M := fun k_ => (w.heap.size ≤ k_)) (Kd.R_mono (ok' := fun k_ => True) ho1 (fun _ hk_ => trivial)) (below_size (hB_ HB)) (fun k_ h_ => h_)) (below_size (hB_ HB))); have az := Aside0.mk (Kd.R_lower (Kd.R_newM (M := fun k_ => (w.heap.size ≤ k_)) (Kd.R_mono (ok' := fun k_ => True) ho2 (fun _ hk_ => trivial)) (below_size (hB_ HB)) (fun k_ h_ => h_)) (below_size (hB_ HB))); replace ab := bB_ ab hb; replace HB := hS_ HB hb; replace ac := bB_ ac hb; replace aa := bB_ aa hb; (try clear hb); (try clear ho0); (try clear ho1); (try clear ho2)) | ((with_reducible refine gate_dst (N := 11) rfl ?_); refine box_event ?hg (N := 11) ?hd (cs := #[.int .i64 0, .int .u32 0, .bool false, .slice none 0 0, .slice none 0 0]) (t := 34) ?hr ?_; (case hd => rfl); (case hg => rfl); (case hr => first | (go_simp; done) | (go_simp; rfl)); intro aC hg w56 hbox hb; replace aj := vE_ aj hg hb; replace aD := vE_ aD hg hb; replace ay := rB_ ay hb; replace az := rB_ az hb; have al := Aside0.mk (hbox); have dQ := gG_ hg HB; have dP := gG_ hg HB; replace HB := hS_ HB hb; have au := nL_ hg ac; have aU := nG_ hg ac; have aw := nL_ hg ab; have a3 := nG_ hg ab; replace ab := bB_ ab hb; have aA := nL_ hg aa; have aK := nG_ hg aa; replace ac := bB_ ac hb; replace aa := bB_ aa hb; clear hb hbox hg; have hQ := aU.out; have ic := au.out; have hR := a3.out; have ie := aw.out; have hS := aK.out; have ig := aA.out; obtain ⟨cd, ce, cf, cg, ch, db, dc, dd, de, df⟩ := cz5_ (w := w56) al; obtain ⟨bb, ba, eo61⟩ := Kd.R_slice ay.out; subst eo61; obtain ⟨bk, bc, eo62⟩ := Kd.R_slice az.out; subst eo62; obtain ⟨ci, cj, ck, cl, cm, dg, dh, di, dj, dk⟩ := cz5_ (w := w56) aa) | ((with_reducible refine gate_callee (f := 19) rfl ?_); refine gL_ (some 33) Tryd.func19 #[.agg #[.int .i64 ag, .int .u32 ad, .bool ah, .slice aV ae.length aX, .slice aW af.length aY], .agg #[.int .i64 aJ, .int .u32 aO, .bool aZ, .slice bb aF.length ba, .slice bk aG.length bc]] ?_; (with_reducible refine (spec_Same.calls kj4 ag ad ah _ _ ae _ _ af aJ aO aZ _ _ aF _ _ aG false _ ?side1 ?side2 ?side3 ?side4 ?side5 ?side6 ?side7 ?side8 A30.out).mono ?_); (case side1 => exact Kd.C_below bi.out (hB_ HB)); (case side2 => exact bf.out); (case side3 => exact Kd.C_below bj.out (hB_ HB)); (case side4 => exact bg.out); (case side5 => refine (Kd.R_reads' (e := 22) (base := w.heap.size) (ok := fun k_ => ((w.heap.size ≤ k_) ∧ True)) (n := aF.length) (c := ba) ?_).2.2; exact (by (with_reducible repeat (first | apply Kd.R_alloc | apply Kd.R_drewN | apply Kd.R_drew)); exact (Kd.R_mono (rF5_ (g := aC) (Kd.R_types ay.out al.out (by decide)) (fun _ hk => hk.2)) (fun _ h_ => h_.1)))); (case side6 => exact (Kd.R_reads' ay.out).2.1); (case side7 => refine (Kd.R_reads' (e := 31) (base := w.heap.size) (ok := fun k_ => ((w.heap.size ≤ k_) ∧ True)) (n := aG.length) (c := bc) ?_).2.2; exact (by (with_reducible repeat (first | apply Kd.R_alloc | apply Kd.R_drewN | apply Kd.R_drew)); exact (Kd.R_mono (rF5_ (g := aC) (Kd.R_types az.out al.out (by decide)) (fun _ hk => hk.2)) (fun _ h_ => h_.1)))); (case side8 => exact (Kd.R_reads' az.out).2.1); rintro e w64 ⟨rfl, hb⟩; refine ⟨_, rfl, ?_⟩; replace aj := Aside0.mk (Kd.V_below (by (with_reducible repeat (first | apply Kd.V_alloc | apply Kd.V_drewN | apply Kd.V_drew)); exact (Kd.V_mono (vF5_ (g := aC) (Kd.V_mono aj.out (fun k_ hk => (⟨hk, hk.2⟩ : _ ∧ k_ ≠ aC))) (fun _ hk => hk.2)) (fun _ h_ => h_.1))) hb); replace aD := Aside0.mk (Kd.V_below (by (with_reducible repeat (first | apply Kd.V_alloc | apply Kd.V_drewN | apply Kd.V_drew)); exact (Kd.V_mono (vF5_ (g := aC) (Kd.V_mono aD.out (fun k_ hk => (⟨hk, hk.2⟩ : _ ∧ k_ ≠ aC))) (fun _ hk => hk.2)) (fun _ h_ => h_.1))) hb); replace ay := Aside0.mk (Kd.R_below (by (with_reducible repeat (first | apply Kd.R_alloc | apply Kd.R_drewN | apply Kd.R_drew)); exact (Kd.R_mono (rF5_ (g := aC) (Kd.R_types ay.out al.out (by decide)) (fun _ hk => hk.2)) (fun _ h_ => h_.1))) hb); replace az := Aside0.mk (Kd.R_below (by (with_reducible repeat (first | apply Kd.R_alloc | apply Kd.R_drewN | apply Kd.R_drew)); exact (Kd.R_mono (rF5_ (g := aC) (Kd.R_types az.out al.out (by decide)) (fun _ hk => hk.2)) (fun _ h_ => h_.1))) hb); replace ac := Aside0.mk (blk_below (g := aL) (o := .cells #[.int .u32 am, .int .i64 an, .slice a0 ak.length a4, .int .i64 ao, .int .i64 ap, .int .i64 aq, .int .i64 ar] 27 (0, 0)) (by (with_reducible repeat (first | refine blk_drewN ?_ _ | refine blk_drew ?_ | refine blk_alloc ?_ _)); refine blk_far ?_ au.out _; refine blk_far ?_ au.out _; refine blk_far ?_ au.out _; refine blk_far ?_ au.out _; refine blk_far ?_ au.out _; (with_reducible repeat (first | refine blk_drewN ?_ _ | refine blk_drew ?_ | refine blk_alloc ?_ _)); exact ac.out) hb); replace ab := Aside0.mk (blk_below (g := aE) (o := .cells #[.int .i64 ai, .int .u32 ax, .slice a5 av.length a6] 30 (0, 0)) (by (with_reducible repeat (first | refine blk_drewN ?_ _ | refine blk_drew ?_ | refine blk_alloc ?_ _)); refine blk_far ?_ aw.out _; refine blk_far ?_ aw.out _; refine blk_far ?_ aw.out _; refine blk_far ?_ aw.out _; refine blk_far ?_ aw.out _; (with_reducible repeat (first | refine blk_drewN ?_ _ | refine blk_drew ?_ | refine blk_alloc ?_ _)); exact ab.out) hb); replace aa := Aside0.mk (blk_below (g := aB) (o := .cells #[.int .i64 ag, .int .u32 ad, .bool ah, .slice aV ae.length aX, .slice aW af.length aY] 34 (0, 0)) (by (with_reducible repeat (first | refine blk_drewN ?_ _ | refine blk_drew ?_ | refine blk_alloc ?_ _)); refine blk_far ?_ aA.out _; refine blk_far ?_ aA.out _; refine blk_far ?_ aA.out _; refine blk_far ?_ aA.out _; refine blk_far ?_ aA.out _; (with_reducible repeat (first | refine blk_drewN ?_ _ | refine blk_drew ?_ | refine blk_alloc ?_ _)); exact aa.out) hb); replace al := Aside0.mk (blk_below (g := aC) (o := .cells #[.int .i64 aJ, .int .u32 aO, .bool aZ, .slice bb aF.length ba, .slice bk aG.length bc] 34 (0, 0)) (by (with_reducible repeat (first | refine blk_drewN ?_ _ | refine blk_drew ?_ | refine blk_alloc ?_ _)); refine blk_put (cs := #[.int .i64 aJ, .int .u32 aO, .bool aZ, .slice bb aF.length ba, .slice none 0 0]) ?_ 4 _ rfl; refine blk_put (cs := #[.int .i64 aJ, .int .u32 aO, .bool aZ, .slice none 0 0, .slice none 0 0]) ?_ 3 _ rfl; refine blk_put (cs := #[.int .i64 aJ, .int .u32 aO, .bool false, .slice none 0 0, .slice none 0 0]) ?_ 2 _ rfl; refine blk_put (cs := #[.int .i64 aJ, .int .u32 0, .bool false, .slice none 0 0, .slice none 0 0]) ?_ 1 _ rfl; refine blk_put (cs := #[.int .i64 0, .int .u32 0, .bool false, .slice none 0 0, .slice none 0 0]) ?_ 0 _ rfl; (with_reducible repeat (first | refine blk_drewN ?_ _ | refine blk_drew ?_ | refine blk_alloc ?_ _)); exact al.out) hb); replace HB := hS_ HB hb; (try clear hb); obtain ⟨cn, co, cp, cq, cr, ct, cu, dl, dm, dn, dp, dq, dr, dt⟩ := cz7_ (w := w64) ac; obtain ⟨cv, cw, cx, du, dv, dw⟩ := cz3_ (w := w64) ab) | ((with_reducible refine gate_callee (f := 32) rfl ?_); refine gL_ (some 38) Tryd.func32 #[.agg #[.int .u32 am, .int .i64 an, .slice a0 ak.length a4, .int .i64 ao, .int .i64 ap, .int .i64 aq, .int .i64 ar], .agg #[.int .i64 ai, .int .u32 ax, .slice a5 av.length a6]] ?_; (with_reducible refine (ask_Check.calls kj4 am an _ _ ak ao ap aq ar ai ax _ _ av a7 _ ?side1 ?side2 ?side3 ?side4 ?side5 A47.out).mono ?_); (case side1 => exact cC_ bh HB); (case side2 => exact be.out); (case side3 => exact cC_ bA HB); (case side4 => exact bu.out); (case side5 => exact Lg_below HG.out (hB_ HB)); rintro e w67 ⟨rfl, hb⟩; refine ⟨_, rfl, ?_⟩; replace aj := vB_ aj hb; replace aD := vB_ aD hb; replace ay := rB_ ay hb; replace az := rB_ az hb; replace ab := bB_ ab hb; replace al := bB_ al hb; replace ac := bB_ ac hb; replace aa := bB_ aa hb; replace HB := hS_ HB hb; (try clear hb)))
      (try simp only [Act.put, List.setIfInBounds_toArray, List.set_cons_zero, List.set_cons_succ])
      go_cut [40] (fun v40 wc => ∃ (kq : Nat) (bB : Bool), v40 = .bool bB ∧ Aside0 (spec_Legal.j1 kq l1 bB am an ak ao ap aq ar ai ax av ag ad ah ae af = some (r1, r2)) ∧ Aside0 (kq ≤ kj4) ∧ Aside0 (Kd.V (Kd.int .i64) 3 wc w.heap.size (fun k_ => (P1_ k_ ∨ w.heap.size ≤ k_) ∧ some k_ ≠ ((.slice bb aF.length ba) : Value).ownBlock ∧ some k_ ≠ ((.slice bk aG.length bc) : Value).ownBlock ∧ k_ ≠ aL ∧ k_ ≠ aE ∧ k_ ≠ aB ∧ k_ ≠ aC) (.slice A1 l1.length c1) l1) ∧ Aside0 (Kd.R (Kd.int .u32) 22 wc w.heap.size (fun k_ => (w.heap.size ≤ k_)) (.slice bb aF.length ba) aF) ∧ Aside0 (Kd.R (Kd.int .i64) 31 wc w.heap.size (fun k_ => (w.heap.size ≤ k_)) (.slice bk aG.length bc) aG) ∧ Aside0 (wc.heap[aL]? = some (.cells #[.int .u32 am, .int .i64 an, (.slice a0 ak.length a4), .int .i64 ao, .int .i64 ap, .int .i64 aq, .int .i64 ar] 27 (0, 0))) ∧ Aside0 (wc.heap[aE]? = some (.cells #[.int .i64 ai, .int .u32 ax, (.slice a5 av.length a6)] 30 (0, 0))) ∧ Aside0 (wc.heap[aB]? = some (.cells #[.int .i64 ag, .int .u32 ad, .bool ah, (.slice aV ae.length aX), (.slice aW af.length aY)] 34 (0, 0))) ∧ Aside0 (wc.heap[aC]? = some (.cells #[.int .i64 aJ, .int .u32 aO, .bool aZ, (.slice bb aF.length ba), (.slice bk aG.length bc)] 34 (0, 0))) ∧ Aside0 (Below w.heap.size w wc))
      case first =>
       have H := dM.out; clear dM
       by_cases c68 : ai = 6
       ·rw [if_pos c68] at H
        have bm : (ai == 6) = true := beq_iff_eq.mpr c68
        have dz : (ai != 6) = false := bne_eq_false_iff_eq.mpr c68
        clear c68
        (first | rw [bm] | (simp only [i64_w, i32_w]; rw [bm]) | skip)
        replace H := bi_ H; obtain ⟨⟨dG, dH, dI, dJ, dK⟩, A690, H⟩ := H
        replace H : ((spec_Same.f kj4 ag ad ah ae af dG dH dI dJ dK).bind fun a8 => (spec_Legal.j1 kj4 l1 a8 am an ak ao ap aq ar ai ax av ag ad ah ae af)) = some (r1, r2) := H
        have A69 := Aside0.mk A690; clear A690; replace H := bi_ H; obtain ⟨a8, A700, H⟩ := H
        replace H : (spec_Legal.j1 kj4 l1 a8 am an ak ao ap aq ar ai ax av ag ad ah ae af) = some (r1, r2) := H
        have A70 := Aside0.mk A700; clear A700
        have H' := Aside0.mk H
        clear H
        try go_wp2
        replace aj := Aside0.mk (Kd.V_drew aj.out); replace aD := Aside0.mk (Kd.V_drew aD.out); replace ay := Aside0.mk (Kd.R_drew ay.out); replace az := Aside0.mk (Kd.R_drew az.out); replace ac := Aside0.mk (blk_drew ac.out); replace ab := Aside0.mk (blk_drew ab.out); replace aa := Aside0.mk (blk_drew aa.out); replace al := Aside0.mk (blk_drew al.out); replace HB := Aside0.mk (below_drew1 HB.out)
        refine start_ (n := 9) (S := fun w' => w'.cell? ⟨aE, 0, none⟩ = some (.int .i64 ai) ∧ w'.cell? ⟨aE, 1, none⟩ = some (.int .u32 ax) ∧ w'.cell? ⟨aE, 2, none⟩ = some (.slice a5 av.length a6) ∧ w'.cell? ⟨aB, 0, none⟩ = some (.int .i64 ag) ∧ w'.cell? ⟨aB, 1, none⟩ = some (.int .u32 ad) ∧ w'.cell? ⟨aB, 2, none⟩ = some (.bool ah) ∧ w'.cell? ⟨aB, 3, none⟩ = some (.slice aV ae.length aX) ∧ w'.cell? ⟨aB, 4, none⟩ = some (.slice aW af.length aY)) (ds := []) (tf 9 0) (by kernel_rfl) rfl rfl ⟨(blk_cell ab.out 0).trans rfl, (blk_cell ab.out 1).trans rfl, (blk_cell ab.out 2).trans rfl, (blk_cell aa.out 0).trans rfl, (blk_cell aa.out 1).trans rfl, (blk_cell aa.out 2).trans rfl, (blk_cell aa.out 3).trans rfl, (blk_cell aa.out 4).trans rfl⟩ (fun hHeld => ?_); refine with_tabW spec_Legal.tab7 spec_Legal.bits7 (fun HT_ HW_ => ?_)
        generalize w67.drew = w71 at aj aD ay az ac ab aa al HB hHeld ⊢
        refine pu_ (i := 0) (N := some 41) (tf 9 1) HT_ ?_; refine tk_ (i := 1) (N := some 42) (tf 9 3) rfl rfl HT_ HW_ hHeld (by rintro w' ⟨s0, s1, s2, s3, s4, s5, s6, s7⟩; go_simp; with_reducible rfl) ?_; refine pu_ (i := 2) (N := some 43) (tf 9 7) HT_ ?_; refine pu_ (i := 3) (N := some 44) (tf 9 15) HT_ ?_; refine tk_ (i := 4) (N := some 45) (tf 9 31) rfl rfl HT_ HW_ hHeld (by rintro w' ⟨s0, s1, s2, s3, s4, s5, s6, s7⟩; go_simp; with_reducible rfl) ?_
        refine on_ (i := 5) (N := some 46) (tf 9 63) HT_ (fun K hK => ?_)
        refine goes_ Tryd.func31 (by kernel_rfl) rfl #[.int .i64 11] (by rfl) rfl rfl am_ ?_
        with_reducible refine (spec_fail.calls 11 dG dH dI dJ dK _ A69.out).mono ?_
        rintro e w72 ⟨v392, v395, rfl, ho0, ho1, hb⟩
        refine ⟨_, rfl, ?_⟩
        replace aj := Aside0.mk (Kd.V_mono (Kd.V_told (Kd.V_told (Kd.V_old (vV_ aj) hb) (Kd.R_base ho0)) (Kd.R_base ho1)) (fun _ h_ => h_.1)); replace aD := Aside0.mk (Kd.V_mono (Kd.V_told (Kd.V_told (Kd.V_old (vV_ aD) hb) (Kd.R_base ho0)) (Kd.R_base ho1)) (fun _ h_ => h_.1)); have bx := Aside0.mk (Kd.R_lower (Kd.R_new' (Kd.R_newM (M := fun k_ => (w.heap.size ≤ k_)) ho0 (below_size (hB_ HB)) (fun k_ h_ => h_)) (Kd.R_lt (rR_ ay))) (below_size (hB_ HB))); replace ay := Aside0.mk (Kd.R_elder' (rR_ ay) (Kd.R_base ho0) hb); have bz := Aside0.mk (Kd.R_lower (Kd.R_new' (Kd.R_newM (M := fun k_ => (w.heap.size ≤ k_)) ho1 (below_size (hB_ HB)) (fun k_ h_ => h_)) (Kd.R_lt (rR_ az))) (below_size (hB_ HB))); replace az := Aside0.mk (Kd.R_elder' (rR_ az) (Kd.R_base ho1) hb); replace ac := bB_ ac hb; replace ab := bB_ ab hb; replace aa := bB_ aa hb; replace al := bB_ al hb; replace HB := hS_ HB hb
        (try clear hb)
        (try clear hb2)
        (try clear hk)
        (try clear hi)
        (try clear ho0)
        (try clear ho1)
        obtain ⟨ex, eF, eo73⟩ := Kd.R_slice bx.out
        (first | subst eo73 | (injection eo73 with f1_ f2_ f3_; have f4_ := f1_.symm; have f5_ := f3_.symm; clear f1_ f2_ f3_; subst f4_; subst f5_))
        obtain ⟨ey, eG, eo74⟩ := Kd.R_slice bz.out
        (first | subst eo74 | (injection eo74 with f1_ f2_ f3_; have f4_ := f1_.symm; have f5_ := f3_.symm; clear f1_ f2_ f3_; subst f4_; subst f5_))
        refine hK.out _ _ (ck3_ ab (cl5_ aa)) (fun hHeld => ?_)
        clear hK K
        refine norm_ (a' := ?_) ?_ ?_
        rotate_left
        ·show Act.put _ (some 46) _ = _
         simp only [Act.put, List.setIfInBounds_toArray, List.set_cons_zero, List.set_cons_succ, i64_w, i32_w]
         rfl
        refine on_ (i := 6) (N := some 47) (tf 9 127) HT_ (fun K hK => ?_)
        refine goes_ Tryd.func19 (by kernel_rfl) rfl #[.agg #[.int .i64 ag, .int .u32 ad, .bool ah, .slice aV ae.length aX, .slice aW af.length aY], .agg #[.int .i64 dG, .int .u32 dH, .bool dI, .slice ex dJ.length eF, .slice ey dK.length eG]] (by rfl) rfl rfl am_ ?_
        with_reducible refine (spec_Same.calls kj4 ag ad ah _ _ ae _ _ af dG dH dI _ _ dJ _ _ dK a8 _ ?side1 ?side2 ?side3 ?side4 ?side5 ?side6 ?side7 ?side8 A70.out).mono ?_
        (case side1 => exact cC_ bi HB)
        (case side2 => exact bf.out)
        (case side3 => exact cC_ bj HB)
        (case side4 => exact bg.out)
        (case side5 => exact cD_ (Kd.R_reads' bx.out).2.2)
        (case side6 => exact (Kd.R_reads' bx.out).2.1)
        (case side7 => exact cD_ (Kd.R_reads' bz.out).2.2)
        (case side8 => exact (Kd.R_reads' bz.out).2.1)
        rintro e w75 ⟨rfl, hb⟩
        refine ⟨_, rfl, ?_⟩
        replace aj := vB_ aj hb; replace aD := vB_ aD hb; replace ay := rB_ ay hb; replace az := rB_ az hb; replace bx := rB_ bx hb; replace bz := rB_ bz hb; replace ac := bB_ ac hb; replace ab := bB_ ab hb; replace aa := bB_ aa hb; replace al := bB_ al hb; replace HB := hS_ HB hb
        (try clear hb)
        (try clear hb2)
        (try clear hk)
        (try clear hi)
        refine hK.out _ _ (ck3_ ab (cl5_ aa)) (fun hHeld => ?_)
        clear hK K
        refine norm_ (a' := ?_) ?_ ?_
        rotate_left
        ·show Act.put _ (some 47) _ = _
         simp only [Act.put, List.setIfInBounds_toArray, List.set_cons_zero, List.set_cons_succ, i64_w, i32_w]
         rfl
        refine pu_ (i := 7) (N := some 48) (tf 9 255) HT_ ?_; refine pu_ (i := 8) (N := some 40) (tf 9 511) HT_ ?_
        refine done_ (done_of HT_.out (by kernel_rfl)) ?_
        try go_wp2
        go_meet
        case rel => exact ⟨_, (a8), rs_, H', ⟨by have := dR.out; first | omega | exact Nat.le_refl _⟩, ⟨Kd.V_mono (vV_ aj) (fun _ hk => ⟨hk.1.1.1.1.1.1, ⟨hk.1.1.1.1.2, ⟨hk.1.1.1.2, ⟨hk.1.1.1.1.1.2.1, ⟨hk.1.1.1.1.1.2.2.1, ⟨hk.1.1.1.1.1.2.2.2, hk.1.1.2⟩⟩⟩⟩⟩⟩)⟩, ⟨Kd.R_mono (rR_ ay) (fun _ hk => hk.1.1)⟩, ⟨Kd.R_mono (rR_ az) (fun _ hk => hk.1.1)⟩, ⟨bk_ ac⟩, ⟨bk_ ab⟩, ⟨bk_ aa⟩, ⟨bk_ al⟩, ⟨hB_ HB⟩⟩
       ·rw [if_neg c68] at H
        have bm : (ai == 6) = false := beq_eq_false_iff_ne.mpr c68
        have dz : (ai != 6) = true := bne_iff_ne.mpr c68
        (first | rw [bm] | (simp only [i64_w, i32_w]; rw [bm]) | skip)
        have H' := Aside0.mk H
        clear H
        try go_wp2
        replace aj := Aside0.mk (Kd.V_drew aj.out); replace aD := Aside0.mk (Kd.V_drew aD.out); replace ay := Aside0.mk (Kd.R_drew ay.out); replace az := Aside0.mk (Kd.R_drew az.out); replace ac := Aside0.mk (blk_drew ac.out); replace ab := Aside0.mk (blk_drew ab.out); replace aa := Aside0.mk (blk_drew aa.out); replace al := Aside0.mk (blk_drew al.out); replace HB := Aside0.mk (below_drew1 HB.out)
        refine start_ (n := 9) (S := fun w' => w'.cell? ⟨aE, 0, none⟩ = some (.int .i64 ai) ∧ w'.cell? ⟨aE, 1, none⟩ = some (.int .u32 ax) ∧ w'.cell? ⟨aE, 2, none⟩ = some (.slice a5 av.length a6)) (ds := []) (tf 9 0) (by kernel_rfl) rfl rfl ⟨(blk_cell ab.out 0).trans rfl, (blk_cell ab.out 1).trans rfl, (blk_cell ab.out 2).trans rfl⟩ (fun hHeld => ?_); refine with_tabW spec_Legal.tab7 spec_Legal.bits7 (fun HT_ HW_ => ?_)
        generalize w67.drew = w76 at aj aD ay az ac ab aa al HB hHeld ⊢
        refine pu_ (i := 0) (N := some 41) (tf 9 1) HT_ ?_; refine tk_ (i := 1) (N := some 42) (tf 9 3) rfl rfl HT_ HW_ hHeld (by rintro w' ⟨s0, s1, s2⟩; go_simp; with_reducible rfl) ?_; refine pu_ (i := 2) (N := some 43) (tf 9 7) HT_ ?_; refine pu_ (i := 3) (N := some 44) (tf 9 15) HT_ ?_; refine pn_ (i := 4) (N := some 45) (tf 9 31) HT_ ?_; refine pn_ (i := 5) (N := some 46) (tf 9 63) HT_ ?_; refine pn_ (i := 6) (N := some 47) (tf 9 127) HT_ ?_; refine pu_ (i := 7) (N := some 48) (tf 9 255) HT_ ?_; refine pu_ (i := 8) (N := some 40) (tf 9 511) HT_ ?_
        refine done_ (done_of HT_.out (by kernel_rfl)) ?_
        try go_wp2
        go_meet
        case rel => exact ⟨_, (false), rs_, H', ⟨by have := dR.out; first | omega | exact Nat.le_refl _⟩, ⟨Kd.V_mono (vV_ aj) (fun _ hk => ⟨hk.1.1.1.1, ⟨hk.1.1.2, ⟨hk.1.2, ⟨hk.1.1.1.2.1, ⟨hk.1.1.1.2.2.1, ⟨hk.1.1.1.2.2.2, hk.2⟩⟩⟩⟩⟩⟩)⟩, ⟨Kd.R_mono (rR_ ay) (fun _ hk => hk.1)⟩, ⟨Kd.R_mono (rR_ az) (fun _ hk => hk.1)⟩, ⟨bk_ ac⟩, ⟨bk_ ab⟩, ⟨bk_ aa⟩, ⟨bk_ al⟩, ⟨hB_ HB⟩⟩
      case rest =>
       clear dM
       try clear c1
       try clear c2
       try clear p2
       try clear c3
       try clear c4
       try clear c5
       try clear c6
       try clear c11
       try clear c13
       try clear c15
       try clear c19
       try clear c28
       try clear c31
       try clear c32
       try clear c33
       try clear c35
       try clear c39
       try clear c40
       try clear c41
       try clear c48
       try clear dx
       try clear dy
       try clear c50
       try clear c51
       try clear c53
       try clear c57
       try clear c58
       try clear c59
       try clear c68
       try clear bm
       try clear dz
       try clear bJ bK bL bM bN bO bP
       try clear bQ bR bS
       try clear bT bU bV bW bX
       try clear bY bZ b0 b1 b2
       try clear b3 b4 b5 b6 b7 b8 b9
       try clear ca cb cc
       try clear cd ce cf cg ch
       try clear ci cj ck cl cm
       try clear cn co cp cq cr ct cu
       try clear cv cw cx
       try clear cy cz cA cB cC cD cE
       try clear cF cG cH
       try clear cI cJ cK cL cM
       try clear cN cO cP cQ cR
       try clear cS cT cU cV cW cX cY
       try clear cZ c0 da
       try clear db dc dd de df
       try clear dg dh di dj dk
       try clear dl dm dn dp dq dr dt
       try clear du dv dw
       try clear p2
       obtain ⟨kq, bB, rfl, HA, ej, aj, aH, aI, ac, ab, aa, al, HB⟩ := hcut
       cases kq with
       | zero => exact absurd HA.out (by simp [spec_Legal.j1])
       | succ kj48 =>
        have H := HA.out; clear HA; simp only [spec_Legal.j1] at H
        by_cases c77 : bB = true
        ·subst c77
         have H1 : (some (l1, true)) = some (r1, r2) := by rw [if_pos rfl] at H; exact H
         clear H; have H := H1; clear H1; simp only [Option.some.injEq, Prod.mk.injEq] at H; obtain ⟨rfl, rfl⟩ := H
         go_wp2
         go_ret2
         exact ⟨_, er_, Kd.V_mono (vV_ aj) (fun _ hk => hk.1), hB_ HB⟩
        ·replace c77 := Bool.eq_false_iff.mpr c77
         subst c77
         have H1 : (if ai = 1 then ((spec_Same.f kj48 ag ad ah ae af 0 ad false ([] : List Int) ([] : List Int)).bind fun bI => (spec_Legal.j2 kj48 l1 bI am an ak ao ap aq ar ag ad ah ae af)) else (spec_Legal.j2 kj48 l1 false am an ak ao ap aq ar ag ad ah ae af)) = some (r1, r2) := by rw [if_neg (show ¬ (false = true) by decide)] at H; exact H
         clear H; have H := H1; clear H1; have dN := Aside0.mk H; clear H
         go_upto_region 9 with (fail)
         go_cut [50] (fun v50 wc => ∃ (kq : Nat) (bC : Bool), v50 = .bool bC ∧ Aside0 (spec_Legal.j2 kq l1 bC am an ak ao ap aq ar ag ad ah ae af = some (r1, r2)) ∧ Aside0 (kq ≤ kj48) ∧ Aside0 (Kd.V (Kd.int .i64) 3 wc w.heap.size (fun k_ => (P1_ k_ ∨ w.heap.size ≤ k_) ∧ some k_ ≠ ((.slice bb aF.length ba) : Value).ownBlock ∧ some k_ ≠ ((.slice bk aG.length bc) : Value).ownBlock ∧ k_ ≠ aL ∧ k_ ≠ aE ∧ k_ ≠ aB ∧ k_ ≠ aC) (.slice A1 l1.length c1) l1) ∧ Aside0 (Kd.R (Kd.int .u32) 22 wc w.heap.size (fun k_ => (w.heap.size ≤ k_)) (.slice bb aF.length ba) aF) ∧ Aside0 (Kd.R (Kd.int .i64) 31 wc w.heap.size (fun k_ => (w.heap.size ≤ k_)) (.slice bk aG.length bc) aG) ∧ Aside0 (wc.heap[aL]? = some (.cells #[.int .u32 am, .int .i64 an, (.slice a0 ak.length a4), .int .i64 ao, .int .i64 ap, .int .i64 aq, .int .i64 ar] 27 (0, 0))) ∧ Aside0 (wc.heap[aE]? = some (.cells #[.int .i64 ai, .int .u32 ax, (.slice a5 av.length a6)] 30 (0, 0))) ∧ Aside0 (wc.heap[aB]? = some (.cells #[.int .i64 ag, .int .u32 ad, .bool ah, (.slice aV ae.length aX), (.slice aW af.length aY)] 34 (0, 0))) ∧ Aside0 (wc.heap[aC]? = some (.cells #[.int .i64 aJ, .int .u32 aO, .bool aZ, (.slice bb aF.length ba), (.slice bk aG.length bc)] 34 (0, 0))) ∧ Aside0 (Below w.heap.size w wc))
         case first =>
          have H := dN.out; clear dN
          by_cases c79 : ai = 1
          ·rw [if_pos c79] at H
           have bo : (ai == 1) = true := beq_iff_eq.mpr c79
           have dS : (ai != 1) = false := bne_eq_false_iff_eq.mpr c79
           clear c79
           (first | rw [bo] | (simp only [i64_w, i32_w]; rw [bo]) | skip)
           replace H := bi_ H; obtain ⟨bI, A800, H⟩ := H
           replace H : (spec_Legal.j2 kj48 l1 bI am an ak ao ap aq ar ag ad ah ae af) = some (r1, r2) := H
           have A80 := Aside0.mk A800; clear A800
           have H' := Aside0.mk H
           clear H; have hT := aR.out; have ii := aQ.out; have hU := aS.out; have ij := aT.out; have hV := aw.out; have ik := a3.out; obtain ⟨dV, dW, dX, d6, d7, d8⟩ := cz3_ (w := wc) ab; have hW := a2.out; have il := a1.out; have hX := aA.out; have im := aK.out; obtain ⟨dY, dZ, d0, d1, d2, d9, ea, eb, ec, ed⟩ := cz5_ (w := wc) aa
           go_wp2_with (first | (go_at_call 19; (refine (spec_Same.calls kj48 ag ad ah _ _ ae _ _ af 0 ad false _ _ ([] : List Int) _ _ ([] : List Int) bI _ ?side1 ?side2 ?side3 ?side4 ?side5 ?side6 ?side7 ?side8 A80.out).mono ?_); (case side1 => exact cC_ bi HB); (case side2 => exact bf.out); (case side3 => exact cC_ bj HB); (case side4 => exact bg.out); (case side5 => exact Kd.C_nil _ _); (case side6 => exact Nat.le_refl _); (case side7 => exact Kd.C_nil _ _); (case side8 => exact Nat.le_refl _); rintro e w88 ⟨rfl, hb⟩; (try clear A80); replace aj := vB_ aj hb; replace aH := rB_ aH hb; replace aI := rB_ aI hb; replace ab := bB_ ab hb; replace al := bB_ al hb; replace ac := bB_ ac hb; replace aa := bB_ aa hb; replace HB := hS_ HB hb; (try clear hb)))
           go_meet
           case rel => exact ⟨_, (bI), rs_, H', ⟨by have := dR.out; have := ej.out; first | omega | exact Nat.le_refl _⟩, ⟨vV_ aj⟩, ⟨rR_ aH⟩, ⟨rR_ aI⟩, ⟨bk_ ac⟩, ⟨bk_ ab⟩, ⟨bk_ aa⟩, ⟨bk_ al⟩, ⟨hB_ HB⟩⟩
          ·rw [if_neg c79] at H
           have bo : (ai == 1) = false := beq_eq_false_iff_ne.mpr c79
           have dS : (ai != 1) = true := bne_iff_ne.mpr c79
           (first | rw [bo] | (simp only [i64_w, i32_w]; rw [bo]) | skip)
           have H' := Aside0.mk H
           clear H; have hY := aR.out; have io := aQ.out; have hZ := aS.out; have ip := aT.out; have h0 := aw.out; have iq := a3.out; obtain ⟨d3, d4, d5, ee, ef, eg⟩ := cz3_ (w := wc) ab
           go_wp2
           go_meet
           case rel => exact ⟨_, (false), rs_, H', ⟨by have := dR.out; have := ej.out; first | omega | exact Nat.le_refl _⟩, ⟨vV_ aj⟩, ⟨rR_ aH⟩, ⟨rR_ aI⟩, ⟨bk_ ac⟩, ⟨bk_ ab⟩, ⟨bk_ aa⟩, ⟨bk_ al⟩, ⟨hB_ HB⟩⟩
         case rest =>
          clear dN
          try clear c1
          try clear c2
          try clear p2
          try clear c3
          try clear c4
          try clear c5
          try clear c6
          try clear c7
          try clear c8
          try clear c9
          try clear c11
          try clear c13
          try clear c15
          try clear c19
          try clear c28
          try clear c31
          try clear c32
          try clear c33
          try clear c35
          try clear c39
          try clear c40
          try clear c41
          try clear c48
          try clear dx
          try clear dy
          try clear c50
          try clear c51
          try clear c53
          try clear c57
          try clear c58
          try clear c59
          try clear c68
          try clear bm
          try clear dz
          try clear c77
          try clear c79
          try clear bo
          try clear dS
          try clear c81
          try clear c82
          try clear c83
          try clear c85
          try clear c86
          try clear c89
          try clear c90
          try clear c91
          try clear bJ bK bL bM bN bO bP
          try clear bQ bR bS
          try clear bT bU bV bW bX
          try clear bY bZ b0 b1 b2
          try clear b3 b4 b5 b6 b7 b8 b9
          try clear ca cb cc
          try clear cd ce cf cg ch
          try clear ci cj ck cl cm
          try clear cn co cp cq cr ct cu
          try clear cv cw cx
          try clear dV dW dX
          try clear dY dZ d0 d1 d2
          try clear d3 d4 d5
          try clear cy cz cA cB cC cD cE
          try clear cF cG cH
          try clear cI cJ cK cL cM
          try clear cN cO cP cQ cR
          try clear cS cT cU cV cW cX cY
          try clear cZ c0 da
          try clear db dc dd de df
          try clear dg dh di dj dk
          try clear dl dm dn dp dq dr dt
          try clear du dv dw
          try clear d6 d7 d8
          try clear d9 ea eb ec ed
          try clear ee ef eg
          try clear p2
          obtain ⟨kq, bC, rfl, HA, iu, aj, aH, aI, ac, ab, aa, al, HB⟩ := hcut
          cases kq with
          | zero => exact absurd HA.out (by simp [spec_Legal.j2])
          | succ kj77 =>
           have H := HA.out; clear HA; simp only [spec_Legal.j2] at H
           by_cases c93 : bC = true
           ·subst c93
            have H1 : ((block_Find.f kj77 am an ak ao ap aq ar ad).bind fun bt399 => (if bt399.2 = 0 then ((model_Has.f kj77 l1 bt399.1).bind fun bG => (if bG = true then (some (l1, false)) else ((model_With.f kj77 l1 bt399.1).bind fun bl => (some (bl, true))))) else (some (l1, false)))) = some (r1, r2) := by rw [if_pos rfl] at H; exact H
            clear H; have H := H1; clear H1; replace H := bi_ H; obtain ⟨⟨bd, bn⟩, A940, H⟩ := H
            replace H : (if bn = 0 then ((model_Has.f kj77 l1 bd).bind fun bG => (if bG = true then (some (l1, false)) else ((model_With.f kj77 l1 bd).bind fun bl => (some (bl, true))))) else (some (l1, false))) = some (r1, r2) := H
            have A94 := Aside0.mk A940; clear A940
            by_cases c95 : bn = 0
            ·rw [if_pos c95] at H
             have en : (bn == 0) = true := beq_iff_eq.mpr c95
             have eo : (bn != 0) = false := bne_eq_false_iff_eq.mpr c95
             clear c95; replace H := bi_ H; obtain ⟨bG, A960, H⟩ := H
             replace H : (if bG = true then (some (l1, false)) else ((model_With.f kj77 l1 bd).bind fun bl => (some (bl, true)))) = some (r1, r2) := H
             have A96 := Aside0.mk A960; clear A960
             by_cases c97 : bG = true
             ·subst c97
              have H1 : (some (l1, false)) = some (r1, r2) := by rw [if_pos rfl] at H; exact H
              clear H; have H := H1; clear H1; simp only [Option.some.injEq, Prod.mk.injEq] at H; obtain ⟨rfl, rfl⟩ := H; have h1 := aQ.out; have ir := aR.out; have h2 := a1.out; have it := a2.out; have gQ := au.out; have g9 := aU.out; obtain ⟨eH, eI, eJ, eK, eL, eM, eN, fL, fM, fN, fO, fP, fQ, fR⟩ := cz7_ (w := wc) ac; have gR := aT.out; have ha := aS.out; have gS := aA.out; have hc := aK.out; obtain ⟨eO, eP, eQ, eR, eS, fS, fT, fU, fV, fW⟩ := cz5_ (w := wc) aa
              go_wp2_with (first | ((with_reducible refine gate_callee (f := 33) rfl ?_); refine gL_ (some 65) Tryd.func33 #[.agg #[.int .u32 am, .int .i64 an, .slice a0 ak.length a4, .int .i64 ao, .int .i64 ap, .int .i64 aq, .int .i64 ar], .int .u32 ad] ?_; (with_reducible refine (block_Find.calls kj77 am an _ _ ak ao ap aq ar ad bd bn _ ?side1 ?side2 A94.out).mono ?_); (case side1 => exact cC_ bh HB); (case side2 => exact be.out); rintro e w105 ⟨rfl, hb⟩; refine ⟨_, rfl, ?_⟩; replace aj := vB_ aj hb; replace aH := rB_ aH hb; replace aI := rB_ aI hb; replace ab := bB_ ab hb; replace al := bB_ al hb; replace ac := bB_ ac hb; replace aa := bB_ aa hb; replace HB := hS_ HB hb; (try clear hb)) | (go_at_call 34; (with_reducible refine (model_Has.calls kj77 _ _ l1 bd true _ ?side1 ?side2 A96.out).mono ?_); (case side1 => exact cD_ (Kd.V_reads' aj.out).2.2); (case side2 => exact (Kd.V_reads' aj.out).2.1); rintro e w' ⟨rfl, ⟨nd, rfl⟩⟩))
              go_ret2
              exact ⟨_, er_, Kd.V_mono (vV_ aj) (fun _ hk => hk.1), hB_ HB⟩
             ·replace c97 := Bool.eq_false_iff.mpr c97
              subst c97
              have H1 : ((model_With.f kj77 l1 bd).bind fun bl => (some (bl, true))) = some (r1, r2) := by rw [if_neg (show ¬ (false = true) by decide)] at H; exact H
              clear H; have H := H1; clear H1; replace H := bi_ H; obtain ⟨bl, A1060, H⟩ := H
              replace H : (some (bl, true)) = some (r1, r2) := H
              have A106 := Aside0.mk A1060; clear A1060; simp only [Option.some.injEq, Prod.mk.injEq] at H; obtain ⟨rfl, rfl⟩ := H; have gT := aQ.out; have he := aR.out; have gU := a1.out; have hf := a2.out; have gV := au.out; have hh := aU.out; obtain ⟨eT, eU, eV, eW, eX, eY, eZ, fX, fY, fZ, f0, f1, f2, f3⟩ := cz7_ (w := wc) ac; have gW := aT.out; have hj := aS.out; have gX := aA.out; have hl := aK.out; obtain ⟨e0, e1, e2, e3, e4, f4, f5, f6, f7, f8⟩ := cz5_ (w := wc) aa
              go_wp2_with (first | ((with_reducible refine gate_callee (f := 33) rfl ?_); refine gL_ (some 65) Tryd.func33 #[.agg #[.int .u32 am, .int .i64 an, .slice a0 ak.length a4, .int .i64 ao, .int .i64 ap, .int .i64 aq, .int .i64 ar], .int .u32 ad] ?_; (with_reducible refine (block_Find.calls kj77 am an _ _ ak ao ap aq ar ad bd bn _ ?side1 ?side2 A94.out).mono ?_); (case side1 => exact cC_ bh HB); (case side2 => exact be.out); rintro e w114 ⟨rfl, hb⟩; refine ⟨_, rfl, ?_⟩; replace aj := vB_ aj hb; replace aH := rB_ aH hb; replace aI := rB_ aI hb; replace ab := bB_ ab hb; replace al := bB_ al hb; replace ac := bB_ ac hb; replace aa := bB_ aa hb; replace HB := hS_ HB hb; (try clear hb)) | (go_at_call 34; (with_reducible refine (model_Has.calls kj77 _ _ l1 bd false _ ?side1 ?side2 A96.out).mono ?_); (case side1 => exact cD_ (Kd.V_reads' aj.out).2.2); (case side2 => exact (Kd.V_reads' aj.out).2.1); rintro e w' ⟨rfl, ⟨nd, rfl⟩⟩) | ((with_reducible refine gate_callee (f := 35) rfl ?_); refine gL_ (some 78) Tryd.func35 #[.slice A1 l1.length c1, .int .i64 bd] ?_; (with_reducible refine (model_With.calls kj77 (fun k_ => ((P1_ k_ ∨ w.heap.size ≤ k_) ∧ (some k_ ≠ (.slice bb aF.length ba : Value).ownBlock ∧ (some k_ ≠ (.slice bk aG.length bc : Value).ownBlock ∧ (k_ ≠ aL ∧ (k_ ≠ aE ∧ (k_ ≠ aB ∧ k_ ≠ aC))))))) _ _ l1 bd bl _ ?side1 A106.out).mono ?_); (case side1 => exact aj.out); rintro e w115 ⟨v403, rfl, ho0, hb⟩; refine ⟨_, rfl, ?_⟩; replace aj := vB_ aj hb; have em := Aside0.mk (Kd.V_lower (Kd.V_mono (ok' := fun k_ => (P1_ k_ ∨ w.heap.size ≤ k_) ∧ some k_ ≠ (.slice bb aF.length ba : Value).ownBlock ∧ some k_ ≠ (.slice bk aG.length bc : Value).ownBlock ∧ k_ ≠ aL ∧ k_ ≠ aE ∧ k_ ≠ aB ∧ k_ ≠ aC) ho0 (fun k_ hk_ => ⟨Or.elim hk_ (fun hs_ => hs_.1) (fun hn_ => (.inr (Nat.le_trans (below_size (hB_ HB)) hn_))), Or.elim hk_ (fun hs_ => hs_.2.1) (fun hn_ => (Kd.fresh' (Kd.R_lt (rR_ aH)) k_ hn_)), Or.elim hk_ (fun hs_ => hs_.2.2.1) (fun hn_ => (Kd.fresh' (Kd.R_lt (rR_ aI)) k_ hn_)), Or.elim hk_ (fun hs_ => hs_.2.2.2.1) (fun hn_ => (fB_ ac k_ hn_)), Or.elim hk_ (fun hs_ => hs_.2.2.2.2.1) (fun hn_ => (fB_ ab k_ hn_)), Or.elim hk_ (fun hs_ => hs_.2.2.2.2.2.1) (fun hn_ => (fB_ aa k_ hn_)), Or.elim hk_ (fun hs_ => hs_.2.2.2.2.2.2) (fun hn_ => (fB_ al k_ hn_))⟩)) (below_size (hB_ HB))); replace ab := bB_ ab hb; replace al := bB_ al hb; replace ac := bB_ ac hb; replace aa := bB_ aa hb; replace HB := hS_ HB hb; (try clear hb); (try clear ho0)))
              go_ret2
              exact ⟨_, er_, Kd.V_mono (vV_ em) (fun _ hk => hk.1), hB_ HB⟩
            ·rw [if_neg c95] at H
             have en : (bn == 0) = false := beq_eq_false_iff_ne.mpr c95
             have eo : (bn != 0) = true := bne_iff_ne.mpr c95
             simp only [Option.some.injEq, Prod.mk.injEq] at H; obtain ⟨rfl, rfl⟩ := H; have gY := aQ.out; have hm := aR.out; have gZ := a1.out; have hn := a2.out; have g0 := au.out; have ho := aU.out; obtain ⟨e5, e6, e7, e8, e9, fa, fb, f9, ga, gb, gc, gd, gf, gg⟩ := cz7_ (w := wc) ac; have g1 := aT.out; have hp := aS.out; have g2 := aA.out; have hq := aK.out; obtain ⟨fc, fd, fe, ff, fg, gh, gi, gj, gk, gl⟩ := cz5_ (w := wc) aa
             go_wp2_with (first | ((with_reducible refine gate_callee (f := 33) rfl ?_); refine gL_ (some 65) Tryd.func33 #[.agg #[.int .u32 am, .int .i64 an, .slice a0 ak.length a4, .int .i64 ao, .int .i64 ap, .int .i64 aq, .int .i64 ar], .int .u32 ad] ?_; (with_reducible refine (block_Find.calls kj77 am an _ _ ak ao ap aq ar ad bd bn _ ?side1 ?side2 A94.out).mono ?_); (case side1 => exact cC_ bh HB); (case side2 => exact be.out); rintro e w123 ⟨rfl, hb⟩; refine ⟨_, rfl, ?_⟩; replace aj := vB_ aj hb; replace ab := bB_ ab hb; replace al := bB_ al hb; replace ac := bB_ ac hb; replace aa := bB_ aa hb; replace HB := hS_ HB hb; (try clear hb)))
             go_ret2
             exact ⟨_, er_, Kd.V_mono (vV_ aj) (fun _ hk => hk.1), hB_ HB⟩
           ·replace c93 := Bool.eq_false_iff.mpr c93
            subst c93
            have H1 : (some (l1, false)) = some (r1, r2) := by rw [if_neg (show ¬ (false = true) by decide)] at H; exact H
            clear H; have H := H1; clear H1; simp only [Option.some.injEq, Prod.mk.injEq] at H; obtain ⟨rfl, rfl⟩ := H
            go_wp2
            go_ret2
            exact ⟨_, er_, Kd.V_mono (vV_ aj) (fun _ hk => hk.1), hB_ HB⟩
     ·rw [if_neg c48] at H
      have dx : (a7 == 0) = false := beq_eq_false_iff_ne.mpr c48
      have dy : (a7 != 0) = true := bne_iff_ne.mpr c48
      simp only [Option.some.injEq, Prod.mk.injEq] at H; obtain ⟨rfl, rfl⟩ := H; have g3 := aQ.out; have hs := aR.out; have g4 := a1.out; have ht := a2.out; obtain ⟨fh, fi, fj, fk, fl, fm, fn, gm, gn, go, gp, gq, gr, gs⟩ := cz7_ (w := wc) ac; have g5 := aS.out; have hu := aT.out; obtain ⟨fo, fp, fq, gt, gu, gv⟩ := cz3_ (w := wc) ab
      go_wp2_with (first | ((with_reducible refine gate_callee (f := 15) rfl ?_); refine gL_ (some 27) Tryd.func15 #[.agg #[.int .u32 am, .int .i64 an, .slice a0 ak.length a4, .int .i64 ao, .int .i64 ap, .int .i64 aq, .int .i64 ar], .slice A1 l1.length c1, .agg #[.int .i64 ai, .int .u32 ax, .slice a5 av.length a6]] ?_; (with_reducible refine (spec_Some.calls kj4 am an _ _ ak ao ap aq ar (fun k_ => ((P1_ k_ ∨ w.heap.size ≤ k_) ∧ (k_ ≠ aL ∧ (k_ ≠ aE ∧ k_ ≠ aB)))) _ _ l1 ai ax _ _ av bE aJ aO aZ aF aG _ ?side1 ?side2 ?side3 ?side4 ?side5 ?side6 A29.out).mono ?_); (case side1 => exact cC_ bh HB); (case side2 => exact be.out); (case side3 => exact aj.out); (case side4 => exact cC_ bA HB); (case side5 => exact bu.out); (case side6 => exact Lg_below HG.out (hB_ HB)); rintro e w129 ⟨v374, v380, v383, rfl, ho0, ho1, ho2, hb⟩; refine ⟨_, rfl, ?_⟩; replace aj := Aside0.mk (Kd.V_mono (Kd.V_told (Kd.V_told (Kd.V_old (vV_ aj) hb) (Kd.R_base ho1)) (Kd.R_base ho2)) (fun _ h_ => h_.1)); have aD := Aside0.mk (Kd.V_lower (Kd.V_mono (ok' := fun k_ => (P1_ k_ ∨ w.heap.size ≤ k_) ∧ some k_ ≠ (v380 : Value).ownBlock ∧ some k_ ≠ (v383 : Value).ownBlock ∧ k_ ≠ aL ∧ k_ ≠ aE ∧ k_ ≠ aB) ho0 (fun k_ hk_ => ⟨Or.elim hk_.1 (fun hs_ => hs_.1) (fun hn_ => (.inr (Nat.le_trans (below_size (hB_ HB)) hn_))), hk_.2.1, hk_.2.2, Or.elim hk_.1 (fun hs_ => hs_.2.1) (fun hn_ => (fB_ ac k_ hn_)), Or.elim hk_.1 (fun hs_ => hs_.2.2.1) (fun hn_ => (fB_ ab k_ hn_)), Or.elim hk_.1 (fun hs_ => hs_.2.2.2) (fun hn_ => (fB_ aa k_ hn_))⟩)) (below_size (hB_ HB))); have ay := Aside0.mk (Kd.R_lower (Kd.R_newM (M := fun k_ => (w.heap.size ≤ k_)) (Kd.R_mono (ok' := fun k_ => True) ho1 (fun _ hk_ => trivial)) (below_size (hB_ HB)) (fun k_ h_ => h_)) (below_size (hB_ HB))); have az := Aside0.mk (Kd.R_lower (Kd.R_newM (M := fun k_ => (w.heap.size ≤ k_)) (Kd.R_mono (ok' := fun k_ => True) ho2 (fun _ hk_ => trivial)) (below_size (hB_ HB)) (fun k_ h_ => h_)) (below_size (hB_ HB))); replace ab := bB_ ab hb; replace HB := hS_ HB hb; replace ac := bB_ ac hb; replace aa := bB_ aa hb; (try clear hb); (try clear ho0); (try clear ho1); (try clear ho2)) | ((with_reducible refine gate_dst (N := 11) rfl ?_); refine box_event ?hg (N := 11) ?hd (cs := #[.int .i64 0, .int .u32 0, .bool false, .slice none 0 0, .slice none 0 0]) (t := 34) ?hr ?_; (case hd => rfl); (case hg => rfl); (case hr => first | (go_simp; done) | (go_simp; rfl)); intro aC hg w130 hbox hb; replace aj := vE_ aj hg hb; replace ay := rB_ ay hb; replace az := rB_ az hb; have al := Aside0.mk (hbox); have dQ := gG_ hg HB; have dP := gG_ hg HB; replace HB := hS_ HB hb; have au := nL_ hg ac; have aU := nG_ hg ac; have aw := nL_ hg ab; have a3 := nG_ hg ab; replace ab := bB_ ab hb; have aA := nL_ hg aa; have aK := nG_ hg aa; replace ac := bB_ ac hb; replace aa := bB_ aa hb; clear hb hbox hg; have g6 := aU.out; have hv := au.out; have g7 := a3.out; have hw := aw.out; have g8 := aK.out; have hx := aA.out; obtain ⟨fr, fs, ft, fu, fv, gw, gx, gy, gz, gA⟩ := cz5_ (w := w130) al; obtain ⟨ek, dT, eo135⟩ := Kd.R_slice ay.out; subst eo135; obtain ⟨el, dU, eo136⟩ := Kd.R_slice az.out; subst eo136; obtain ⟨fw, fx, fy, fz, fA, gB, gC, gD, gE, gF⟩ := cz5_ (w := w130) aa) | ((with_reducible refine gate_callee (f := 19) rfl ?_); refine gL_ (some 33) Tryd.func19 #[.agg #[.int .i64 ag, .int .u32 ad, .bool ah, .slice aV ae.length aX, .slice aW af.length aY], .agg #[.int .i64 aJ, .int .u32 aO, .bool aZ, .slice ek aF.length dT, .slice el aG.length dU]] ?_; (with_reducible refine (spec_Same.calls kj4 ag ad ah _ _ ae _ _ af aJ aO aZ _ _ aF _ _ aG false _ ?side1 ?side2 ?side3 ?side4 ?side5 ?side6 ?side7 ?side8 A30.out).mono ?_); (case side1 => exact Kd.C_below bi.out (hB_ HB)); (case side2 => exact bf.out); (case side3 => exact Kd.C_below bj.out (hB_ HB)); (case side4 => exact bg.out); (case side5 => refine (Kd.R_reads' (e := 22) (base := w.heap.size) (ok := fun k_ => ((w.heap.size ≤ k_) ∧ True)) (n := aF.length) (c := dT) ?_).2.2; exact (by (with_reducible repeat (first | apply Kd.R_alloc | apply Kd.R_drewN | apply Kd.R_drew)); exact (Kd.R_mono (rF5_ (g := aC) (Kd.R_types ay.out al.out (by decide)) (fun _ hk => hk.2)) (fun _ h_ => h_.1)))); (case side6 => exact (Kd.R_reads' ay.out).2.1); (case side7 => refine (Kd.R_reads' (e := 31) (base := w.heap.size) (ok := fun k_ => ((w.heap.size ≤ k_) ∧ True)) (n := aG.length) (c := dU) ?_).2.2; exact (by (with_reducible repeat (first | apply Kd.R_alloc | apply Kd.R_drewN | apply Kd.R_drew)); exact (Kd.R_mono (rF5_ (g := aC) (Kd.R_types az.out al.out (by decide)) (fun _ hk => hk.2)) (fun _ h_ => h_.1)))); (case side8 => exact (Kd.R_reads' az.out).2.1); rintro e w138 ⟨rfl, hb⟩; refine ⟨_, rfl, ?_⟩; replace aj := Aside0.mk (Kd.V_below (by (with_reducible repeat (first | apply Kd.V_alloc | apply Kd.V_drewN | apply Kd.V_drew)); exact (Kd.V_mono (vF5_ (g := aC) (Kd.V_mono aj.out (fun k_ hk => (⟨hk, hk.2⟩ : _ ∧ k_ ≠ aC))) (fun _ hk => hk.2)) (fun _ h_ => h_.1))) hb); replace ac := Aside0.mk (blk_below (g := aL) (o := .cells #[.int .u32 am, .int .i64 an, .slice a0 ak.length a4, .int .i64 ao, .int .i64 ap, .int .i64 aq, .int .i64 ar] 27 (0, 0)) (by (with_reducible repeat (first | refine blk_drewN ?_ _ | refine blk_drew ?_ | refine blk_alloc ?_ _)); refine blk_far ?_ au.out _; refine blk_far ?_ au.out _; refine blk_far ?_ au.out _; refine blk_far ?_ au.out _; refine blk_far ?_ au.out _; (with_reducible repeat (first | refine blk_drewN ?_ _ | refine blk_drew ?_ | refine blk_alloc ?_ _)); exact ac.out) hb); replace ab := Aside0.mk (blk_below (g := aE) (o := .cells #[.int .i64 ai, .int .u32 ax, .slice a5 av.length a6] 30 (0, 0)) (by (with_reducible repeat (first | refine blk_drewN ?_ _ | refine blk_drew ?_ | refine blk_alloc ?_ _)); refine blk_far ?_ aw.out _; refine blk_far ?_ aw.out _; refine blk_far ?_ aw.out _; refine blk_far ?_ aw.out _; refine blk_far ?_ aw.out _; (with_reducible repeat (first | refine blk_drewN ?_ _ | refine blk_drew ?_ | refine blk_alloc ?_ _)); exact ab.out) hb); replace HB := hS_ HB hb; (try clear hb); obtain ⟨fB, fC, fD, fE, fF, fG, fH, gG, gH, gI, gJ, gK, gL, gM⟩ := cz7_ (w := w138) ac; obtain ⟨fI, fJ, fK, gN, gO, gP⟩ := cz3_ (w := w138) ab) | ((with_reducible refine gate_callee (f := 32) rfl ?_); refine gL_ (some 38) Tryd.func32 #[.agg #[.int .u32 am, .int .i64 an, .slice a0 ak.length a4, .int .i64 ao, .int .i64 ap, .int .i64 aq, .int .i64 ar], .agg #[.int .i64 ai, .int .u32 ax, .slice a5 av.length a6]] ?_; (with_reducible refine (ask_Check.calls kj4 am an _ _ ak ao ap aq ar ai ax _ _ av a7 _ ?side1 ?side2 ?side3 ?side4 ?side5 A47.out).mono ?_); (case side1 => exact cC_ bh HB); (case side2 => exact be.out); (case side3 => exact cC_ bA HB); (case side4 => exact bu.out); (case side5 => exact Lg_below HG.out (hB_ HB)); rintro e w141 ⟨rfl, hb⟩; refine ⟨_, rfl, ?_⟩; replace aj := vB_ aj hb; replace HB := hS_ HB hb; (try clear hb)))
      go_ret2
      exact ⟨_, er_, Kd.V_mono (vV_ aj) (fun _ hk => hk.1.1.1.1), hB_ HB⟩

end Go.Proofs.YtkiimboedgnoiaaDoor.PSpecBack
