/- The walk of SpecTells, part of it: what the Go functions answer; no condition. -/
import Derived.Test.YtkiimboedgnoiaaDoorQSpecTellsx0
import Derived.Test.YtkiimboedgnoiaaDoorQSpecTellsx1
import Derived.Test.YtkiimboedgnoiaaDoorQSpecTellsx5
import Derived.Test.YtkiimboedgnoiaaDoorQSpecTellsx6
import Derived.Test.YtkiimboedgnoiaaDoorQSpecTellsx7
import Derived.Test.YtkiimboedgnoiaaDoorQSpecTellsx12
import Derived.Test.YtkiimboedgnoiaaDoorQSpecTellsx16
import Derived.Test.YtkiimboedgnoiaaDoorQSpecTellsx17
namespace Go.Proofs.YtkiimboedgnoiaaDoor.PSpecTells
open Go.RowKit Go.Proofs.YtkiimboedgnoiaaDoorW.PrintWords Go.Proofs.YtkiimboedgnoiaaDoorW.PrintLast Go.Proofs.YtkiimboedgnoiaaDoorW.PrintMore
attribute [local go_sem] max2_int min2_int max_two min_two max_three min_three max_four min_four   -- for this text's walks alone
set_option linter.unusedVariables false
set_option linter.unusedSimpArgs false

/-! ### lodgerlaw11_SpecTells: function 3 -/
def lodgerlaw11_SpecTells.j0 : Nat → List Int → Bool → Int → Int → List Int → Int → Int → Int → Int → Int → Int → List Int → Int → Int → Bool → List Int → List Int → Option (Bool)
 | 0, _, _, _, _, _, _, _, _, _, _, _, _, _, _, _, _, _ => none
 | k + 1, x1, x34, x679000, x679001, x679002, x679003, x679004, x679005, x679006, x680000, x680001, x680002, x681000, x681001, x681002, x681003, x681004 => if x34 = true then ((lodgerlaw11_awake.f k).bind fun t685 => (some t685)) else ((spec_Legal.f k x679000 x679001 x679002 x679003 x679004 x679005 x679006 x1 x680000 x680001 x680002 x681000 x681001 x681002 x681003 x681004).bind fun bt686 => ((lodgerref11_Legal.f k x679000 x679001 x679002 x679003 x679004 x679005 x679006 x1 x680000 x680001 x680002 x681000 x681001 x681002 x681003 x681004).bind fun bt690 => ((spec_Some.f k x679000 x679001 x679002 x679003 x679004 x679005 x679006 x1 x680000 x680001 x680002).bind fun bt694 => ((lodgerref11_Some.f k x679000 x679001 x679002 x679003 x679004 x679005 x679006 x1 x680000 x680001 x680002).bind fun bt707 => ((lodgerref03_Ints.f k bt686.1 bt690.1).bind fun t720 => (if t720 = true then (if (bt686.2 == bt690.2) = true then ((lodgerref03_Ints.f k bt694.1 bt707.1).bind fun t721 => (if t721 = true then ((lodgerref08_Answers.f k bt694.2.1 bt694.2.2.1 bt694.2.2.2.1 bt694.2.2.2.2.1 bt694.2.2.2.2.2 bt707.2.1 bt707.2.2.1 bt707.2.2.2.1 bt707.2.2.2.2.1 bt707.2.2.2.2.2).bind fun t722 => (if t722 = true then ((spec_Same.f k x681000 x681001 x681002 x681003 x681004 bt694.2.1 bt694.2.2.1 bt694.2.2.2.1 bt694.2.2.2.2.1 bt694.2.2.2.2.2).bind fun t723 => ((lodgerref08_Answers.f k x681000 x681001 x681002 x681003 x681004 bt694.2.1 bt694.2.2.1 bt694.2.2.2.1 bt694.2.2.2.2.1 bt694.2.2.2.2.2).bind fun t724 => (some (t723 == t724)))) else (some false))) else (some false))) else (some false)) else (some false)))))))
def lodgerlaw11_SpecTells.f (k : Nat) (a0_0 a0_1 : Int) (l0_2 : List Int) (a0_3 a0_4 : Int) (a0_5 a0_6 : Int) (l1 : List Int) (a2_0 a2_1 : Int) (l2_2 : List Int) (a3_0 a3_1 : Int) (a3_2 : Bool) (l3_3 l3_4 : List Int) : Option (Bool) := (lodgerlaw11_awake.f k).bind fun t681 => (if t681 = true then ((lodgerref11_Fits.f k a0_0 a0_1 l0_2 a0_3 a0_4 a0_5 a0_6 l1).bind fun t682 => (if t682 = true then ((lodgerref10_Few.f a2_0 a2_1 l2_2).bind fun t683 => (if t683 = true then ((lodgerref11_Few.f a3_0 a3_1 a3_2 l3_3 l3_4).bind fun t684 => (lodgerlaw11_SpecTells.j0 k l1 (!t684) a0_0 a0_1 l0_2 a0_3 a0_4 a0_5 a0_6 a2_0 a2_1 l2_2 a3_0 a3_1 a3_2 l3_3 l3_4)) else (lodgerlaw11_SpecTells.j0 k l1 true a0_0 a0_1 l0_2 a0_3 a0_4 a0_5 a0_6 a2_0 a2_1 l2_2 a3_0 a3_1 a3_2 l3_3 l3_4))) else (lodgerlaw11_SpecTells.j0 k l1 true a0_0 a0_1 l0_2 a0_3 a0_4 a0_5 a0_6 a2_0 a2_1 l2_2 a3_0 a3_1 a3_2 l3_3 l3_4))) else (lodgerlaw11_SpecTells.j0 k l1 true a0_0 a0_1 l0_2 a0_3 a0_4 a0_5 a0_6 a2_0 a2_1 l2_2 a3_0 a3_1 a3_2 l3_3 l3_4))
theorem lodgerlaw11_SpecTells.mono_l : ∀ k, (∀ y0 y1 y2 y3 y4 y5 y6 y7 y8 y9 y10 y11 y12 y13 y14 y15 y16, LeO (lodgerlaw11_SpecTells.j0 k y0 y1 y2 y3 y4 y5 y6 y7 y8 y9 y10 y11 y12 y13 y14 y15 y16) (lodgerlaw11_SpecTells.j0 (k + 1) y0 y1 y2 y3 y4 y5 y6 y7 y8 y9 y10 y11 y12 y13 y14 y15 y16))
 | 0 => fun _ _ _ _ _ _ _ _ _ _ _ _ _ _ _ _ _ r h => by simp [lodgerlaw11_SpecTells.j0] at h
 | k + 1 => by
  have ih0 := lodgerlaw11_SpecTells.mono_l k
  ·intro y0 y1 y2 y3 y4 y5 y6 y7 y8 y9 y10 y11 y12 y13 y14 y15 y16
   unfold lodgerlaw11_SpecTells.j0
   repeat' (with_reducible first | apply ih0 | apply lodgerlaw11_awake.mono | apply lodgerref03_Ints.mono | apply lodgerref08_Answers.mono | apply lodgerref11_Fits.mono | apply lodgerref11_Legal.mono | apply lodgerref11_Some.mono | apply spec_Legal.mono | apply spec_Same.mono | apply spec_Some.mono | exact LeO.refl _ | exact LeO.none _ | refine LeO.ite ?_ ?_ | refine LeO.bind ?_ (fun _ => ?_))
theorem lodgerlaw11_SpecTells.mono : ∀ a0 a1 a2 a3 a4 a5 a6 a7 a8 a9 a10 a11 a12 a13 a14 a15 k, LeO (lodgerlaw11_SpecTells.f k a0 a1 a2 a3 a4 a5 a6 a7 a8 a9 a10 a11 a12 a13 a14 a15) (lodgerlaw11_SpecTells.f (k + 1) a0 a1 a2 a3 a4 a5 a6 a7 a8 a9 a10 a11 a12 a13 a14 a15) := by
 intro a0 a1 a2 a3 a4 a5 a6 a7 a8 a9 a10 a11 a12 a13 a14 a15 k
 have ih0 := lodgerlaw11_SpecTells.mono_l k
 unfold lodgerlaw11_SpecTells.f
 repeat' (with_reducible first | apply ih0 | apply lodgerlaw11_awake.mono | apply lodgerref03_Ints.mono | apply lodgerref08_Answers.mono | apply lodgerref11_Fits.mono | apply lodgerref11_Legal.mono | apply lodgerref11_Some.mono | apply spec_Legal.mono | apply spec_Same.mono | apply spec_Some.mono | exact LeO.refl _ | exact LeO.none _ | refine LeO.ite ?_ ?_ | refine LeO.bind ?_ (fun _ => ?_))
def lodgerlaw11_SpecTells.T7 : Bool × List (List Nat × List Nat) := (true, [([], []), ([], []), ([0, 1], [0, 1]), ([2, 2], [2]), ([3], [3]), ([3], [3]), ([4, 5, 3], [3, 4, 5]), ([3, 6], [3, 6]), ([7, 3], [7]), ([8], [8]), ([8], [8]), ([9, 10, 8, 8], [8, 9, 10]), ([8, 11], [8, 11]), ([12, 11], [12]), ([13], [13]), ([13], [13]), ([14, 15, 13, 13], [13, 14, 15]), ([13, 16], [13, 16]), ([17, 16], [17]), ([18], [18]), ([18], [18]), ([19, 20, 18, 18], [18, 19, 20]), ([18], [18]), ([18], [18]), ([22, 23, 21, 18], [18, 22, 23]), ([21, 24, 18], [18, 21, 24]), ([18, 25], [18, 25]), ([26, 24, 0, 1, 2, 3, 4, 5, 6, 7, 8, 9, 10, 11, 12, 13, 14, 15, 16, 17, 18, 19, 20, 21, 22, 23, 24, 25, 26], [26])])
def lodgerlaw11_SpecTells.B7 : List Nat := [0, 0, 3, 7, 15, 15, 63, 127, 255, 511, 511, 2047, 4095, 8191, 16383, 16383, 65535, 131071, 262143, 524287, 524287, 2097151, 524287, 524287, 16777215, 33554431, 67108863, 134217727]
theorem lodgerlaw11_SpecTells.tab7 : rtab .any (opsOf Tryd.f3 7) = lodgerlaw11_SpecTells.T7 := by kernel_rfl
theorem lodgerlaw11_SpecTells.bits7 : waitsOk lodgerlaw11_SpecTells.T7.2 lodgerlaw11_SpecTells.B7 = true := by kernel_rfl
set_option maxHeartbeats 8000000 in
set_option maxRecDepth 100000 in
theorem lodgerlaw11_SpecTells.calls (k : Nat) (an ao : Int) (bw : Option Addr) (bz : Nat) (ak : List Int) (ap aq : Int) (ar au : Int) (A1 : Option Addr) (c1 : Nat) (l1 : List Int) (al am : Int) (bx : Option Addr) (bA : Nat) (aj : List Int) (ag ah : Int) (ai : Bool) (bn : Option Addr) (bp : Nat) (ae : List Int) (bo : Option Addr) (bq : Nat) (af : List Int) (r : Bool) (w : World) (hr0_2 : Kd.C (Kd.int .i64) w bw ak.length ak) (hc0_2 : ak.length ≤ bz) (hr1 : Kd.C (Kd.int .i64) w A1 l1.length l1) (hc1 : l1.length ≤ c1) (hr2_2 : Kd.C (Kd.int .u32) w bx aj.length aj) (hc2_2 : aj.length ≤ bA) (hr3_3 : Kd.C (Kd.int .u32) w bn ae.length ae) (hc3_3 : ae.length ≤ bp) (hr3_4 : Kd.C (Kd.int .i64) w bo af.length af) (hc3_4 : af.length ≤ bq) (hG : Lg w) (hr_ : r = true) (h : lodgerlaw11_SpecTells.f k an ao ak ap aq ar au l1 al am aj ag ah ai ae af = some r) :
  Calls Tryd.prog 3 #[.agg #[.int .u32 an, .int .i64 ao, .slice bw ak.length bz, .int .i64 ap, .int .i64 aq, .int .i64 ar, .int .i64 au], .slice A1 l1.length c1, .agg #[.int .i64 al, .int .u32 am, .slice bx aj.length bA], .agg #[.int .i64 ag, .int .u32 ah, .bool ai, .slice bn ae.length bp, .slice bo af.length bq]] w fun e w' => e = .returned (.bool r) ∧ Below w.heap.size w w' := by
 have hu27 := Tryd.underlying27
 have hu30 := Tryd.underlying30
 have hu34 := Tryd.underlying34
 have bf := Aside0.mk hr0_2
 have be := Aside0.mk hc0_2
 clear hr0_2 hc0_2
 have bO := Aside0.mk hr1
 have bN := Aside0.mk hc1
 clear hr1 hc1
 have bm := Aside0.mk hr2_2
 have bl := Aside0.mk hc2_2
 clear hr2_2 hc2_2
 have bu := Aside0.mk hr3_3
 have bs := Aside0.mk hc3_3
 clear hr3_3 hc3_3
 have bv := Aside0.mk hr3_4
 have bt := Aside0.mk hc3_4
 clear hr3_4 hc3_4
 have HB := Aside0.mk (Below.refl w.heap.size w)
 have HG := Aside0.mk hG
 clear hG
 replace hr_ := Aside0.mk hr_
 have H : ((lodgerlaw11_awake.f k).bind fun bP => (if bP = true then ((lodgerref11_Fits.f k an ao ak ap aq ar au l1).bind fun bi => (if bi = true then ((lodgerref10_Few.f al am aj).bind fun a6 => (if a6 = true then ((lodgerref11_Few.f ag ah ai ae af).bind fun a0 => (lodgerlaw11_SpecTells.j0 k l1 (!a0) an ao ak ap aq ar au al am aj ag ah ai ae af)) else (lodgerlaw11_SpecTells.j0 k l1 true an ao ak ap aq ar au al am aj ag ah ai ae af))) else (lodgerlaw11_SpecTells.j0 k l1 true an ao ak ap aq ar au al am aj ag ah ai ae af))) else (lodgerlaw11_SpecTells.j0 k l1 true an ao ak ap aq ar au al am aj ag ah ai ae af))) = some r := h
 clear h
 have c4 := Aside0.mk H
 clear H
 go_enter Tryd.func3, Tryd.ntmps3
 go_upto_region 1 with (first | ((with_reducible refine gd_ 4 ?_); refine bx_ (N := 4) (cs := #[.int .u32 an, .int .i64 ao, .slice bw ak.length bz, .int .i64 ap, .int .i64 aq, .int .i64 ar, .int .i64 au]) (t := 27) ?_; intro aY hg w6 ab hb; have bJ := gG_ hg HB; have e7 := gG_ hg HB; replace HB := hS_ HB hb; clear hb hg) | ((with_reducible refine gd_ 6 ?_); refine bx_ (N := 6) (cs := #[.int .i64 al, .int .u32 am, .slice bx aj.length bA]) (t := 30) ?_; intro aZ hg w7 ac hb; have bK := gG_ hg HB; have e8 := gG_ hg HB; replace HB := hS_ HB hb; have a9 := nL_ hg ab; have bb := nG_ hg ab; replace ab := bB_ ab hb; clear hb hg) | ((with_reducible refine gd_ 7 ?_); refine bx_ (N := 7) (cs := #[.int .i64 ag, .int .u32 ah, .bool ai, .slice bn ae.length bp, .slice bo af.length bq]) (t := 34) ?_; intro aX hg w8 ad hb; have bL := gG_ hg HB; have e9 := gG_ hg HB; have ba := nL_ hg ab; have bc := nG_ hg ab; have bg := nL_ hg ac; have bh := nG_ hg ac; replace ac := bB_ ac hb; replace ab := bB_ ab hb; replace HB := hS_ HB hb; clear hb hg))
 (try simp only [Act.put, List.setIfInBounds_toArray, List.set_cons_zero, List.set_cons_succ])
 go_cut [34] (fun v34 wc => ∃ (kq : Nat) (bM : Bool), v34 = .bool bM ∧ Aside0 (lodgerlaw11_SpecTells.j0 kq l1 bM an ao ak ap aq ar au al am aj ag ah ai ae af = some r) ∧ Aside0 (kq ≤ k) ∧ Aside0 (wc.heap[aY]? = some (.cells #[.int .u32 an, .int .i64 ao, (.slice bw ak.length bz), .int .i64 ap, .int .i64 aq, .int .i64 ar, .int .i64 au] 27 (0, 0))) ∧ Aside0 (wc.heap[aZ]? = some (.cells #[.int .i64 al, .int .u32 am, (.slice bx aj.length bA)] 30 (0, 0))) ∧ Aside0 (wc.heap[aX]? = some (.cells #[.int .i64 ag, .int .u32 ah, .bool ai, (.slice bn ae.length bp), (.slice bo af.length bq)] 34 (0, 0))) ∧ Aside0 (Below w.heap.size w wc))
 case first =>
  have H := c4.out; clear c4; replace H := bi_ H; obtain ⟨bP, A90, H⟩ := H
  replace H : (if bP = true then ((lodgerref11_Fits.f k an ao ak ap aq ar au l1).bind fun bi => (if bi = true then ((lodgerref10_Few.f al am aj).bind fun a6 => (if a6 = true then ((lodgerref11_Few.f ag ah ai ae af).bind fun a0 => (lodgerlaw11_SpecTells.j0 k l1 (!a0) an ao ak ap aq ar au al am aj ag ah ai ae af)) else (lodgerlaw11_SpecTells.j0 k l1 true an ao ak ap aq ar au al am aj ag ah ai ae af))) else (lodgerlaw11_SpecTells.j0 k l1 true an ao ak ap aq ar au al am aj ag ah ai ae af))) else (lodgerlaw11_SpecTells.j0 k l1 true an ao ak ap aq ar au al am aj ag ah ai ae af)) = some r := H
  have A9 := Aside0.mk A90; clear A90
  by_cases c10 : bP = true
  ·subst c10
   have H1 : ((lodgerref11_Fits.f k an ao ak ap aq ar au l1).bind fun bi => (if bi = true then ((lodgerref10_Few.f al am aj).bind fun a6 => (if a6 = true then ((lodgerref11_Few.f ag ah ai ae af).bind fun a0 => (lodgerlaw11_SpecTells.j0 k l1 (!a0) an ao ak ap aq ar au al am aj ag ah ai ae af)) else (lodgerlaw11_SpecTells.j0 k l1 true an ao ak ap aq ar au al am aj ag ah ai ae af))) else (lodgerlaw11_SpecTells.j0 k l1 true an ao ak ap aq ar au al am aj ag ah ai ae af))) = some r := pf_ rfl H
   clear H; have H := H1; clear H1; replace H := bi_ H; obtain ⟨bi, A110, H⟩ := H
   replace H : (if bi = true then ((lodgerref10_Few.f al am aj).bind fun a6 => (if a6 = true then ((lodgerref11_Few.f ag ah ai ae af).bind fun a0 => (lodgerlaw11_SpecTells.j0 k l1 (!a0) an ao ak ap aq ar au al am aj ag ah ai ae af)) else (lodgerlaw11_SpecTells.j0 k l1 true an ao ak ap aq ar au al am aj ag ah ai ae af))) else (lodgerlaw11_SpecTells.j0 k l1 true an ao ak ap aq ar au al am aj ag ah ai ae af)) = some r := H
   have A11 := Aside0.mk A110; clear A110
   by_cases c12 : bi = true
   ·subst c12
    have H1 : ((lodgerref10_Few.f al am aj).bind fun a6 => (if a6 = true then ((lodgerref11_Few.f ag ah ai ae af).bind fun a0 => (lodgerlaw11_SpecTells.j0 k l1 (!a0) an ao ak ap aq ar au al am aj ag ah ai ae af)) else (lodgerlaw11_SpecTells.j0 k l1 true an ao ak ap aq ar au al am aj ag ah ai ae af))) = some r := pf_ rfl H
    clear H; have H := H1; clear H1; replace H := bi_ H; obtain ⟨a6, A130, H⟩ := H
    replace H : (if a6 = true then ((lodgerref11_Few.f ag ah ai ae af).bind fun a0 => (lodgerlaw11_SpecTells.j0 k l1 (!a0) an ao ak ap aq ar au al am aj ag ah ai ae af)) else (lodgerlaw11_SpecTells.j0 k l1 true an ao ak ap aq ar au al am aj ag ah ai ae af)) = some r := H
    have A13 := Aside0.mk A130; clear A130
    by_cases c14 : a6 = true
    ·subst c14
     have H1 : ((lodgerref11_Few.f ag ah ai ae af).bind fun a0 => (lodgerlaw11_SpecTells.j0 k l1 (!a0) an ao ak ap aq ar au al am aj ag ah ai ae af)) = some r := pf_ rfl H
     clear H; have H := H1; clear H1; replace H := bi_ H; obtain ⟨a0, A150, H⟩ := H
     replace H : (lodgerlaw11_SpecTells.j0 k l1 (!a0) an ao ak ap aq ar au al am aj ag ah ai ae af) = some r := H
     have A15 := Aside0.mk A150; clear A150
     have H' := Aside0.mk H
     clear H
     go_wp2_with (first | ((with_reducible refine gate_callee (f := 9) rfl ?_); refine gM_ (some 17) Tryd.func9 (lodgerlaw11_awake.calls k  true _ (Lg_below HG.out (hB_ HB)) A9.out) ?_; rintro e w16 ⟨rfl, hb⟩; refine ⟨_, rfl, ?_⟩; replace ac := bB_ ac hb; replace HB := hS_ HB hb; replace ab := bB_ ab hb; replace ad := bB_ ad hb; (try clear hb); have fg := a9.out; have fy := bb.out; have fh := ba.out; have fz := bc.out; obtain ⟨bY, bZ, b0, b1, b2, b3, b4, cv, cw, cx, cy, cz, cA, cB⟩ := cz7_ (w := w16) ab) | (go_at_call 10; (with_reducible refine (lodgerref11_Fits.calls k an ao _ _ ak ap aq ar au _ _ l1 true _ (cC_ bf HB) be.out (cC_ bO HB) bN.out A11.out).mono ?_); rintro e w20 ⟨rfl, hb⟩; replace ac := bB_ ac hb; replace HB := hS_ HB hb; replace ab := bB_ ab hb; replace ad := bB_ ad hb; (try clear hb); have fi := bg.out; have fA := bh.out; obtain ⟨b5, b6, b7, cC, cD, cE⟩ := cz3_ (w := w20) ac) | (go_at_call 11; (with_reducible refine (lodgerref10_Few.calls al am _ _ aj true _ (cC_ bm HB) bl.out A13.out).mono ?_); rintro e w23 ⟨rfl, hb⟩; replace ac := bB_ ac hb; replace HB := hS_ HB hb; replace ab := bB_ ab hb; replace ad := bB_ ad hb; (try clear hb); obtain ⟨b8, b9, ca, cb, cc, cF, cG, cH, cI, cJ⟩ := cz5_ (w := w23) ad) | (go_at_call 12; (with_reducible refine (lodgerref11_Few.calls ag ah ai _ _ ae _ _ af a0 _ (cC_ bu HB) bs.out (cC_ bv HB) bt.out A15.out).mono ?_); rintro e w25 ⟨rfl, hb⟩; replace ac := bB_ ac hb; replace HB := hS_ HB hb; replace ab := bB_ ab hb; replace ad := bB_ ad hb; (try clear hb)))
     go_meet
     case rel => exact ⟨_, (!a0), rs_, H', ⟨by first | omega | exact Nat.le_refl _⟩, ⟨bk_ ab⟩, ⟨bk_ ac⟩, ⟨bk_ ad⟩, ⟨hB_ HB⟩⟩
    ·replace c14 := Bool.eq_false_iff.mpr c14
     subst c14
     have H1 : (lodgerlaw11_SpecTells.j0 k l1 true an ao ak ap aq ar au al am aj ag ah ai ae af) = some r := nf_ H
     clear H; have H := H1; clear H1
     have H' := Aside0.mk H
     clear H
     go_wp2_with (first | ((with_reducible refine gate_callee (f := 9) rfl ?_); refine gM_ (some 17) Tryd.func9 (lodgerlaw11_awake.calls k  true _ (Lg_below HG.out (hB_ HB)) A9.out) ?_; rintro e w26 ⟨rfl, hb⟩; refine ⟨_, rfl, ?_⟩; replace ac := bB_ ac hb; replace HB := hS_ HB hb; replace ab := bB_ ab hb; replace ad := bB_ ad hb; (try clear hb); have fj := a9.out; have fB := bb.out; have fk := ba.out; have fC := bc.out; obtain ⟨cd, ce, cf, cg, ch, ci, cj, cK, cL, cM, cN, cO, cP, cQ⟩ := cz7_ (w := w26) ab) | (go_at_call 10; (with_reducible refine (lodgerref11_Fits.calls k an ao _ _ ak ap aq ar au _ _ l1 true _ (cC_ bf HB) be.out (cC_ bO HB) bN.out A11.out).mono ?_); rintro e w30 ⟨rfl, hb⟩; replace ac := bB_ ac hb; replace HB := hS_ HB hb; replace ab := bB_ ab hb; replace ad := bB_ ad hb; (try clear hb); have fl := bg.out; have fD := bh.out; obtain ⟨ck, cl, cm, cR, cS, cT⟩ := cz3_ (w := w30) ac) | (go_at_call 11; (with_reducible refine (lodgerref10_Few.calls al am _ _ aj false _ (cC_ bm HB) bl.out A13.out).mono ?_); rintro e w33 ⟨rfl, hb⟩; replace ac := bB_ ac hb; replace HB := hS_ HB hb; replace ab := bB_ ab hb; replace ad := bB_ ad hb; (try clear hb)))
     go_meet
     case rel => exact ⟨_, (true), rs_, H', ⟨by first | omega | exact Nat.le_refl _⟩, ⟨bk_ ab⟩, ⟨bk_ ac⟩, ⟨bk_ ad⟩, ⟨hB_ HB⟩⟩
   ·replace c12 := Bool.eq_false_iff.mpr c12
    subst c12
    have H1 : (lodgerlaw11_SpecTells.j0 k l1 true an ao ak ap aq ar au al am aj ag ah ai ae af) = some r := nf_ H
    clear H; have H := H1; clear H1
    have H' := Aside0.mk H
    clear H
    go_wp2_with (first | ((with_reducible refine gate_callee (f := 9) rfl ?_); refine gM_ (some 17) Tryd.func9 (lodgerlaw11_awake.calls k  true _ (Lg_below HG.out (hB_ HB)) A9.out) ?_; rintro e w34 ⟨rfl, hb⟩; refine ⟨_, rfl, ?_⟩; replace ac := bB_ ac hb; replace HB := hS_ HB hb; replace ab := bB_ ab hb; replace ad := bB_ ad hb; (try clear hb); have fm := a9.out; have fE := bb.out; have fn := ba.out; have fF := bc.out; obtain ⟨cn, co, cp, cq, cr, ct, cu, cU, cV, cW, cX, cY, cZ, c0⟩ := cz7_ (w := w34) ab) | (go_at_call 10; (with_reducible refine (lodgerref11_Fits.calls k an ao _ _ ak ap aq ar au _ _ l1 false _ (cC_ bf HB) be.out (cC_ bO HB) bN.out A11.out).mono ?_); rintro e w38 ⟨rfl, hb⟩; replace ac := bB_ ac hb; replace HB := hS_ HB hb; replace ab := bB_ ab hb; replace ad := bB_ ad hb; (try clear hb)))
    go_meet
    case rel => exact ⟨_, (true), rs_, H', ⟨by first | omega | exact Nat.le_refl _⟩, ⟨bk_ ab⟩, ⟨bk_ ac⟩, ⟨bk_ ad⟩, ⟨hB_ HB⟩⟩
  ·replace c10 := Bool.eq_false_iff.mpr c10
   subst c10
   have H1 : (lodgerlaw11_SpecTells.j0 k l1 true an ao ak ap aq ar au al am aj ag ah ai ae af) = some r := nf_ H
   clear H; have H := H1; clear H1
   have H' := Aside0.mk H
   clear H
   go_wp2_with (first | ((with_reducible refine gate_callee (f := 9) rfl ?_); refine gM_ (some 17) Tryd.func9 (lodgerlaw11_awake.calls k  false _ (Lg_below HG.out (hB_ HB)) A9.out) ?_; rintro e w39 ⟨rfl, hb⟩; refine ⟨_, rfl, ?_⟩; replace ac := bB_ ac hb; replace HB := hS_ HB hb; replace ab := bB_ ab hb; replace ad := bB_ ad hb; (try clear hb)))
   go_meet
   case rel => exact ⟨_, (true), rs_, H', ⟨by first | omega | exact Nat.le_refl _⟩, ⟨bk_ ab⟩, ⟨bk_ ac⟩, ⟨bk_ ad⟩, ⟨hB_ HB⟩⟩
 case rest =>
  clear c4
  try clear c1
  try clear c2
  try clear p2
  try clear c3
  try clear c9
  try clear c10
  try clear c12
  try clear c14
  try clear c17
  try clear c18
  try clear c21
  try clear c27
  try clear c28
  try clear c31
  try clear c35
  try clear c36
  try clear bY bZ b0 b1 b2 b3 b4
  try clear b5 b6 b7
  try clear b8 b9 ca cb cc
  try clear cd ce cf cg ch ci cj
  try clear ck cl cm
  try clear cn co cp cq cr ct cu
  try clear cv cw cx cy cz cA cB
  try clear cC cD cE
  try clear cF cG cH cI cJ
  try clear cK cL cM cN cO cP cQ
  try clear cR cS cT
  try clear cU cV cW cX cY cZ c0
  obtain ⟨kq, bM, rfl, HA, fY, ab, ac, ad, HB⟩ := hcut
  cases kq with
  | zero => exact absurd HA.out (by simp [lodgerlaw11_SpecTells.j0])
  | succ kj4 =>
   have H := HA.out; clear HA; simp only [lodgerlaw11_SpecTells.j0] at H
   by_cases c40 : bM = true
   ·subst c40
    have H1 : ((lodgerlaw11_awake.f kj4).bind fun bQ => (some bQ)) = some r := pf_ rfl H
    clear H; have H := H1; clear H1; replace H := bi_ H; obtain ⟨bQ, A410, H⟩ := H
    replace H : (some bQ) = some r := H
    have A41 := Aside0.mk A410; clear A410
    first | (exfalso; rw [hr_.out] at H; exact absurd (Option.some.inj H) (by decide)) | (try clear hr_)
    all_goals
     obtain rfl := Option.some.inj H
     go_wp2_with (first | ((with_reducible refine gate_callee (f := 9) rfl ?_); refine gM_ (some 35) Tryd.func9 (lodgerlaw11_awake.calls kj4  bQ _ (Lg_below HG.out (hB_ HB)) A41.out) ?_; rintro e w42 ⟨rfl, hb⟩; refine ⟨_, rfl, ?_⟩; replace ac := bB_ ac hb; replace HB := hS_ HB hb; replace ab := bB_ ab hb; replace ad := bB_ ad hb; (try clear hb)))
     go_ret
     exact ⟨er_, hB_ HB⟩
   ·replace c40 := Bool.eq_false_iff.mpr c40
    subst c40
    have H1 : ((spec_Legal.f kj4 an ao ak ap aq ar au l1 al am aj ag ah ai ae af).bind fun bt686 => ((lodgerref11_Legal.f kj4 an ao ak ap aq ar au l1 al am aj ag ah ai ae af).bind fun bt690 => ((spec_Some.f kj4 an ao ak ap aq ar au l1 al am aj).bind fun bt694 => ((lodgerref11_Some.f kj4 an ao ak ap aq ar au l1 al am aj).bind fun bt707 => ((lodgerref03_Ints.f kj4 bt686.1 bt690.1).bind fun a7 => (if a7 = true then (if (bt686.2 == bt690.2) = true then ((lodgerref03_Ints.f kj4 bt694.1 bt707.1).bind fun a1 => (if a1 = true then ((lodgerref08_Answers.f kj4 bt694.2.1 bt694.2.2.1 bt694.2.2.2.1 bt694.2.2.2.2.1 bt694.2.2.2.2.2 bt707.2.1 bt707.2.2.1 bt707.2.2.2.1 bt707.2.2.2.2.1 bt707.2.2.2.2.2).bind fun aW => (if aW = true then ((spec_Same.f kj4 ag ah ai ae af bt694.2.1 bt694.2.2.1 bt694.2.2.2.1 bt694.2.2.2.2.1 bt694.2.2.2.2.2).bind fun aL => ((lodgerref08_Answers.f kj4 ag ah ai ae af bt694.2.1 bt694.2.2.1 bt694.2.2.2.1 bt694.2.2.2.2.1 bt694.2.2.2.2.2).bind fun aK => (some (aL == aK)))) else (some false))) else (some false))) else (some false)) else (some false))))))) = some r := nf_ H
    clear H; have H := H1; clear H1; replace H := bi_ H; obtain ⟨⟨bj, a8⟩, A430, H⟩ := H
    replace H : ((lodgerref11_Legal.f kj4 an ao ak ap aq ar au l1 al am aj ag ah ai ae af).bind fun bt690 => ((spec_Some.f kj4 an ao ak ap aq ar au l1 al am aj).bind fun bt694 => ((lodgerref11_Some.f kj4 an ao ak ap aq ar au l1 al am aj).bind fun bt707 => ((lodgerref03_Ints.f kj4 bj bt690.1).bind fun a7 => (if a7 = true then (if (a8 == bt690.2) = true then ((lodgerref03_Ints.f kj4 bt694.1 bt707.1).bind fun a1 => (if a1 = true then ((lodgerref08_Answers.f kj4 bt694.2.1 bt694.2.2.1 bt694.2.2.2.1 bt694.2.2.2.2.1 bt694.2.2.2.2.2 bt707.2.1 bt707.2.2.1 bt707.2.2.2.1 bt707.2.2.2.2.1 bt707.2.2.2.2.2).bind fun aW => (if aW = true then ((spec_Same.f kj4 ag ah ai ae af bt694.2.1 bt694.2.2.1 bt694.2.2.2.1 bt694.2.2.2.2.1 bt694.2.2.2.2.2).bind fun aL => ((lodgerref08_Answers.f kj4 ag ah ai ae af bt694.2.1 bt694.2.2.1 bt694.2.2.2.1 bt694.2.2.2.2.1 bt694.2.2.2.2.2).bind fun aK => (some (aL == aK)))) else (some false))) else (some false))) else (some false)) else (some false)))))) = some r := H
    have A43 := Aside0.mk A430; clear A430; replace H := bi_ H; obtain ⟨⟨br, bd⟩, A440, H⟩ := H
    replace H : ((spec_Some.f kj4 an ao ak ap aq ar au l1 al am aj).bind fun bt694 => ((lodgerref11_Some.f kj4 an ao ak ap aq ar au l1 al am aj).bind fun bt707 => ((lodgerref03_Ints.f kj4 bj br).bind fun a7 => (if a7 = true then (if (a8 == bd) = true then ((lodgerref03_Ints.f kj4 bt694.1 bt707.1).bind fun a1 => (if a1 = true then ((lodgerref08_Answers.f kj4 bt694.2.1 bt694.2.2.1 bt694.2.2.2.1 bt694.2.2.2.2.1 bt694.2.2.2.2.2 bt707.2.1 bt707.2.2.1 bt707.2.2.2.1 bt707.2.2.2.2.1 bt707.2.2.2.2.2).bind fun aW => (if aW = true then ((spec_Same.f kj4 ag ah ai ae af bt694.2.1 bt694.2.2.1 bt694.2.2.2.1 bt694.2.2.2.2.1 bt694.2.2.2.2.2).bind fun aL => ((lodgerref08_Answers.f kj4 ag ah ai ae af bt694.2.1 bt694.2.2.1 bt694.2.2.2.1 bt694.2.2.2.2.1 bt694.2.2.2.2.2).bind fun aK => (some (aL == aK)))) else (some false))) else (some false))) else (some false)) else (some false))))) = some r := H
    have A44 := Aside0.mk A440; clear A440; replace H := bi_ H; obtain ⟨⟨bk, aC, aD, aE, av, aw⟩, A450, H⟩ := H
    replace H : ((lodgerref11_Some.f kj4 an ao ak ap aq ar au l1 al am aj).bind fun bt707 => ((lodgerref03_Ints.f kj4 bj br).bind fun a7 => (if a7 = true then (if (a8 == bd) = true then ((lodgerref03_Ints.f kj4 bk bt707.1).bind fun a1 => (if a1 = true then ((lodgerref08_Answers.f kj4 aC aD aE av aw bt707.2.1 bt707.2.2.1 bt707.2.2.2.1 bt707.2.2.2.2.1 bt707.2.2.2.2.2).bind fun aW => (if aW = true then ((spec_Same.f kj4 ag ah ai ae af aC aD aE av aw).bind fun aL => ((lodgerref08_Answers.f kj4 ag ah ai ae af aC aD aE av aw).bind fun aK => (some (aL == aK)))) else (some false))) else (some false))) else (some false)) else (some false)))) = some r := H
    have A45 := Aside0.mk A450; clear A450; replace H := bi_ H; obtain ⟨⟨bB, aM, aN, aO, aF, aG⟩, A460, H⟩ := H
    replace H : ((lodgerref03_Ints.f kj4 bj br).bind fun a7 => (if a7 = true then (if (a8 == bd) = true then ((lodgerref03_Ints.f kj4 bk bB).bind fun a1 => (if a1 = true then ((lodgerref08_Answers.f kj4 aC aD aE av aw aM aN aO aF aG).bind fun aW => (if aW = true then ((spec_Same.f kj4 ag ah ai ae af aC aD aE av aw).bind fun aL => ((lodgerref08_Answers.f kj4 ag ah ai ae af aC aD aE av aw).bind fun aK => (some (aL == aK)))) else (some false))) else (some false))) else (some false)) else (some false))) = some r := H
    have A46 := Aside0.mk A460; clear A460; replace H := bi_ H; obtain ⟨a7, A470, H⟩ := H
    replace H : (if a7 = true then (if (a8 == bd) = true then ((lodgerref03_Ints.f kj4 bk bB).bind fun a1 => (if a1 = true then ((lodgerref08_Answers.f kj4 aC aD aE av aw aM aN aO aF aG).bind fun aW => (if aW = true then ((spec_Same.f kj4 ag ah ai ae af aC aD aE av aw).bind fun aL => ((lodgerref08_Answers.f kj4 ag ah ai ae af aC aD aE av aw).bind fun aK => (some (aL == aK)))) else (some false))) else (some false))) else (some false)) else (some false)) = some r := H
    have A47 := Aside0.mk A470; clear A470
    by_cases c48 : a7 = true
    ·subst c48
     have H1 : (if (a8 == bd) = true then ((lodgerref03_Ints.f kj4 bk bB).bind fun a1 => (if a1 = true then ((lodgerref08_Answers.f kj4 aC aD aE av aw aM aN aO aF aG).bind fun aW => (if aW = true then ((spec_Same.f kj4 ag ah ai ae af aC aD aE av aw).bind fun aL => ((lodgerref08_Answers.f kj4 ag ah ai ae af aC aD aE av aw).bind fun aK => (some (aL == aK)))) else (some false))) else (some false))) else (some false)) = some r := pf_ rfl H
     clear H; have H := H1; clear H1
     by_cases c49 : (a8 == bd) = true
     ·rw [if_pos c49] at H
      have fd : (a8 == bd) = true := c49
      (try (have fe : decide (a8 = bd) = true := by simpa using c49))
      (try (have ff : (a8 == bd) = true := by simpa using c49))
      clear c49; replace H := bi_ H; obtain ⟨a1, A500, H⟩ := H
      replace H : (if a1 = true then ((lodgerref08_Answers.f kj4 aC aD aE av aw aM aN aO aF aG).bind fun aW => (if aW = true then ((spec_Same.f kj4 ag ah ai ae af aC aD aE av aw).bind fun aL => ((lodgerref08_Answers.f kj4 ag ah ai ae af aC aD aE av aw).bind fun aK => (some (aL == aK)))) else (some false))) else (some false)) = some r := H
      have A50 := Aside0.mk A500; clear A500
      by_cases c51 : a1 = true
      ·subst c51
       have H1 : ((lodgerref08_Answers.f kj4 aC aD aE av aw aM aN aO aF aG).bind fun aW => (if aW = true then ((spec_Same.f kj4 ag ah ai ae af aC aD aE av aw).bind fun aL => ((lodgerref08_Answers.f kj4 ag ah ai ae af aC aD aE av aw).bind fun aK => (some (aL == aK)))) else (some false))) = some r := pf_ rfl H
       clear H; have H := H1; clear H1; replace H := bi_ H; obtain ⟨aW, A520, H⟩ := H
       replace H : (if aW = true then ((spec_Same.f kj4 ag ah ai ae af aC aD aE av aw).bind fun aL => ((lodgerref08_Answers.f kj4 ag ah ai ae af aC aD aE av aw).bind fun aK => (some (aL == aK)))) else (some false)) = some r := H
       have A52 := Aside0.mk A520; clear A520
       by_cases c53 : aW = true
       ·subst c53
        have H1 : ((spec_Same.f kj4 ag ah ai ae af aC aD aE av aw).bind fun aL => ((lodgerref08_Answers.f kj4 ag ah ai ae af aC aD aE av aw).bind fun aK => (some (aL == aK)))) = some r := pf_ rfl H
        clear H; have H := H1; clear H1; replace H := bi_ H; obtain ⟨aL, A540, H⟩ := H
        replace H : ((lodgerref08_Answers.f kj4 ag ah ai ae af aC aD aE av aw).bind fun aK => (some (aL == aK))) = some r := H
        have A54 := Aside0.mk A540; clear A540; replace H := bi_ H; obtain ⟨aK, A550, H⟩ := H
        replace H : (some (aL == aK)) = some r := H
        have A55 := Aside0.mk A550; clear A550
        first | (exfalso; rw [hr_.out] at H; exact absurd (Option.some.inj H) (by decide)) | (try clear hr_)
        all_goals
         obtain rfl := Option.some.inj H
         have fo := a9.out; have fG := bb.out; have fp := ba.out; have fH := bc.out; obtain ⟨c6, c7, c8, da, db, dc, dd, d7, d8, d9, ea, eb, ec, ed⟩ := cz7_ (w := wc) ab; have fq := bg.out; have fI := bh.out; obtain ⟨de, df, dg, ee, ef, eg⟩ := cz3_ (w := wc) ac; obtain ⟨dh, di, dj, dk, dl, eh, ei, ej, ek, el⟩ := cz5_ (w := wc) ad
         try go_wp2_with (first | ((with_reducible refine gate_callee (f := 13) rfl ?_); refine gM_ (some 41) Tryd.func13 (spec_Legal.calls kj4 an ao _ _ ak ap aq ar au (fun k_ => k_ < w.heap.size) _ _ l1 al am _ _ aj ag ah ai _ _ ae _ _ af bj a8 _ (cC_ bf HB) be.out (Kd.V_mk bN.out (Kd.F_below (Kd.C_F (Kd.heap_int .i64) bO.out) (hB_ HB))) (cC_ bm HB) bl.out (cC_ bu HB) bs.out (cC_ bv HB) bt.out (Lg_below HG.out (hB_ HB)) A43.out) ?_; rintro e w62 ⟨v687, rfl, ho0, hb⟩; refine ⟨_, rfl, ?_⟩; have aA := Aside0.mk (Kd.V_lower (Kd.V_mono (ok' := fun k_ => k_ ≠ aY ∧ k_ ≠ aZ ∧ k_ ≠ aX) ho0 (fun k_ hk_ => ⟨Or.elim hk_ (fun hs_ => fun e_ => Nat.not_le.2 hs_ (by rw [e_]; exact bJ.out)) (fun hn_ => (fB_ ab k_ hn_)), Or.elim hk_ (fun hs_ => fun e_ => Nat.not_le.2 hs_ (by rw [e_]; exact bK.out)) (fun hn_ => (fB_ ac k_ hn_)), Or.elim hk_ (fun hs_ => fun e_ => Nat.not_le.2 hs_ (by rw [e_]; exact bL.out)) (fun hn_ => (fB_ ad k_ hn_))⟩)) (below_size (hB_ HB))); replace ac := bB_ ac hb; replace HB := hS_ HB hb; replace ab := bB_ ab hb; replace ad := bB_ ad hb; (try clear hb); (try clear ho0); obtain ⟨dm, dn, dp, dq, dr, dt, du, em, en, eo, ep, er, et, eu⟩ := cz7_ (w := w62) ab; obtain ⟨dv, dw, dx, ev, ew, ex⟩ := cz3_ (w := w62) ac; obtain ⟨dy, dz, dA, dB, dC, ey, ez, eA, eB, eC⟩ := cz5_ (w := w62) ad) | ((with_reducible refine gate_callee (f := 14) rfl ?_); refine gM_ (some 49) Tryd.func14 (lodgerref11_Legal.calls kj4 an ao _ _ ak ap aq ar au (fun k_ => k_ < w.heap.size) _ _ l1 al am _ _ aj ag ah ai _ _ ae _ _ af br bd _ (cC_ bf HB) be.out (Kd.V_mk bN.out (Kd.F_below (Kd.C_F (Kd.heap_int .i64) bO.out) (hB_ HB))) (cC_ bm HB) bl.out (cC_ bu HB) bs.out (cC_ bv HB) bt.out A44.out) ?_; rintro e w66 ⟨v691, rfl, ho0, hb⟩; refine ⟨_, rfl, ?_⟩; replace aA := vB_ aA hb; have aB := Aside0.mk (Kd.V_lower (Kd.V_mono (ok' := fun k_ => k_ ≠ aY ∧ k_ ≠ aZ ∧ k_ ≠ aX) ho0 (fun k_ hk_ => ⟨Or.elim hk_ (fun hs_ => fun e_ => Nat.not_le.2 hs_ (by rw [e_]; exact bJ.out)) (fun hn_ => (fB_ ab k_ hn_)), Or.elim hk_ (fun hs_ => fun e_ => Nat.not_le.2 hs_ (by rw [e_]; exact bK.out)) (fun hn_ => (fB_ ac k_ hn_)), Or.elim hk_ (fun hs_ => fun e_ => Nat.not_le.2 hs_ (by rw [e_]; exact bL.out)) (fun hn_ => (fB_ ad k_ hn_))⟩)) (below_size (hB_ HB))); replace ac := bB_ ac hb; replace HB := hS_ HB hb; replace ab := bB_ ab hb; replace ad := bB_ ad hb; (try clear hb); (try clear ho0); obtain ⟨dD, dE, dF, dG, dH, dI, dJ, eD, eE, eF, eG, eH, eI, eJ⟩ := cz7_ (w := w66) ab; obtain ⟨dK, dL, dM, eK, eL, eM⟩ := cz3_ (w := w66) ac) | ((with_reducible refine gate_callee (f := 15) rfl ?_); refine gM_ (some 56) Tryd.func15 (spec_Some.calls kj4 an ao _ _ ak ap aq ar au (fun k_ => k_ < w.heap.size) _ _ l1 al am _ _ aj bk aC aD aE av aw _ (cC_ bf HB) be.out (Kd.V_mk bN.out (Kd.F_below (Kd.C_F (Kd.heap_int .i64) bO.out) (hB_ HB))) (cC_ bm HB) bl.out (Lg_below HG.out (hB_ HB)) A45.out) ?_; rintro e w69 ⟨v695, v701, v704, rfl, ho0, ho1, ho2, hb⟩; refine ⟨_, rfl, ?_⟩; replace aA := Aside0.mk (Kd.V_mono (Kd.V_told (Kd.V_told (Kd.V_old (vV_ aA) hb) (Kd.R_base ho1)) (Kd.R_base ho2)) (fun _ h_ => h_.1)); replace aB := Aside0.mk (Kd.V_mono (Kd.V_told (Kd.V_told (Kd.V_old (vV_ aB) hb) (Kd.R_base ho1)) (Kd.R_base ho2)) (fun _ h_ => h_.1)); have aH := Aside0.mk (Kd.V_lower (Kd.V_mono (ok' := fun k_ => some k_ ≠ (v701 : Value).ownBlock ∧ some k_ ≠ (v704 : Value).ownBlock ∧ k_ ≠ aY ∧ k_ ≠ aZ ∧ k_ ≠ aX) ho0 (fun k_ hk_ => ⟨hk_.2.1, hk_.2.2, Or.elim hk_.1 (fun hs_ => fun e_ => Nat.not_le.2 hs_ (by rw [e_]; exact bJ.out)) (fun hn_ => (fB_ ab k_ hn_)), Or.elim hk_.1 (fun hs_ => fun e_ => Nat.not_le.2 hs_ (by rw [e_]; exact bK.out)) (fun hn_ => (fB_ ac k_ hn_)), Or.elim hk_.1 (fun hs_ => fun e_ => Nat.not_le.2 hs_ (by rw [e_]; exact bL.out)) (fun hn_ => (fB_ ad k_ hn_))⟩)) (below_size (hB_ HB))); have ay := Aside0.mk (Kd.R_lower (Kd.R_mono (ok' := fun k_ => True) ho1 (fun _ hk_ => trivial)) (below_size (hB_ HB))); have az := Aside0.mk (Kd.R_lower (Kd.R_mono (ok' := fun k_ => True) ho2 (fun _ hk_ => trivial)) (below_size (hB_ HB))); replace ac := bB_ ac hb; replace HB := hS_ HB hb; replace ab := bB_ ab hb; replace ad := bB_ ad hb; (try clear hb); (try clear ho0); (try clear ho1); (try clear ho2)) | ((with_reducible refine gd_ 14 ?_); refine box_event ?hg (N := 14) ?hd (cs := #[.int .i64 0, .int .u32 0, .bool false, .slice none 0 0, .slice none 0 0]) (t := 34) ?hr ?_; (case hd => rfl); (case hg => rfl); (case hr => first | (go_simp; done) | (go_simp; rfl)); intro aI hg w70 hbox hb; replace aA := vE_ aA hg hb; replace aB := vE_ aB hg hb; replace aH := vE_ aH hg hb; replace ay := rB_ ay hb; replace az := rB_ az hb; have ax := Aside0.mk (hbox); have c5 := gG_ hg HB; have fa := gG_ hg HB; replace HB := hS_ HB hb; have bC := nL_ hg ab; have bR := nG_ hg ab; have bE := nL_ hg ac; have bS := nG_ hg ac; replace ac := bB_ ac hb; have bG := nL_ hg ad; have bT := nG_ hg ad; replace ab := bB_ ab hb; replace ad := bB_ ad hb; clear hb hbox hg; have fr := bR.out; have fJ := bC.out; have fs := bS.out; have fK := bE.out; have ft := bT.out; have fL := bG.out; obtain ⟨dN, dO, dP, dQ, dR, eN, eO, eP, eQ, eR⟩ := cz5_ (w := w70) ax; obtain ⟨a2, a4, eo75⟩ := Kd.R_slice ay.out; subst eo75; obtain ⟨a3, a5, eo76⟩ := Kd.R_slice az.out; subst eo76) | ((with_reducible refine gate_store (t := 34) (p := 14) rfl ?_); refine store_event (t := 34) (p := 14) (v := ?vo_w77) (w1 := (((((w70.setCell ⟨aI, 0, none⟩ (.int .i64 aC)).setCell ⟨aI, 1, none⟩ (.int .u32 aD)).setCell ⟨aI, 2, none⟩ (.bool aE)).setCell ⟨aI, 3, none⟩ (.slice a2 av.length a4)).setCell ⟨aI, 4, none⟩ (.slice a3 aw.length a5))) ?hg ?ho ?hn ?hr ?_; (case ho => rfl); (case hg => rfl); (case hn => rfl); (case hr => first | (go_simp; done) | (go_simp; rfl)); intro w77 hw; have n0_ : Aside0 (Kd.V (Kd.int .i64) 3 w77 w.heap.size (fun k_ => some k_ ≠ (.slice a2 av.length a4 : Value).ownBlock ∧ some k_ ≠ (.slice a3 aw.length a5 : Value).ownBlock ∧ k_ ≠ aY ∧ k_ ≠ aZ ∧ k_ ≠ aX ∧ k_ ≠ aI) v687 bj) := ⟨(by rw [hw]; exact (by (with_reducible repeat (first | apply Kd.V_alloc | apply Kd.V_drewN | apply Kd.V_drew)); exact Kd.V_mono (vF5_ (g := aI) (Kd.V_mono aA.out (fun k_ hk => (⟨hk, hk.2⟩ : _ ∧ k_ ≠ aI))) (fun _ hk => hk.2)) (fun _ hk => ⟨hk.1.1.1.2, ⟨hk.1.1.2, ⟨hk.1.1.1.1.1, ⟨hk.1.1.1.1.2.1, ⟨hk.1.1.1.1.2.2, hk.1.2⟩⟩⟩⟩⟩)))⟩; have n1_ : Aside0 (Kd.V (Kd.int .i64) 3 w77 w.heap.size (fun k_ => some k_ ≠ (.slice a2 av.length a4 : Value).ownBlock ∧ some k_ ≠ (.slice a3 aw.length a5 : Value).ownBlock ∧ k_ ≠ aY ∧ k_ ≠ aZ ∧ k_ ≠ aX ∧ k_ ≠ aI) v691 br) := ⟨(by rw [hw]; exact (by (with_reducible repeat (first | apply Kd.V_alloc | apply Kd.V_drewN | apply Kd.V_drew)); exact Kd.V_mono (vF5_ (g := aI) (Kd.V_mono aB.out (fun k_ hk => (⟨hk, hk.2⟩ : _ ∧ k_ ≠ aI))) (fun _ hk => hk.2)) (fun _ hk => ⟨hk.1.1.1.2, ⟨hk.1.1.2, ⟨hk.1.1.1.1.1, ⟨hk.1.1.1.1.2.1, ⟨hk.1.1.1.1.2.2, hk.1.2⟩⟩⟩⟩⟩)))⟩; have n2_ : Aside0 (Kd.V (Kd.int .i64) 3 w77 w.heap.size (fun k_ => some k_ ≠ (.slice a2 av.length a4 : Value).ownBlock ∧ some k_ ≠ (.slice a3 aw.length a5 : Value).ownBlock ∧ k_ ≠ aY ∧ k_ ≠ aZ ∧ k_ ≠ aX ∧ k_ ≠ aI) v695 bk) := ⟨(by rw [hw]; exact (by (with_reducible repeat (first | apply Kd.V_alloc | apply Kd.V_drewN | apply Kd.V_drew)); exact Kd.V_mono (vF5_ (g := aI) (Kd.V_mono aH.out (fun k_ hk => (⟨hk, hk.2⟩ : _ ∧ k_ ≠ aI))) (fun _ hk => hk.2)) (fun _ hk => ⟨hk.1.1.1, ⟨hk.1.1.2.1, ⟨hk.1.1.2.2.1, ⟨hk.1.1.2.2.2.1, ⟨hk.1.1.2.2.2.2, hk.1.2⟩⟩⟩⟩⟩)))⟩; have n3_ : Aside0 (Kd.R (Kd.int .u32) 22 w77 w.heap.size (fun _ => True) (.slice a2 av.length a4) av) := ⟨(by rw [hw]; exact (by (with_reducible repeat (first | apply Kd.R_alloc | apply Kd.R_drewN | apply Kd.R_drew)); exact Kd.R_mono (rF5_ (g := aI) (Kd.R_types ay.out ax.out (by decide)) (fun _ hk => hk.2)) (fun _ hk => trivial)))⟩; have n4_ : Aside0 (Kd.R (Kd.int .i64) 31 w77 w.heap.size (fun _ => True) (.slice a3 aw.length a5) aw) := ⟨(by rw [hw]; exact (by (with_reducible repeat (first | apply Kd.R_alloc | apply Kd.R_drewN | apply Kd.R_drew)); exact Kd.R_mono (rF5_ (g := aI) (Kd.R_types az.out ax.out (by decide)) (fun _ hk => hk.2)) (fun _ hk => trivial)))⟩; have n5_ : Aside0 (w77.heap[aY]? = some (.cells #[.int .u32 an, .int .i64 ao, .slice bw ak.length bz, .int .i64 ap, .int .i64 aq, .int .i64 ar, .int .i64 au] 27 (0, 0))) := ⟨(by rw [hw]; exact (by refine bp_ ?_; refine bF5_ ?_ bC.out; refine bp_ ?_; exact ab.out))⟩; have n6_ : Aside0 (w77.heap[aZ]? = some (.cells #[.int .i64 al, .int .u32 am, .slice bx aj.length bA] 30 (0, 0))) := ⟨(by rw [hw]; exact (by refine bp_ ?_; refine bF5_ ?_ bE.out; refine bp_ ?_; exact ac.out))⟩; have n7_ : Aside0 (w77.heap[aX]? = some (.cells #[.int .i64 ag, .int .u32 ah, .bool ai, .slice bn ae.length bp, .slice bo af.length bq] 34 (0, 0))) := ⟨(by rw [hw]; exact (by refine bp_ ?_; refine bF5_ ?_ bG.out; refine bp_ ?_; exact ad.out))⟩; have n8_ : Aside0 (w77.heap[aI]? = some (.cells #[.int .i64 aC, .int .u32 aD, .bool aE, .slice a2 av.length a4, .slice a3 aw.length a5] 34 (0, 0))) := ⟨(by rw [hw]; exact (by refine bp_ ?_; apply bS5_; refine bp_ ?_; exact ax.out))⟩; have n9_ : Aside0 (Below w.heap.size w w77) := ⟨(by rw [hw]; exact (hB_ HB))⟩; clear hw aA aB aH ay az ab ac ad ax HB; have aA := n0_; have aB := n1_; have aH := n2_; have ay := n3_; have az := n4_; have ab := n5_; have ac := n6_; have ad := n7_; have ax := n8_; have HB := n9_; clear n0_ n1_ n2_ n3_ n4_ n5_ n6_ n7_ n8_ n9_; obtain ⟨dS, dT, dU, dV, dW, dX, dY, eS, eT, eU, eV, eW, eX, eY⟩ := cz7_ (w := w77) ab; obtain ⟨dZ, d0, d1, eZ, e0, e1⟩ := cz3_ (w := w77) ac) | ((with_reducible refine gate_callee (f := 16) rfl ?_); refine gM_ (some 63) Tryd.func16 (lodgerref11_Some.calls kj4 an ao _ _ ak ap aq ar au (fun k_ => k_ < w.heap.size) _ _ l1 al am _ _ aj bB aM aN aO aF aG _ (cC_ bf HB) be.out (Kd.V_mk bN.out (Kd.F_below (Kd.C_F (Kd.heap_int .i64) bO.out) (hB_ HB))) (cC_ bm HB) bl.out A46.out) ?_; rintro e w80 ⟨v708, v714, v717, rfl, ho0, ho1, ho2, hb⟩; refine ⟨_, rfl, ?_⟩; replace aA := Aside0.mk (Kd.V_mono (Kd.V_told (Kd.V_told (Kd.V_old (vV_ aA) hb) (Kd.R_base ho1)) (Kd.R_base ho2)) (fun _ h_ => h_.1)); replace aB := Aside0.mk (Kd.V_mono (Kd.V_told (Kd.V_told (Kd.V_old (vV_ aB) hb) (Kd.R_base ho1)) (Kd.R_base ho2)) (fun _ h_ => h_.1)); replace aH := Aside0.mk (Kd.V_mono (Kd.V_told (Kd.V_told (Kd.V_old (vV_ aH) hb) (Kd.R_base ho1)) (Kd.R_base ho2)) (fun _ h_ => h_.1)); have aT := Aside0.mk (Kd.V_lower (Kd.V_mono (ok' := fun k_ => some k_ ≠ (v714 : Value).ownBlock ∧ some k_ ≠ (v717 : Value).ownBlock ∧ some k_ ≠ (.slice a2 av.length a4 : Value).ownBlock ∧ some k_ ≠ (.slice a3 aw.length a5 : Value).ownBlock ∧ k_ ≠ aY ∧ k_ ≠ aZ ∧ k_ ≠ aX ∧ k_ ≠ aI) ho0 (fun k_ hk_ => ⟨hk_.2.1, hk_.2.2, Or.elim hk_.1 (fun hs_ => fun e_ => Nat.not_le.2 hs_ (Kd.R_base ay.out k_ e_.symm)) (fun hn_ => (Kd.fresh' (Kd.R_lt (rR_ ay)) k_ hn_)), Or.elim hk_.1 (fun hs_ => fun e_ => Nat.not_le.2 hs_ (Kd.R_base az.out k_ e_.symm)) (fun hn_ => (Kd.fresh' (Kd.R_lt (rR_ az)) k_ hn_)), Or.elim hk_.1 (fun hs_ => fun e_ => Nat.not_le.2 hs_ (by rw [e_]; exact bJ.out)) (fun hn_ => (fB_ ab k_ hn_)), Or.elim hk_.1 (fun hs_ => fun e_ => Nat.not_le.2 hs_ (by rw [e_]; exact bK.out)) (fun hn_ => (fB_ ac k_ hn_)), Or.elim hk_.1 (fun hs_ => fun e_ => Nat.not_le.2 hs_ (by rw [e_]; exact bL.out)) (fun hn_ => (fB_ ad k_ hn_)), Or.elim hk_.1 (fun hs_ => fun e_ => Nat.not_le.2 hs_ (by rw [e_]; exact c5.out)) (fun hn_ => (fB_ ax k_ hn_))⟩)) (below_size (hB_ HB))); have aU := Aside0.mk (Kd.R_lower (Kd.R_new' (Kd.R_mono (ok' := fun k_ => True) ho1 (fun _ hk_ => trivial)) (Kd.R_lt (rR_ ay))) (below_size (hB_ HB))); replace ay := Aside0.mk (Kd.R_elder' (rR_ ay) (Kd.R_base ho1) hb); have aV := Aside0.mk (Kd.R_lower (Kd.R_new' (Kd.R_mono (ok' := fun k_ => True) ho2 (fun _ hk_ => trivial)) (Kd.R_lt (rR_ az))) (below_size (hB_ HB))); replace az := Aside0.mk (Kd.R_elder' (rR_ az) (Kd.R_base ho2) hb); replace ac := bB_ ac hb; replace ax := bB_ ax hb; replace ab := bB_ ab hb; replace ad := bB_ ad hb; replace HB := hS_ HB hb; (try clear hb); (try clear ho0); (try clear ho1); (try clear ho2)) | ((with_reducible refine gd_ 16 ?_); refine box_event ?hg (N := 16) ?hd (cs := #[.int .i64 0, .int .u32 0, .bool false, .slice none 0 0, .slice none 0 0]) (t := 34) ?hr ?_; (case hd => rfl); (case hg => rfl); (case hr => first | (go_simp; done) | (go_simp; rfl)); intro aa hg w81 hbox hb; replace aA := vE_ aA hg hb; replace aB := vE_ aB hg hb; replace aH := vE_ aH hg hb; replace ay := rB_ ay hb; replace az := rB_ az hb; replace aT := vE_ aT hg hb; replace aU := rB_ aU hb; replace aV := rB_ aV hb; have aJ := Aside0.mk (hbox); have fc := gG_ hg HB; have fb := gG_ hg HB; have bD := nL_ hg ab; have bU := nG_ hg ab; have bF := nL_ hg ac; have bV := nG_ hg ac; replace ac := bB_ ac hb; have bH := nL_ hg ad; have bW := nG_ hg ad; have bI := nL_ hg ax; have bX := nG_ hg ax; replace ax := bB_ ax hb; replace ab := bB_ ab hb; replace ad := bB_ ad hb; replace HB := hS_ HB hb; clear hb hbox hg; have fu := bU.out; have fM := bD.out; have fv := bV.out; have fN := bF.out; have fw := bW.out; have fO := bH.out; have fx := bX.out; have fP := bI.out; obtain ⟨d2, d3, d4, d5, d6, e2, e3, e4, e5, e6⟩ := cz5_ (w := w81) aJ; obtain ⟨aP, aR, eo87⟩ := Kd.R_slice aU.out; subst eo87; obtain ⟨aQ, aS, eo88⟩ := Kd.R_slice aV.out; subst eo88))
         have n0_ : Aside0 (Kd.V (Kd.int .i64) 3 (((((w81.setCell ⟨aa, 0, none⟩ (.int .i64 aM)).setCell ⟨aa, 1, none⟩ (.int .u32 aN)).setCell ⟨aa, 2, none⟩ (.bool aO)).setCell ⟨aa, 3, none⟩ (.slice aP aF.length aR)).setCell ⟨aa, 4, none⟩ (.slice aQ aG.length aS)) w.heap.size (fun k_ => some k_ ≠ (.slice a2 av.length a4 : Value).ownBlock ∧ some k_ ≠ (.slice a3 aw.length a5 : Value).ownBlock ∧ some k_ ≠ (.slice aP aF.length aR : Value).ownBlock ∧ some k_ ≠ (.slice aQ aG.length aS : Value).ownBlock ∧ k_ ≠ aY ∧ k_ ≠ aZ ∧ k_ ≠ aX ∧ k_ ≠ aI ∧ k_ ≠ aa) v687 bj) := ⟨by (with_reducible repeat (first | apply Kd.V_alloc | apply Kd.V_drewN | apply Kd.V_drew)); exact Kd.V_mono (vF5_ (g := aa) (Kd.V_mono aA.out (fun k_ hk => (⟨hk, hk.2⟩ : _ ∧ k_ ≠ aa))) (fun _ hk => hk.2)) (fun _ hk => ⟨hk.1.1.1.1.1, ⟨hk.1.1.1.1.2.1, ⟨hk.1.1.1.2, ⟨hk.1.1.2, ⟨hk.1.1.1.1.2.2.1, ⟨hk.1.1.1.1.2.2.2.1, ⟨hk.1.1.1.1.2.2.2.2.1, ⟨hk.1.1.1.1.2.2.2.2.2, hk.1.2⟩⟩⟩⟩⟩⟩⟩⟩)⟩
         have n1_ : Aside0 (Kd.V (Kd.int .i64) 3 (((((w81.setCell ⟨aa, 0, none⟩ (.int .i64 aM)).setCell ⟨aa, 1, none⟩ (.int .u32 aN)).setCell ⟨aa, 2, none⟩ (.bool aO)).setCell ⟨aa, 3, none⟩ (.slice aP aF.length aR)).setCell ⟨aa, 4, none⟩ (.slice aQ aG.length aS)) w.heap.size (fun k_ => some k_ ≠ (.slice a2 av.length a4 : Value).ownBlock ∧ some k_ ≠ (.slice a3 aw.length a5 : Value).ownBlock ∧ some k_ ≠ (.slice aP aF.length aR : Value).ownBlock ∧ some k_ ≠ (.slice aQ aG.length aS : Value).ownBlock ∧ k_ ≠ aY ∧ k_ ≠ aZ ∧ k_ ≠ aX ∧ k_ ≠ aI ∧ k_ ≠ aa) v691 br) := ⟨by (with_reducible repeat (first | apply Kd.V_alloc | apply Kd.V_drewN | apply Kd.V_drew)); exact Kd.V_mono (vF5_ (g := aa) (Kd.V_mono aB.out (fun k_ hk => (⟨hk, hk.2⟩ : _ ∧ k_ ≠ aa))) (fun _ hk => hk.2)) (fun _ hk => ⟨hk.1.1.1.1.1, ⟨hk.1.1.1.1.2.1, ⟨hk.1.1.1.2, ⟨hk.1.1.2, ⟨hk.1.1.1.1.2.2.1, ⟨hk.1.1.1.1.2.2.2.1, ⟨hk.1.1.1.1.2.2.2.2.1, ⟨hk.1.1.1.1.2.2.2.2.2, hk.1.2⟩⟩⟩⟩⟩⟩⟩⟩)⟩
         have n2_ : Aside0 (Kd.V (Kd.int .i64) 3 (((((w81.setCell ⟨aa, 0, none⟩ (.int .i64 aM)).setCell ⟨aa, 1, none⟩ (.int .u32 aN)).setCell ⟨aa, 2, none⟩ (.bool aO)).setCell ⟨aa, 3, none⟩ (.slice aP aF.length aR)).setCell ⟨aa, 4, none⟩ (.slice aQ aG.length aS)) w.heap.size (fun k_ => some k_ ≠ (.slice a2 av.length a4 : Value).ownBlock ∧ some k_ ≠ (.slice a3 aw.length a5 : Value).ownBlock ∧ some k_ ≠ (.slice aP aF.length aR : Value).ownBlock ∧ some k_ ≠ (.slice aQ aG.length aS : Value).ownBlock ∧ k_ ≠ aY ∧ k_ ≠ aZ ∧ k_ ≠ aX ∧ k_ ≠ aI ∧ k_ ≠ aa) v695 bk) := ⟨by (with_reducible repeat (first | apply Kd.V_alloc | apply Kd.V_drewN | apply Kd.V_drew)); exact Kd.V_mono (vF5_ (g := aa) (Kd.V_mono aH.out (fun k_ hk => (⟨hk, hk.2⟩ : _ ∧ k_ ≠ aa))) (fun _ hk => hk.2)) (fun _ hk => ⟨hk.1.1.1.1.1, ⟨hk.1.1.1.1.2.1, ⟨hk.1.1.1.2, ⟨hk.1.1.2, ⟨hk.1.1.1.1.2.2.1, ⟨hk.1.1.1.1.2.2.2.1, ⟨hk.1.1.1.1.2.2.2.2.1, ⟨hk.1.1.1.1.2.2.2.2.2, hk.1.2⟩⟩⟩⟩⟩⟩⟩⟩)⟩
         have n3_ : Aside0 (Kd.R (Kd.int .u32) 22 (((((w81.setCell ⟨aa, 0, none⟩ (.int .i64 aM)).setCell ⟨aa, 1, none⟩ (.int .u32 aN)).setCell ⟨aa, 2, none⟩ (.bool aO)).setCell ⟨aa, 3, none⟩ (.slice aP aF.length aR)).setCell ⟨aa, 4, none⟩ (.slice aQ aG.length aS)) w.heap.size (fun k_ => some k_ ≠ (.slice aP aF.length aR : Value).ownBlock) (.slice a2 av.length a4) av) := ⟨by (with_reducible repeat (first | apply Kd.R_alloc | apply Kd.R_drewN | apply Kd.R_drew)); exact Kd.R_mono (rF5_ (g := aa) (Kd.R_types ay.out aJ.out (by decide)) (fun _ hk => hk.2)) (fun _ hk => hk.1.2)⟩
         have n4_ : Aside0 (Kd.R (Kd.int .i64) 31 (((((w81.setCell ⟨aa, 0, none⟩ (.int .i64 aM)).setCell ⟨aa, 1, none⟩ (.int .u32 aN)).setCell ⟨aa, 2, none⟩ (.bool aO)).setCell ⟨aa, 3, none⟩ (.slice aP aF.length aR)).setCell ⟨aa, 4, none⟩ (.slice aQ aG.length aS)) w.heap.size (fun k_ => some k_ ≠ (.slice aQ aG.length aS : Value).ownBlock) (.slice a3 aw.length a5) aw) := ⟨by (with_reducible repeat (first | apply Kd.R_alloc | apply Kd.R_drewN | apply Kd.R_drew)); exact Kd.R_mono (rF5_ (g := aa) (Kd.R_types az.out aJ.out (by decide)) (fun _ hk => hk.2)) (fun _ hk => hk.1.2)⟩
         have n5_ : Aside0 (Kd.V (Kd.int .i64) 3 (((((w81.setCell ⟨aa, 0, none⟩ (.int .i64 aM)).setCell ⟨aa, 1, none⟩ (.int .u32 aN)).setCell ⟨aa, 2, none⟩ (.bool aO)).setCell ⟨aa, 3, none⟩ (.slice aP aF.length aR)).setCell ⟨aa, 4, none⟩ (.slice aQ aG.length aS)) w.heap.size (fun k_ => some k_ ≠ (.slice a2 av.length a4 : Value).ownBlock ∧ some k_ ≠ (.slice a3 aw.length a5 : Value).ownBlock ∧ some k_ ≠ (.slice aP aF.length aR : Value).ownBlock ∧ some k_ ≠ (.slice aQ aG.length aS : Value).ownBlock ∧ k_ ≠ aY ∧ k_ ≠ aZ ∧ k_ ≠ aX ∧ k_ ≠ aI ∧ k_ ≠ aa) v708 bB) := ⟨by (with_reducible repeat (first | apply Kd.V_alloc | apply Kd.V_drewN | apply Kd.V_drew)); exact Kd.V_mono (vF5_ (g := aa) (Kd.V_mono aT.out (fun k_ hk => (⟨hk, hk.2⟩ : _ ∧ k_ ≠ aa))) (fun _ hk => hk.2)) (fun _ hk => ⟨hk.1.1.2.2.1, ⟨hk.1.1.2.2.2.1, ⟨hk.1.1.1, ⟨hk.1.1.2.1, ⟨hk.1.1.2.2.2.2.1, ⟨hk.1.1.2.2.2.2.2.1, ⟨hk.1.1.2.2.2.2.2.2.1, ⟨hk.1.1.2.2.2.2.2.2.2, hk.1.2⟩⟩⟩⟩⟩⟩⟩⟩)⟩
         have n6_ : Aside0 (Kd.R (Kd.int .u32) 22 (((((w81.setCell ⟨aa, 0, none⟩ (.int .i64 aM)).setCell ⟨aa, 1, none⟩ (.int .u32 aN)).setCell ⟨aa, 2, none⟩ (.bool aO)).setCell ⟨aa, 3, none⟩ (.slice aP aF.length aR)).setCell ⟨aa, 4, none⟩ (.slice aQ aG.length aS)) w.heap.size (fun k_ => some k_ ≠ (.slice a2 av.length a4 : Value).ownBlock) (.slice aP aF.length aR) aF) := ⟨by (with_reducible repeat (first | apply Kd.R_alloc | apply Kd.R_drewN | apply Kd.R_drew)); exact Kd.R_mono (rF5_ (g := aa) (Kd.R_types aU.out aJ.out (by decide)) (fun _ hk => hk.2)) (fun _ hk => hk.1.2)⟩
         have n7_ : Aside0 (Kd.R (Kd.int .i64) 31 (((((w81.setCell ⟨aa, 0, none⟩ (.int .i64 aM)).setCell ⟨aa, 1, none⟩ (.int .u32 aN)).setCell ⟨aa, 2, none⟩ (.bool aO)).setCell ⟨aa, 3, none⟩ (.slice aP aF.length aR)).setCell ⟨aa, 4, none⟩ (.slice aQ aG.length aS)) w.heap.size (fun k_ => some k_ ≠ (.slice a3 aw.length a5 : Value).ownBlock) (.slice aQ aG.length aS) aG) := ⟨by (with_reducible repeat (first | apply Kd.R_alloc | apply Kd.R_drewN | apply Kd.R_drew)); exact Kd.R_mono (rF5_ (g := aa) (Kd.R_types aV.out aJ.out (by decide)) (fun _ hk => hk.2)) (fun _ hk => hk.1.2)⟩
         have n8_ : Aside0 ((((((w81.setCell ⟨aa, 0, none⟩ (.int .i64 aM)).setCell ⟨aa, 1, none⟩ (.int .u32 aN)).setCell ⟨aa, 2, none⟩ (.bool aO)).setCell ⟨aa, 3, none⟩ (.slice aP aF.length aR)).setCell ⟨aa, 4, none⟩ (.slice aQ aG.length aS)).heap[aY]? = some (.cells #[.int .u32 an, .int .i64 ao, .slice bw ak.length bz, .int .i64 ap, .int .i64 aq, .int .i64 ar, .int .i64 au] 27 (0, 0))) := ⟨by refine bp_ ?_; refine bF5_ ?_ bD.out; refine bp_ ?_; exact ab.out⟩
         have n9_ : Aside0 ((((((w81.setCell ⟨aa, 0, none⟩ (.int .i64 aM)).setCell ⟨aa, 1, none⟩ (.int .u32 aN)).setCell ⟨aa, 2, none⟩ (.bool aO)).setCell ⟨aa, 3, none⟩ (.slice aP aF.length aR)).setCell ⟨aa, 4, none⟩ (.slice aQ aG.length aS)).heap[aZ]? = some (.cells #[.int .i64 al, .int .u32 am, .slice bx aj.length bA] 30 (0, 0))) := ⟨by refine bp_ ?_; refine bF5_ ?_ bF.out; refine bp_ ?_; exact ac.out⟩
         have n10_ : Aside0 ((((((w81.setCell ⟨aa, 0, none⟩ (.int .i64 aM)).setCell ⟨aa, 1, none⟩ (.int .u32 aN)).setCell ⟨aa, 2, none⟩ (.bool aO)).setCell ⟨aa, 3, none⟩ (.slice aP aF.length aR)).setCell ⟨aa, 4, none⟩ (.slice aQ aG.length aS)).heap[aX]? = some (.cells #[.int .i64 ag, .int .u32 ah, .bool ai, .slice bn ae.length bp, .slice bo af.length bq] 34 (0, 0))) := ⟨by refine bp_ ?_; refine bF5_ ?_ bH.out; refine bp_ ?_; exact ad.out⟩
         have n11_ : Aside0 ((((((w81.setCell ⟨aa, 0, none⟩ (.int .i64 aM)).setCell ⟨aa, 1, none⟩ (.int .u32 aN)).setCell ⟨aa, 2, none⟩ (.bool aO)).setCell ⟨aa, 3, none⟩ (.slice aP aF.length aR)).setCell ⟨aa, 4, none⟩ (.slice aQ aG.length aS)).heap[aI]? = some (.cells #[.int .i64 aC, .int .u32 aD, .bool aE, .slice a2 av.length a4, .slice a3 aw.length a5] 34 (0, 0))) := ⟨by refine bp_ ?_; refine bF5_ ?_ bI.out; refine bp_ ?_; exact ax.out⟩
         have n12_ : Aside0 ((((((w81.setCell ⟨aa, 0, none⟩ (.int .i64 aM)).setCell ⟨aa, 1, none⟩ (.int .u32 aN)).setCell ⟨aa, 2, none⟩ (.bool aO)).setCell ⟨aa, 3, none⟩ (.slice aP aF.length aR)).setCell ⟨aa, 4, none⟩ (.slice aQ aG.length aS)).heap[aa]? = some (.cells #[.int .i64 aM, .int .u32 aN, .bool aO, .slice aP aF.length aR, .slice aQ aG.length aS] 34 (0, 0))) := ⟨by refine bp_ ?_; apply bS5_; refine bp_ ?_; exact aJ.out⟩
         have n13_ : Aside0 (Below w.heap.size w (((((w81.setCell ⟨aa, 0, none⟩ (.int .i64 aM)).setCell ⟨aa, 1, none⟩ (.int .u32 aN)).setCell ⟨aa, 2, none⟩ (.bool aO)).setCell ⟨aa, 3, none⟩ (.slice aP aF.length aR)).setCell ⟨aa, 4, none⟩ (.slice aQ aG.length aS))) := ⟨hB_ HB⟩
         (try clear aA)
         (try clear aB)
         (try clear aH)
         (try clear ay)
         (try clear az)
         (try clear aT)
         (try clear aU)
         (try clear aV)
         (try clear ab)
         (try clear ac)
         (try clear ad)
         (try clear ax)
         (try clear aJ)
         (try clear HB)
         generalize (((((w81.setCell ⟨aa, 0, none⟩ (.int .i64 aM)).setCell ⟨aa, 1, none⟩ (.int .u32 aN)).setCell ⟨aa, 2, none⟩ (.bool aO)).setCell ⟨aa, 3, none⟩ (.slice aP aF.length aR)).setCell ⟨aa, 4, none⟩ (.slice aQ aG.length aS)) = w89 at n0_ n1_ n2_ n3_ n4_ n5_ n6_ n7_ n8_ n9_ n10_ n11_ n12_ n13_ ⊢
         have aA := n0_; have aB := n1_; have aH := n2_; have ay := n3_; have az := n4_; have aT := n5_; have aU := n6_; have aV := n7_; have ab := n8_; have ac := n9_; have ad := n10_; have ax := n11_; have aJ := n12_; have HB := n13_; clear n0_ n1_ n2_ n3_ n4_ n5_ n6_ n7_ n8_ n9_ n10_ n11_ n12_ n13_; replace aA := Aside0.mk (Kd.V_drew aA.out); replace aB := Aside0.mk (Kd.V_drew aB.out); replace aH := Aside0.mk (Kd.V_drew aH.out); replace ay := Aside0.mk (Kd.R_drew ay.out); replace az := Aside0.mk (Kd.R_drew az.out); replace aT := Aside0.mk (Kd.V_drew aT.out); replace aU := Aside0.mk (Kd.R_drew aU.out); replace aV := Aside0.mk (Kd.R_drew aV.out); replace ab := Aside0.mk (blk_drew ab.out); replace ac := Aside0.mk (blk_drew ac.out); replace ad := Aside0.mk (blk_drew ad.out); replace ax := Aside0.mk (blk_drew ax.out); replace aJ := Aside0.mk (blk_drew aJ.out); replace HB := Aside0.mk (below_drew1 HB.out); obtain ⟨fQ, fU, eo91⟩ := Kd.V_slice aA.out
         (first | subst eo91 | (injection eo91 with f1_ f2_ f3_; have f4_ := f1_.symm; have f5_ := f3_.symm; clear f1_ f2_ f3_; subst f4_; subst f5_))
         obtain ⟨fR, fV, eo92⟩ := Kd.V_slice aB.out
         (first | subst eo92 | (injection eo92 with f1_ f2_ f3_; have f4_ := f1_.symm; have f5_ := f3_.symm; clear f1_ f2_ f3_; subst f4_; subst f5_))
         refine start_ (n := 28) (S := fun w' => P5_ w' aI (.int .i64 aC) (.int .u32 aD) (.bool aE) (.slice a2 av.length a4) (.slice a3 aw.length a5) (P5_ w' aa (.int .i64 aM) (.int .u32 aN) (.bool aO) (.slice aP aF.length aR) (.slice aQ aG.length aS) (L5_ w' aX (.int .i64 ag) (.int .u32 ah) (.bool ai) (.slice bn ae.length bp) (.slice bo af.length bq)))) (ds := []) (tf 28 0) (by kernel_rfl) rfl rfl (ck5_ ax (ck5_ aJ (cl5_ ad))) (fun hHeld => ?_); refine with_tabW lodgerlaw11_SpecTells.tab7 lodgerlaw11_SpecTells.bits7 (fun HT_ HW_ => ?_)
         generalize w89.drew = w90 at aA aB aH ay az aT aU aV ab ac ad ax aJ HB hHeld ⊢
         refine puU_ 0 66 (tf 28 1) HT_ ?_; refine puU_ 1 67 (tf 28 3) HT_ ?_
         refine on_ (i := 2) (N := some 68) (tf 28 7) HT_ (fun K hK => ?_)
         refine gN_ Tryd.func17 (lodgerref03_Ints.calls kj4 _ _ bj _ _ br true _ (cD_ (Kd.V_reads' aA.out).2.2) ((Kd.V_reads' aA.out).2.1) (cD_ (Kd.V_reads' aB.out).2.2) ((Kd.V_reads' aB.out).2.1) A47.out) ?_
         rintro e w' ⟨rfl, ⟨nd, rfl⟩⟩
         refine ⟨_, rfl, ?_⟩
         obtain ⟨fS, fW, eo93⟩ := Kd.V_slice aH.out
         (first | subst eo93 | (injection eo93 with f1_ f2_ f3_; have f4_ := f1_.symm; have f5_ := f3_.symm; clear f1_ f2_ f3_; subst f4_; subst f5_))
         obtain ⟨fT, fX, eo94⟩ := Kd.V_slice aT.out
         (first | subst eo94 | (injection eo94 with f1_ f2_ f3_; have f4_ := f1_.symm; have f5_ := f3_.symm; clear f1_ f2_ f3_; subst f4_; subst f5_))
         refine hK.out _ _ (ck5_ ax (ck5_ aJ (cl5_ ad))) (fun hHeld => ?_)
         clear hK K
         refine norm_ (a' := ?_) ?_ ?_
         rotate_left
         ·show Act.put _ (some 68) _ = _
          simp only [Act.put, List.setIfInBounds_toArray, List.set_cons_zero, List.set_cons_succ, i64_w, i32_w]
          rfl
         refine puU_ 3 69 (tf 28 15) HT_ ?_; refine puU_ 4 70 (tf 28 31) HT_ ?_; refine puU_ 5 71 (tf 28 63) HT_ ?_; refine puU_ 6 72 (tf 28 127) HT_ ?_; refine puU_ 7 73 (tf 28 255) HT_ ?_; refine puU_ 8 74 (tf 28 511) HT_ ?_; refine puU_ 9 75 (tf 28 1023) HT_ ?_; refine puU_ 10 76 (tf 28 2047) HT_ ?_
         refine on_ (i := 11) (N := some 77) (tf 28 4095) HT_ (fun K hK => ?_)
         refine gN_ Tryd.func17 (lodgerref03_Ints.calls kj4 _ _ bk _ _ bB true _ (cD_ (Kd.V_reads' aH.out).2.2) ((Kd.V_reads' aH.out).2.1) (cD_ (Kd.V_reads' aT.out).2.2) ((Kd.V_reads' aT.out).2.1) A50.out) ?_
         rintro e w' ⟨rfl, ⟨nd, rfl⟩⟩
         refine ⟨_, rfl, ?_⟩
         refine hK.out _ _ (ck5_ ax (ck5_ aJ (cl5_ ad))) (fun hHeld => ?_)
         clear hK K
         refine norm_ (a' := ?_) ?_ ?_
         rotate_left
         ·show Act.put _ (some 77) _ = _
          simp only [Act.put, List.setIfInBounds_toArray, List.set_cons_zero, List.set_cons_succ, i64_w, i32_w]
          rfl
         refine puU_ 12 78 (tf 28 8191) HT_ ?_; refine puU_ 13 79 (tf 28 16383) HT_ ?_; refine tkU_ 14 80 (tf 28 32767) rfl rfl HT_ HW_ hHeld (by rintro w' ⟨s0, s1, s2, s3, s4, s5, s6, s7, s8, s9, s10, s11, s12, s13, s14⟩; go_simp; with_reducible rfl) ?_; refine tkU_ 15 81 (tf 28 65535) rfl rfl HT_ HW_ hHeld (by rintro w' ⟨s0, s1, s2, s3, s4, s5, s6, s7, s8, s9, s10, s11, s12, s13, s14⟩; go_simp; with_reducible rfl) ?_
         refine on_ (i := 16) (N := some 82) (tf 28 131071) HT_ (fun K hK => ?_)
         refine gN_ Tryd.func18 (lodgerref08_Answers.calls kj4 aC aD aE _ _ av _ _ aw aM aN aO _ _ aF _ _ aG true _ (cD_ (Kd.R_reads' ay.out).2.2) ((Kd.R_reads' ay.out).2.1) (cD_ (Kd.R_reads' az.out).2.2) ((Kd.R_reads' az.out).2.1) (cD_ (Kd.R_reads' aU.out).2.2) ((Kd.R_reads' aU.out).2.1) (cD_ (Kd.R_reads' aV.out).2.2) ((Kd.R_reads' aV.out).2.1) A52.out) ?_
         rintro e w95 ⟨rfl, hb⟩
         refine ⟨_, rfl, ?_⟩
         replace aA := vB_ aA hb; replace aB := vB_ aB hb; replace aH := vB_ aH hb; replace ay := rB_ ay hb; replace az := rB_ az hb; replace aT := vB_ aT hb; replace aU := rB_ aU hb; replace aV := rB_ aV hb; replace ab := bB_ ab hb; replace ac := bB_ ac hb; replace ad := bB_ ad hb; replace ax := bB_ ax hb; replace aJ := bB_ aJ hb; replace HB := hS_ HB hb
         (try clear hb)
         (try clear hb2)
         (try clear hk)
         (try clear hi)
         refine hK.out _ _ (ck5_ ax (ck5_ aJ (cl5_ ad))) (fun hHeld => ?_)
         clear hK K
         refine norm_ (a' := ?_) ?_ ?_
         rotate_left
         ·show Act.put _ (some 82) _ = _
          simp only [Act.put, List.setIfInBounds_toArray, List.set_cons_zero, List.set_cons_succ, i64_w, i32_w]
          rfl
         refine puU_ 17 83 (tf 28 262143) HT_ ?_; refine puU_ 18 84 (tf 28 524287) HT_ ?_; refine tkU_ 19 85 (tf 28 1048575) rfl rfl HT_ HW_ hHeld (by rintro w' ⟨s0, s1, s2, s3, s4, s5, s6, s7, s8, s9, s10, s11, s12, s13, s14⟩; go_simp; with_reducible rfl) ?_; refine tkU_ 20 86 (tf 28 2097151) rfl rfl HT_ HW_ hHeld (by rintro w' ⟨s0, s1, s2, s3, s4, s5, s6, s7, s8, s9, s10, s11, s12, s13, s14⟩; go_simp; with_reducible rfl) ?_; refine tkU_ 22 88 (tf 28 6291455) rfl rfl HT_ HW_ hHeld (by rintro w' ⟨s0, s1, s2, s3, s4, s5, s6, s7, s8, s9, s10, s11, s12, s13, s14⟩; go_simp; with_reducible rfl) ?_; refine tkU_ 23 89 (tf 28 14680063) rfl rfl HT_ HW_ hHeld (by rintro w' ⟨s0, s1, s2, s3, s4, s5, s6, s7, s8, s9, s10, s11, s12, s13, s14⟩; go_simp; with_reducible rfl) ?_
         refine on_ (i := 21) (N := some 87) (tf 28 16777215) HT_ (fun K hK => ?_)
         refine gN_ Tryd.func19 (spec_Same.calls kj4 ag ah ai _ _ ae _ _ af aC aD aE _ _ av _ _ aw aL _ (cC_ bu HB) bs.out (cC_ bv HB) bt.out (cD_ (Kd.R_reads' ay.out).2.2) ((Kd.R_reads' ay.out).2.1) (cD_ (Kd.R_reads' az.out).2.2) ((Kd.R_reads' az.out).2.1) A54.out) ?_
         rintro e w96 ⟨rfl, hb⟩
         refine ⟨_, rfl, ?_⟩
         replace aA := vB_ aA hb; replace aB := vB_ aB hb; replace aH := vB_ aH hb; replace ay := rB_ ay hb; replace az := rB_ az hb; replace aT := vB_ aT hb; replace aU := rB_ aU hb; replace aV := rB_ aV hb; replace ab := bB_ ab hb; replace ac := bB_ ac hb; replace ad := bB_ ad hb; replace ax := bB_ ax hb; replace aJ := bB_ aJ hb; replace HB := hS_ HB hb
         (try clear hb)
         (try clear hb2)
         (try clear hk)
         (try clear hi)
         refine hK.out _ _ (ck5_ ax (ck5_ aJ (cl5_ ad))) (fun hHeld => ?_)
         clear hK K
         refine norm_ (a' := ?_) ?_ ?_
         rotate_left
         ·show Act.put _ (some 87) _ = _
          simp only [Act.put, List.setIfInBounds_toArray, List.set_cons_zero, List.set_cons_succ, i64_w, i32_w]
          rfl
         refine on_ (i := 24) (N := some 90) (tf 28 33554431) HT_ (fun K hK => ?_)
         refine gN_ Tryd.func18 (lodgerref08_Answers.calls kj4 ag ah ai _ _ ae _ _ af aC aD aE _ _ av _ _ aw aK _ (cC_ bu HB) bs.out (cC_ bv HB) bt.out (cD_ (Kd.R_reads' ay.out).2.2) ((Kd.R_reads' ay.out).2.1) (cD_ (Kd.R_reads' az.out).2.2) ((Kd.R_reads' az.out).2.1) A55.out) ?_
         rintro e w97 ⟨rfl, hb⟩
         refine ⟨_, rfl, ?_⟩
         replace aA := vB_ aA hb; replace aB := vB_ aB hb; replace aH := vB_ aH hb; replace ay := rB_ ay hb; replace az := rB_ az hb; replace aT := vB_ aT hb; replace aU := rB_ aU hb; replace aV := rB_ aV hb; replace ab := bB_ ab hb; replace ac := bB_ ac hb; replace ad := bB_ ad hb; replace ax := bB_ ax hb; replace aJ := bB_ aJ hb; replace HB := hS_ HB hb
         (try clear hb)
         (try clear hb2)
         (try clear hk)
         (try clear hi)
         refine hK.out _ _ (ck5_ ax (ck5_ aJ (cl5_ ad))) (fun hHeld => ?_)
         clear hK K
         refine norm_ (a' := ?_) ?_ ?_
         rotate_left
         ·show Act.put _ (some 90) _ = _
          simp only [Act.put, List.setIfInBounds_toArray, List.set_cons_zero, List.set_cons_succ, i64_w, i32_w]
          rfl
         refine puU_ 25 91 (tf 28 67108863) HT_ ?_; refine puU_ 26 92 (tf 28 134217727) HT_ ?_; refine puU_ 27 8 (tf 28 268435455) HT_ ?_
         refine done_ (done_of HT_.out (by kernel_rfl)) ?_
         try go_wp2
         go_ret
         exact ⟨er_, hB_ HB⟩
       ·replace c53 := Bool.eq_false_iff.mpr c53
        subst c53
        have H1 : (some false) = some r := nf_ H
        rw [hr_.out] at H1
        exact absurd (Option.some.inj H1) (by decide)
      ·replace c51 := Bool.eq_false_iff.mpr c51
       subst c51
       have H1 : (some false) = some r := nf_ H
       rw [hr_.out] at H1
       exact absurd (Option.some.inj H1) (by decide)
     ·rw [if_neg c49] at H
      rw [hr_.out] at H
      exact absurd (Option.some.inj H) (by decide)
    ·replace c48 := Bool.eq_false_iff.mpr c48
     subst c48
     have H1 : (some false) = some r := nf_ H
     rw [hr_.out] at H1
     exact absurd (Option.some.inj H1) (by decide)

/-- THE ONE PURE STATEMENT of lodgerlaw11_SpecTells: yours. -/
def lodgerlaw11_SpecTells.Pure : Prop := ∀ (a0_0 a0_1 : Int) (l0_2 : List Int) (a0_3 a0_4 : Int) (a0_5 a0_6 : Int) (l1 : List Int) (a2_0 a2_1 : Int) (l2_2 : List Int) (a3_0 a3_1 : Int) (a3_2 : Bool) (l3_3 l3_4 : List Int), (Lit.int .u32 a0_0).wf = true → (Lit.int .i64 a0_1).wf = true → l0_2.length ≤ maxLen → (∀ x ∈ l0_2, (Lit.int .i64 x).wf = true) → (Lit.int .i64 a0_3).wf = true → (Lit.int .i64 a0_4).wf = true → (Lit.int .i64 a0_5).wf = true → (Lit.int .i64 a0_6).wf = true → l1.length ≤ maxLen → l1.length * 8 ≤ 140737488351232 → (∀ x ∈ l1, (Lit.int .i64 x).wf = true) → (Lit.int .i64 a2_0).wf = true → (Lit.int .u32 a2_1).wf = true → l2_2.length ≤ maxLen → (∀ x ∈ l2_2, (Lit.int .u32 x).wf = true) → (Lit.int .i64 a3_0).wf = true → (Lit.int .u32 a3_1).wf = true → l3_3.length ≤ maxLen → (∀ x ∈ l3_3, (Lit.int .u32 x).wf = true) → l3_4.length ≤ maxLen → (∀ x ∈ l3_4, (Lit.int .i64 x).wf = true) → ∃ k, lodgerlaw11_SpecTells.f k a0_0 a0_1 l0_2 a0_3 a0_4 a0_5 a0_6 l1 a2_0 a2_1 l2_2 a3_0 a3_1 a3_2 l3_3 l3_4 = some true
theorem lodgerlaw11_SpecTells.walk (P : lodgerlaw11_SpecTells.Pure) (a0_0 a0_1 : Int) (a0_2 : Option Addr) (len0_2 cap0_2 : Nat) (z0_2 : List Int) (a0_3 a0_4 : Int) (a0_5 a0_6 : Int) (a1 : Option Addr) (len1 cap1 : Nat) (z1 : List Int) (a2_0 a2_1 : Int) (a2_2 : Option Addr) (len2_2 cap2_2 : Nat) (z2_2 : List Int) (a3_0 a3_1 : Int) (a3_2 : Bool) (a3_3 : Option Addr) (len3_3 cap3_3 : Nat) (z3_3 : List Int) (a3_4 : Option Addr) (len3_4 cap3_4 : Nat) (z3_4 : List Int) (w : World) (w0_0 : (Lit.int .u32 a0_0).wf = true) (w0_1 : (Lit.int .i64 a0_1).wf = true) (w0_2 : (a0_2 = none ∧ len0_2 = 0 ∧ cap0_2 = 0 ∧ z0_2 = []) ∨ ∃ x, a0_2 = some x ∧ len0_2 ≤ cap0_2 ∧ cap0_2 ≤ maxLen ∧ z0_2.length = cap0_2 ∧ (∀ i, i < z0_2.length → w.cell? (x.add i) = some (.int .i64 (z0_2.getD i 0))) ∧ ∀ n ∈ z0_2, (Lit.int .i64 n).wf = true) (w0_3 : (Lit.int .i64 a0_3).wf = true) (w0_4 : (Lit.int .i64 a0_4).wf = true) (w0_5 : (Lit.int .i64 a0_5).wf = true) (w0_6 : (Lit.int .i64 a0_6).wf = true) (w1 : (a1 = none ∧ len1 = 0 ∧ cap1 = 0 ∧ z1 = []) ∨ ∃ x, a1 = some x ∧ len1 ≤ cap1 ∧ cap1 ≤ maxLen ∧ z1.length = cap1 ∧ (∀ i, i < z1.length → w.cell? (x.add i) = some (.int .i64 (z1.getD i 0))) ∧ ∀ n ∈ z1, (Lit.int .i64 n).wf = true) (y1 : len1 * 8 ≤ 140737488351232) (w2_0 : (Lit.int .i64 a2_0).wf = true) (w2_1 : (Lit.int .u32 a2_1).wf = true) (w2_2 : (a2_2 = none ∧ len2_2 = 0 ∧ cap2_2 = 0 ∧ z2_2 = []) ∨ ∃ x, a2_2 = some x ∧ len2_2 ≤ cap2_2 ∧ cap2_2 ≤ maxLen ∧ z2_2.length = cap2_2 ∧ (∀ i, i < z2_2.length → w.cell? (x.add i) = some (.int .u32 (z2_2.getD i 0))) ∧ ∀ n ∈ z2_2, (Lit.int .u32 n).wf = true) (w3_0 : (Lit.int .i64 a3_0).wf = true) (w3_1 : (Lit.int .u32 a3_1).wf = true) (w3_3 : (a3_3 = none ∧ len3_3 = 0 ∧ cap3_3 = 0 ∧ z3_3 = []) ∨ ∃ x, a3_3 = some x ∧ len3_3 ≤ cap3_3 ∧ cap3_3 ≤ maxLen ∧ z3_3.length = cap3_3 ∧ (∀ i, i < z3_3.length → w.cell? (x.add i) = some (.int .u32 (z3_3.getD i 0))) ∧ ∀ n ∈ z3_3, (Lit.int .u32 n).wf = true) (w3_4 : (a3_4 = none ∧ len3_4 = 0 ∧ cap3_4 = 0 ∧ z3_4 = []) ∨ ∃ x, a3_4 = some x ∧ len3_4 ≤ cap3_4 ∧ cap3_4 ≤ maxLen ∧ z3_4.length = cap3_4 ∧ (∀ i, i < z3_4.length → w.cell? (x.add i) = some (.int .i64 (z3_4.getD i 0))) ∧ ∀ n ∈ z3_4, (Lit.int .i64 n).wf = true) (hG : Lg w) :
  Calls Tryd.prog 3 #[.agg #[.int .u32 a0_0, .int .i64 a0_1, .slice a0_2 len0_2 cap0_2, .int .i64 a0_3, .int .i64 a0_4, .int .i64 a0_5, .int .i64 a0_6], .slice a1 len1 cap1, .agg #[.int .i64 a2_0, .int .u32 a2_1, .slice a2_2 len2_2 cap2_2], .agg #[.int .i64 a3_0, .int .u32 a3_1, .bool a3_2, .slice a3_3 len3_3 cap3_3, .slice a3_4 len3_4 cap3_4]] w fun e w' => e = .returned (.bool true) ∧ Below w.heap.size w w' := by
 obtain ⟨l0_2, rfl, hr0_2, hm0_2, hw0_2, hc0_2⟩ := ReadsInt.ofRowC w0_2
 obtain ⟨l1, rfl, hr1, hm1, hw1, hc1⟩ := ReadsInt.ofRowC w1
 obtain ⟨l2_2, rfl, hr2_2, hm2_2, hw2_2, hc2_2⟩ := ReadsInt.ofRowC w2_2
 obtain ⟨l3_3, rfl, hr3_3, hm3_3, hw3_3, hc3_3⟩ := ReadsInt.ofRowC w3_3
 obtain ⟨l3_4, rfl, hr3_4, hm3_4, hw3_4, hc3_4⟩ := ReadsInt.ofRowC w3_4
 obtain ⟨k, h⟩ := P a0_0 a0_1 l0_2 a0_3 a0_4 a0_5 a0_6 l1 a2_0 a2_1 l2_2 a3_0 a3_1 a3_2 l3_3 l3_4 w0_0 w0_1 hm0_2 hw0_2 w0_3 w0_4 w0_5 w0_6 hm1 y1 hw1 w2_0 w2_1 hm2_2 hw2_2 w3_0 w3_1 hm3_3 hw3_3 hm3_4 hw3_4
 refine (lodgerlaw11_SpecTells.calls k a0_0 a0_1 _ _ l0_2 a0_3 a0_4 a0_5 a0_6 _ _ l1 a2_0 a2_1 _ _ l2_2 a3_0 a3_1 a3_2 _ _ l3_3 _ _ l3_4 true w (Kd.C_of_reads (d := (0 : Int)) (h1 := fun _ => rfl) hr0_2) hc0_2 (Kd.C_of_reads (d := (0 : Int)) (h1 := fun _ => rfl) hr1) hc1 (Kd.C_of_reads (d := (0 : Int)) (h1 := fun _ => rfl) hr2_2) hc2_2 (Kd.C_of_reads (d := (0 : Int)) (h1 := fun _ => rfl) hr3_3) hc3_3 (Kd.C_of_reads (d := (0 : Int)) (h1 := fun _ => rfl) hr3_4) hc3_4 hG rfl h).mono ?_
 rintro e w' ⟨rfl, hd⟩
 exact ⟨rfl, hd⟩

end Go.Proofs.YtkiimboedgnoiaaDoor.PSpecTells
