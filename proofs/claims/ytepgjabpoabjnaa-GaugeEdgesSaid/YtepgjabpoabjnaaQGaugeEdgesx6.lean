/- The walk of GaugeEdges, part of it: what the Go functions answer; no condition. -/
import Derived.Test.YtepgjabpoabjnaaQGaugeEdgesx0
import Derived.Test.YtepgjabpoabjnaaQGaugeEdgesx1
import Derived.Test.YtepgjabpoabjnaaQGaugeEdgesx2
import Derived.Test.YtepgjabpoabjnaaQGaugeEdgesx3
import Derived.Test.YtepgjabpoabjnaaQGaugeEdgesx5
namespace Go.Proofs.Ytepgjabpoabjnaa.PGaugeEdges
open Go.RowKit Go.Proofs.YtepgjabpoabjnaaW.PrintWords Go.Proofs.YtepgjabpoabjnaaW.PrintLast Go.Proofs.YtepgjabpoabjnaaW.PrintMore
attribute [local go_sem] max2_int min2_int max_two min_two max_three min_three max_four min_four   -- for this text's walks alone
set_option linter.unusedVariables false
set_option linter.unusedSimpArgs false

/-! ### lodgerref11_Fits: function 8 -/
def lodgerref11_Fits.f (k : Nat) (a0_0 a0_1 : Int) (l0_2 : List Int) (a0_3 a0_4 : Int) (a0_5 a0_6 : Int) (l1 : List Int) : Option (Bool) := (lodgerref05_May.f k a0_0 a0_1 l0_2 a0_3 a0_4 a0_5 a0_6).bind fun t182 => (if t182 = true then ((lodgerref05_Many.f k a0_0 a0_1).bind fun t183 => (if t183 ≤ 256 then (if (l1.length : Int) ≤ 300 then ((lodgerref09_May.f k a0_0 a0_1 l0_2 a0_3 a0_4 a0_5 a0_6 l1).bind fun t184 => (some t184)) else (some false)) else (some false))) else (some false))
theorem lodgerref11_Fits.mono : ∀ a0 a1 a2 a3 a4 a5 a6 a7 k, LeO (lodgerref11_Fits.f k a0 a1 a2 a3 a4 a5 a6 a7) (lodgerref11_Fits.f (k + 1) a0 a1 a2 a3 a4 a5 a6 a7) := by
 intro a0 a1 a2 a3 a4 a5 a6 a7 k
 unfold lodgerref11_Fits.f
 repeat' (with_reducible first | apply lodgerref05_Many.mono | apply lodgerref05_May.mono | apply lodgerref09_May.mono | exact LeO.refl _ | exact LeO.none _ | refine LeO.ite ?_ ?_ | refine LeO.bind ?_ (fun _ => ?_))
set_option maxHeartbeats 8000000 in
set_option maxRecDepth 100000 in
theorem lodgerref11_Fits.calls (k : Nat) (ab ac : Int) (aj : Option Addr) (ak : Nat) (ad : List Int) (ae af : Int) (ag ah : Int) (A1 : Option Addr) (c1 : Nat) (l1 : List Int) (r : Bool) (w : World) (hr0_2 : Kd.C (Kd.int .i64) w aj ad.length ad) (hc0_2 : ad.length ≤ ak) (hr1 : Kd.C (Kd.int .i64) w A1 l1.length l1) (hc1 : l1.length ≤ c1) (h : lodgerref11_Fits.f k ab ac ad ae af ag ah l1 = some r) :
  Calls Try.prog 8 #[.agg #[.int .u32 ab, .int .i64 ac, .slice aj ad.length ak, .int .i64 ae, .int .i64 af, .int .i64 ag, .int .i64 ah], .slice A1 l1.length c1] w fun e w' => e = .returned (.bool r) ∧ Below w.heap.size w w' := by
 have hu27 := Try.underlying27
 have hu24 := Try.underlying24
 have an := Aside0.mk hr0_2
 have am := Aside0.mk hc0_2
 clear hr0_2 hc0_2
 have cn := Aside0.mk hr1
 have cm := Aside0.mk hc1
 clear hr1 hc1
 have HB := Aside0.mk (Below.refl w.heap.size w)
 have H : ((lodgerref05_May.f k ab ac ad ae af ag ah).bind fun ar => (if ar = true then ((lodgerref05_Many.f k ab ac).bind fun ai => (if ai ≤ 256 then (if (l1.length : Int) ≤ 300 then ((lodgerref09_May.f k ab ac ad ae af ag ah l1).bind fun al => (some al)) else (some false)) else (some false))) else (some false))) = some r := h
 clear h
 replace H := bi_ H
 obtain ⟨ar, A30, H⟩ := H
 replace H : (if ar = true then ((lodgerref05_Many.f k ab ac).bind fun ai => (if ai ≤ 256 then (if (l1.length : Int) ≤ 300 then ((lodgerref09_May.f k ab ac ad ae af ag ah l1).bind fun al => (some al)) else (some false)) else (some false))) else (some false)) = some r := H
 have A3 := Aside0.mk A30
 clear A30
 by_cases c4 : ar = true
 ·subst c4
  have H1 : ((lodgerref05_Many.f k ab ac).bind fun ai => (if ai ≤ 256 then (if (l1.length : Int) ≤ 300 then ((lodgerref09_May.f k ab ac ad ae af ag ah l1).bind fun al => (some al)) else (some false)) else (some false))) = some r := pf_ rfl H
  clear H; have H := H1; clear H1; replace H := bi_ H; obtain ⟨ai, A50, H⟩ := H
  replace H : (if ai ≤ 256 then (if (l1.length : Int) ≤ 300 then ((lodgerref09_May.f k ab ac ad ae af ag ah l1).bind fun al => (some al)) else (some false)) else (some false)) = some r := H
  have A5 := Aside0.mk A50; clear A50
  by_cases c6 : ai ≤ 256
  ·rw [if_pos c6] at H
   have au : decide (ai ≤ 256) = true := decide_eq_true c6
   clear c6
   by_cases c7 : (l1.length : Int) ≤ 300
   ·rw [if_pos c7] at H
    have av : decide ((l1.length : Int) ≤ 300) = true := decide_eq_true c7
    have aw : decide (l1.length ≤ 300) = true := decide_eq_true (by omega)
    clear c7; replace H := bi_ H; obtain ⟨al, A80, H⟩ := H
    replace H : (some al) = some r := H
    have A8 := Aside0.mk A80; clear A80
    obtain rfl := Option.some.inj H
    go_enter Try.func8, Try.ntmps8
    go_wp2_with (first | ((with_reducible refine gd_ 2 ?_); (try (refine gate_guard (by rfl) ?_; dsimp only)); refine bx_ (N := 2) (cs := #[.int .u32 ab, .int .i64 ac, .slice aj ad.length ak, .int .i64 ae, .int .i64 af, .int .i64 ag, .int .i64 ah]) (t := 27) ?_; intro aq hg w9 aa hb; have ap := gG_ hg HB; have ao := gG_ hg HB; replace HB := hS_ HB hb; clear hb hg; obtain ⟨ax, ay, az, aA, aB, aC, aD, br, bs, bt, bu, bv, bw, bx⟩ := cz7_ (w := w9) aa) | ((with_reducible refine gate_callee (f := 19) rfl ?_); refine goesL_ (some 6) rfl rfl Try.func19 (by kernel_rfl) rfl #[.agg #[.int .u32 ab, .int .i64 ac, .slice aj ad.length ak, .int .i64 ae, .int .i64 af, .int .i64 ag, .int .i64 ah]] rfl am_ ?_; (with_reducible refine (lodgerref05_May.calls k ab ac _ _ ad ae af ag ah true _ ?side1 ?side2 A3.out).mono ?_); (case side1 => exact cC_ an HB); (case side2 => exact am.out); rintro e w11 ⟨rfl, hb⟩; refine ⟨_, rfl, ?_⟩; replace HB := hS_ HB hb; replace aa := bB_ aa hb; (try clear hb); obtain ⟨aE, aF, aG, aH, aI, aJ, aK, bz, bA, bB, bC, bD, bE, bF⟩ := cz7_ (w := w11) aa) | (go_at_call 20; (with_reducible refine (lodgerref05_Many.calls k ab ac ai _ A5.out).mono ?_); rintro e w13 ⟨rfl, hb⟩; replace HB := hS_ HB hb; replace aa := bB_ aa hb; (try clear hb); obtain ⟨aL, aM, aN, aO, aP, aQ, aR, bG, bH, bI, bJ, bK, bL, bM⟩ := cz7_ (w := w13) aa) | (go_at_call 21; (with_reducible refine (lodgerref09_May.calls k ab ac _ _ ad ae af ag ah _ _ l1 al _ (cC_ an HB) am.out (cC_ cn HB) cm.out A8.out).mono ?_); rintro e w15 ⟨rfl, hb⟩; replace HB := hS_ HB hb; replace aa := bB_ aa hb; (try clear hb)))
    go_ret
    exact ⟨er_, hB_ HB⟩
   ·rw [if_neg c7] at H
    have av : decide ((l1.length : Int) ≤ 300) = false := decide_eq_false c7
    have aw : decide (l1.length ≤ 300) = false := decide_eq_false (by omega)
    clear c7
    obtain rfl := Option.some.inj H
    go_enter Try.func8, Try.ntmps8
    go_wp2_with (first | ((with_reducible refine gd_ 2 ?_); (try (refine gate_guard (by rfl) ?_; dsimp only)); refine bx_ (N := 2) (cs := #[.int .u32 ab, .int .i64 ac, .slice aj ad.length ak, .int .i64 ae, .int .i64 af, .int .i64 ag, .int .i64 ah]) (t := 27) ?_; intro aq hg w16 aa hb; have ap := gG_ hg HB; have ao := gG_ hg HB; replace HB := hS_ HB hb; clear hb hg; obtain ⟨aS, aT, aU, aV, aW, aX, aY, bN, bO, bP, bQ, bR, bS, bT⟩ := cz7_ (w := w16) aa) | ((with_reducible refine gate_callee (f := 19) rfl ?_); refine goesL_ (some 6) rfl rfl Try.func19 (by kernel_rfl) rfl #[.agg #[.int .u32 ab, .int .i64 ac, .slice aj ad.length ak, .int .i64 ae, .int .i64 af, .int .i64 ag, .int .i64 ah]] rfl am_ ?_; (with_reducible refine (lodgerref05_May.calls k ab ac _ _ ad ae af ag ah true _ ?side1 ?side2 A3.out).mono ?_); (case side1 => exact cC_ an HB); (case side2 => exact am.out); rintro e w18 ⟨rfl, hb⟩; refine ⟨_, rfl, ?_⟩; replace HB := hS_ HB hb; replace aa := bB_ aa hb; (try clear hb); obtain ⟨aZ, a0, a1, a2, a3, a4, a5, bU, bV, bW, bX, bY, bZ, b0⟩ := cz7_ (w := w18) aa) | (go_at_call 20; (with_reducible refine (lodgerref05_Many.calls k ab ac ai _ A5.out).mono ?_); rintro e w20 ⟨rfl, hb⟩; replace HB := hS_ HB hb; replace aa := bB_ aa hb; (try clear hb)))
    go_ret
    exact ⟨er_, hB_ HB⟩
  ·rw [if_neg c6] at H
   have au : decide (ai ≤ 256) = false := decide_eq_false c6
   clear c6
   obtain rfl := Option.some.inj H
   go_enter Try.func8, Try.ntmps8
   go_wp2_with (first | ((with_reducible refine gd_ 2 ?_); (try (refine gate_guard (by rfl) ?_; dsimp only)); refine bx_ (N := 2) (cs := #[.int .u32 ab, .int .i64 ac, .slice aj ad.length ak, .int .i64 ae, .int .i64 af, .int .i64 ag, .int .i64 ah]) (t := 27) ?_; intro aq hg w21 aa hb; have ap := gG_ hg HB; have ao := gG_ hg HB; replace HB := hS_ HB hb; clear hb hg; obtain ⟨a6, a7, a8, a9, ba, bb, bc, b1, b2, b3, b4, b5, b6, b7⟩ := cz7_ (w := w21) aa) | ((with_reducible refine gate_callee (f := 19) rfl ?_); refine goesL_ (some 6) rfl rfl Try.func19 (by kernel_rfl) rfl #[.agg #[.int .u32 ab, .int .i64 ac, .slice aj ad.length ak, .int .i64 ae, .int .i64 af, .int .i64 ag, .int .i64 ah]] rfl am_ ?_; (with_reducible refine (lodgerref05_May.calls k ab ac _ _ ad ae af ag ah true _ ?side1 ?side2 A3.out).mono ?_); (case side1 => exact cC_ an HB); (case side2 => exact am.out); rintro e w23 ⟨rfl, hb⟩; refine ⟨_, rfl, ?_⟩; replace HB := hS_ HB hb; replace aa := bB_ aa hb; (try clear hb); obtain ⟨bd, be, bf, bg, bh, bi, bj, b8, b9, ca, cb, cc, cd, ce⟩ := cz7_ (w := w23) aa) | (go_at_call 20; (with_reducible refine (lodgerref05_Many.calls k ab ac ai _ A5.out).mono ?_); rintro e w25 ⟨rfl, hb⟩; replace HB := hS_ HB hb; replace aa := bB_ aa hb; (try clear hb)))
   go_ret
   exact ⟨er_, hB_ HB⟩
 ·replace c4 := Bool.eq_false_iff.mpr c4
  subst c4
  have H1 : (some false) = some r := nf_ H
  clear H; have H := H1; clear H1
  obtain rfl := Option.some.inj H
  go_enter Try.func8, Try.ntmps8
  go_wp2_with (first | ((with_reducible refine gd_ 2 ?_); (try (refine gate_guard (by rfl) ?_; dsimp only)); refine bx_ (N := 2) (cs := #[.int .u32 ab, .int .i64 ac, .slice aj ad.length ak, .int .i64 ae, .int .i64 af, .int .i64 ag, .int .i64 ah]) (t := 27) ?_; intro aq hg w26 aa hb; have ap := gG_ hg HB; have ao := gG_ hg HB; replace HB := hS_ HB hb; clear hb hg; obtain ⟨bk, bl, bm, bn, bo, bp, bq, cf, cg, ch, ci, cj, ck, cl⟩ := cz7_ (w := w26) aa) | ((with_reducible refine gate_callee (f := 19) rfl ?_); refine goesL_ (some 6) rfl rfl Try.func19 (by kernel_rfl) rfl #[.agg #[.int .u32 ab, .int .i64 ac, .slice aj ad.length ak, .int .i64 ae, .int .i64 af, .int .i64 ag, .int .i64 ah]] rfl am_ ?_; (with_reducible refine (lodgerref05_May.calls k ab ac _ _ ad ae af ag ah false _ ?side1 ?side2 A3.out).mono ?_); (case side1 => exact cC_ an HB); (case side2 => exact am.out); rintro e w28 ⟨rfl, hb⟩; refine ⟨_, rfl, ?_⟩; replace HB := hS_ HB hb; (try clear hb)))
  go_ret
  exact ⟨er_, hB_ HB⟩

/-! ### lodgerref26_Usable: function 18 -/
def lodgerref26_Usable.f (k : Nat) (a0_0 a0_1 : Int) (l0_2 : List Int) (a0_3 a0_4 : Int) (a0_5 a0_6 : Int) : Option (Int) := (lodgerref05_Many.f k a0_0 a0_1).bind fun t186 => (some (wrap64 (t186 - (l0_2.length : Int))))
theorem lodgerref26_Usable.mono : ∀ a0 a1 a2 a3 a4 a5 a6 k, LeO (lodgerref26_Usable.f k a0 a1 a2 a3 a4 a5 a6) (lodgerref26_Usable.f (k + 1) a0 a1 a2 a3 a4 a5 a6) := by
 intro a0 a1 a2 a3 a4 a5 a6 k
 unfold lodgerref26_Usable.f
 repeat' (with_reducible first | apply lodgerref05_Many.mono | exact LeO.refl _ | exact LeO.none _ | refine LeO.ite ?_ ?_ | refine LeO.bind ?_ (fun _ => ?_))
def lodgerref26_Usable.T1 : Bool × List (List Nat × List Nat) := (true, [([], []), ([0], [0]), ([1], [1]), ([], []), ([3], [3]), ([4], [4]), ([2, 5], [2, 5]), ([6, 2, 0, 1, 2, 3, 4, 5, 6], [6])])
def lodgerref26_Usable.B1 : List Nat := [0, 1, 3, 0, 8, 24, 63, 127]
theorem lodgerref26_Usable.tab1 : rtab .any (opsOf Try.f18 1) = lodgerref26_Usable.T1 := by kernel_rfl
theorem lodgerref26_Usable.bits1 : waitsOk lodgerref26_Usable.T1.2 lodgerref26_Usable.B1 = true := by kernel_rfl
set_option maxHeartbeats 8000000 in
set_option maxRecDepth 100000 in
theorem lodgerref26_Usable.calls (k : Nat) (ad ae : Int) (af : Option Addr) (ak : Nat) (ac : List Int) (ag ah : Int) (ai aj r : Int) (w : World) (hr0_2 : Kd.C (Kd.int .i64) w af ac.length ac) (hc0_2 : ac.length ≤ ak) (h : lodgerref26_Usable.f k ad ae ac ag ah ai aj = some r) :
  Calls Try.prog 18 #[.agg #[.int .u32 ad, .int .i64 ae, .slice af ac.length ak, .int .i64 ag, .int .i64 ah, .int .i64 ai, .int .i64 aj]] w fun e w' => e = .returned (.int .i64 r) ∧ Below w.heap.size w w' := by
 have hu27 := Try.underlying27
 have hu24 := Try.underlying24
 have ap := Aside0.mk hr0_2
 have ao := Aside0.mk hc0_2
 clear hr0_2 hc0_2
 have HB := Aside0.mk (Below.refl w.heap.size w)
 have H : ((lodgerref05_Many.f k ad ae).bind fun al => (some (wrap64 (al - (ac.length : Int))))) = some r := h
 clear h
 replace H := bi_ H
 obtain ⟨al, A20, H⟩ := H
 replace H : (some (wrap64 (al - (ac.length : Int)))) = some r := H
 have A2 := Aside0.mk A20
 clear A20
 obtain rfl := Option.some.inj H
 go_enter Try.func18, Try.ntmps18
 try go_wp2_with (first | ((with_reducible refine gd_ 1 ?_); refine bx_ (N := 1) (cs := #[.int .u32 ad, .int .i64 ae, .slice af ac.length ak, .int .i64 ag, .int .i64 ah, .int .i64 ai, .int .i64 aj]) (t := 27) ?_; intro ab hg w3 aa hb; have an := gG_ hg HB; have am := gG_ hg HB; replace HB := hS_ HB hb; clear hb hg))
 have n0_ := Aside0.mk (blk_drew aa.out)
 have n1_ := Aside0.mk (below_drew1 HB.out)
 clear aa
 clear HB
 have aa := n0_
 have HB := n1_
 clear n0_ n1_
 refine start_ (n := 8) (S := fun w' => w'.cell? ⟨ab, 0, none⟩ = some (.int .u32 ad) ∧ w'.cell? ⟨ab, 1, none⟩ = some (.int .i64 ae) ∧ w'.cell? ⟨ab, 2, none⟩ = some (.slice af ac.length ak) ∧ w'.cell? ⟨ab, 3, none⟩ = some (.int .i64 ag) ∧ w'.cell? ⟨ab, 4, none⟩ = some (.int .i64 ah) ∧ w'.cell? ⟨ab, 5, none⟩ = some (.int .i64 ai) ∧ w'.cell? ⟨ab, 6, none⟩ = some (.int .i64 aj)) (ds := []) (tf 8 0) (by kernel_rfl) rfl rfl ⟨(blk_cell aa.out 0).trans rfl, (blk_cell aa.out 1).trans rfl, (blk_cell aa.out 2).trans rfl, (blk_cell aa.out 3).trans rfl, (blk_cell aa.out 4).trans rfl, (blk_cell aa.out 5).trans rfl, (blk_cell aa.out 6).trans rfl⟩ (fun hHeld => ?_); refine with_tabW lodgerref26_Usable.tab1 lodgerref26_Usable.bits1 (fun HT_ HW_ => ?_)
 generalize w3.drew = w4 at aa HB hHeld ⊢
 refine puU_ 0 3 (tf 8 1) HT_ ?_
 refine puU_ 3 6 (tf 8 9) HT_ ?_
 refine tkU_ 1 4 (tf 8 11) rfl rfl HT_ HW_ hHeld (by rintro w' ⟨s0, s1, s2, s3, s4, s5, s6⟩; go_simp; with_reducible rfl) ?_
 refine tkU_ 4 7 (tf 8 27) rfl rfl HT_ HW_ hHeld (by rintro w' ⟨s0, s1, s2, s3, s4, s5, s6⟩; go_simp; with_reducible rfl) ?_
 refine puU_ 5 8 (tf 8 59) HT_ ?_
 refine on_ (i := 2) (N := some 5) (tf 8 63) HT_ (fun K hK => ?_)
 refine goes_ Try.func20 (by kernel_rfl) rfl #[.agg #[.int .u32 ad, .int .i64 ae]] (by rfl) rfl rfl am_ ?_
 with_reducible refine (lodgerref05_Many.calls k ad ae al _ A2.out).mono ?_
 rintro e w5 ⟨rfl, hb⟩
 refine ⟨_, rfl, ?_⟩
 have n0_ := bB_ aa hb
 have n1_ := Aside0.mk (below_step (hB_ HB) hb)
 clear aa
 clear HB
 have aa := n0_
 have HB := n1_
 clear n0_ n1_
 (try clear hb)
 (try clear hb2)
 (try clear hk)
 (try clear hi)
 refine hK.out _ _ (cl7_ aa) (fun hHeld => ?_)
 clear hK K
 refine norm_ (a' := ?_) ?_ ?_
 rotate_left
 ·show Act.put _ (some 5) _ = _
  simp only [Act.put, List.setIfInBounds_toArray, List.set_cons_zero, List.set_cons_succ, i64_w, i32_w]
  rfl
 refine puU_ 6 9 (tf 8 127) HT_ ?_
 refine puU_ 7 2 (tf 8 255) HT_ ?_
 refine done_ (done_of HT_.out (by kernel_rfl)) ?_
 try go_wp2
 go_ret
 exact ⟨er_, hB_ HB⟩

/-! ### lodgerlaw26_GaugeEdges: function 6 -/
def lodgerlaw26_GaugeEdges.j0 : Nat → List Int → Bool → Int → Int → List Int → Int → Int → Int → Int → Option (Bool)
 | 0, _, _, _, _, _, _, _, _, _ => none
 | k + 1, x1, x32, x188000, x188001, x188002, x188003, x188004, x188005, x188006 => if x32 = true then ((lodgerlaw26_awake.f k).bind fun t190 => (some t190)) else (if fmulok (floatOfInt .f64 (x1.length : Int)) 0 = true then ((lodgerref26_Usable.f k x188000 x188001 x188002 x188003 x188004 x188005 x188006).bind fun t191 => (if fdivok (fmul (floatOfInt .f64 (x1.length : Int)) 0) (fmul (floatOfInt .f64 (x1.length : Int)) 0) = false then (if fdivok 4607182418800017408 (fmul (floatOfInt .f64 (x1.length : Int)) 0) = true then ((gauge_Least.f k x188000 x188001 x188002 x188003 x188004 x188005 x188006 (fneg (fmul (floatOfInt .f64 (x1.length : Int)) 0))).bind fun bt192 => ((gauge_Least.f k x188000 x188001 x188002 x188003 x188004 x188005 x188006 4607182418800017408).bind fun bt194 => ((gauge_Least.f k x188000 x188001 x188002 x188003 x188004 x188005 x188006 1).bind fun bt196 => ((gauge_Least.f k x188000 x188001 x188002 x188003 x188004 x188005 x188006 fnan0_).bind fun bt198 => ((gauge_Above.f x188000 x188001 x188002 x188003 x188004 x188005 x188006 x1 (fdiv 4607182418800017408 (fmul (floatOfInt .f64 (x1.length : Int)) 0))).bind fun bt200 => ((gauge_Above.f x188000 x188001 x188002 x188003 x188004 x188005 x188006 x1 (fneg (fdiv 4607182418800017408 (fmul (floatOfInt .f64 (x1.length : Int)) 0)))).bind fun bt202 => ((gauge_Above.f x188000 x188001 x188002 x188003 x188004 x188005 x188006 x1 9223372036854775809).bind fun bt204 => ((gauge_Above.f x188000 x188001 x188002 x188003 x188004 x188005 x188006 x1 4607182418800017408).bind fun bt206 => (if bt192.1 = 0 then (if bt192.2 = 0 then (if bt194.1 = t191 then (if bt194.2 = 0 then (if bt196.1 = (mn t191 1) then (if bt196.2 = 0 then (if bt198.2 = 1 then (if bt200.2 = 1 then (if bt202.2 = 1 then (if bt204.2 = 1 then (if bt206.2 = 0 then (some (bt206.1 == ((x1.length : Int) == t191))) else (some false)) else (some false)) else (some false)) else (some false)) else (some false)) else (some false)) else (some false)) else (some false)) else (some false)) else (some false)) else (some false)))))))))) else (none)) else (none))) else (none))
def lodgerlaw26_GaugeEdges.f (k : Nat) (a0_0 a0_1 : Int) (l0_2 : List Int) (a0_3 a0_4 : Int) (a0_5 a0_6 : Int) (l1 : List Int) : Option (Bool) := (lodgerlaw26_awake.f k).bind fun t188 => (if t188 = true then ((lodgerref11_Fits.f k a0_0 a0_1 l0_2 a0_3 a0_4 a0_5 a0_6 l1).bind fun t189 => (lodgerlaw26_GaugeEdges.j0 k l1 (!t189) a0_0 a0_1 l0_2 a0_3 a0_4 a0_5 a0_6)) else (lodgerlaw26_GaugeEdges.j0 k l1 true a0_0 a0_1 l0_2 a0_3 a0_4 a0_5 a0_6))
theorem lodgerlaw26_GaugeEdges.mono_l : ∀ k, (∀ y0 y1 y2 y3 y4 y5 y6 y7 y8, LeO (lodgerlaw26_GaugeEdges.j0 k y0 y1 y2 y3 y4 y5 y6 y7 y8) (lodgerlaw26_GaugeEdges.j0 (k + 1) y0 y1 y2 y3 y4 y5 y6 y7 y8))
 | 0 => fun _ _ _ _ _ _ _ _ _ r h => by simp [lodgerlaw26_GaugeEdges.j0] at h
 | k + 1 => by
  have ih0 := lodgerlaw26_GaugeEdges.mono_l k
  ·intro y0 y1 y2 y3 y4 y5 y6 y7 y8
   unfold lodgerlaw26_GaugeEdges.j0
   repeat' (with_reducible first | apply ih0 | apply gauge_Least.mono | apply lodgerlaw26_awake.mono | apply lodgerref11_Fits.mono | apply lodgerref26_Usable.mono | exact LeO.refl _ | exact LeO.none _ | refine LeO.ite ?_ ?_ | refine LeO.bind ?_ (fun _ => ?_))
theorem lodgerlaw26_GaugeEdges.mono : ∀ a0 a1 a2 a3 a4 a5 a6 a7 k, LeO (lodgerlaw26_GaugeEdges.f k a0 a1 a2 a3 a4 a5 a6 a7) (lodgerlaw26_GaugeEdges.f (k + 1) a0 a1 a2 a3 a4 a5 a6 a7) := by
 intro a0 a1 a2 a3 a4 a5 a6 a7 k
 have ih0 := lodgerlaw26_GaugeEdges.mono_l k
 unfold lodgerlaw26_GaugeEdges.f
 repeat' (with_reducible first | apply ih0 | apply gauge_Least.mono | apply lodgerlaw26_awake.mono | apply lodgerref11_Fits.mono | apply lodgerref26_Usable.mono | exact LeO.refl _ | exact LeO.none _ | refine LeO.ite ?_ ?_ | refine LeO.bind ?_ (fun _ => ?_))
set_option maxHeartbeats 8000000 in
set_option maxRecDepth 100000 in
theorem lodgerlaw26_GaugeEdges.calls (k : Nat) (ab ac : Int) (aj : Option Addr) (ak : Nat) (aa : List Int) (ad ae : Int) (af ag : Int) (A1 : Option Addr) (c1 : Nat) (l1 : List Int) (r : Bool) (w : World) (hr0_2 : Kd.C (Kd.int .i64) w aj aa.length aa) (hc0_2 : aa.length ≤ ak) (hr1 : Kd.C (Kd.int .i64) w A1 l1.length l1) (hc1 : l1.length ≤ c1) (hr_ : r = true) (h : lodgerlaw26_GaugeEdges.f k ab ac aa ad ae af ag l1 = some r) :
  Calls Try.prog 6 #[.agg #[.int .u32 ab, .int .i64 ac, .slice aj aa.length ak, .int .i64 ad, .int .i64 ae, .int .i64 af, .int .i64 ag], .slice A1 l1.length c1] w fun e w' => e = .returned (.bool r) ∧ Below w.heap.size w w' := by
 have hu27 := Try.underlying27
 have am := Aside0.mk hr0_2
 have al := Aside0.mk hc0_2
 clear hr0_2 hc0_2
 have aF := Aside0.mk hr1
 have aE := Aside0.mk hc1
 clear hr1 hc1
 have HB := Aside0.mk (Below.refl w.heap.size w)
 replace hr_ := Aside0.mk hr_
 have H : ((lodgerlaw26_awake.f k).bind fun aC => (if aC = true then ((lodgerref11_Fits.f k ab ac aa ad ae af ag l1).bind fun aw => (lodgerlaw26_GaugeEdges.j0 k l1 (!aw) ab ac aa ad ae af ag)) else (lodgerlaw26_GaugeEdges.j0 k l1 true ab ac aa ad ae af ag))) = some r := h
 clear h
 have aH := Aside0.mk H
 clear H
 go_enter Try.func6, Try.ntmps6
 go_upto_region 1 with (first | ((with_reducible refine gd_ 2 ?_); (try (refine gate_guard (by rfl) ?_; dsimp only)); refine bx_ (N := 2) (cs := #[.int .u32 ab, .int .i64 ac, .slice aj aa.length ak, .int .i64 ad, .int .i64 ae, .int .i64 af, .int .i64 ag]) (t := 27) ?_; intro aW hg w4 ah hb; have c9 := gG_ hg HB; have c8 := gG_ hg HB; replace HB := hS_ HB hb; clear hb hg))
 (try simp only [Act.put, List.setIfInBounds_toArray, List.set_cons_zero, List.set_cons_succ])
 go_cut [32] (fun v32 wc => ∃ (kq : Nat) (aB : Bool), v32 = .bool aB ∧ Aside0 (lodgerlaw26_GaugeEdges.j0 kq l1 aB ab ac aa ad ae af ag = some r) ∧ Aside0 (kq ≤ k) ∧ Aside0 (wc.heap[aW]? = some (.cells #[.int .u32 ab, .int .i64 ac, (.slice aj aa.length ak), .int .i64 ad, .int .i64 ae, .int .i64 af, .int .i64 ag] 27 (0, 0))) ∧ Aside0 (Below w.heap.size w wc))
 case first =>
  have H := aH.out; clear aH; replace H := bi_ H; obtain ⟨aC, A50, H⟩ := H
  replace H : (if aC = true then ((lodgerref11_Fits.f k ab ac aa ad ae af ag l1).bind fun aw => (lodgerlaw26_GaugeEdges.j0 k l1 (!aw) ab ac aa ad ae af ag)) else (lodgerlaw26_GaugeEdges.j0 k l1 true ab ac aa ad ae af ag)) = some r := H
  have A5 := Aside0.mk A50; clear A50
  by_cases c6 : aC = true
  ·subst c6
   have H1 : ((lodgerref11_Fits.f k ab ac aa ad ae af ag l1).bind fun aw => (lodgerlaw26_GaugeEdges.j0 k l1 (!aw) ab ac aa ad ae af ag)) = some r := pf_ rfl H
   clear H; have H := H1; clear H1; replace H := bi_ H; obtain ⟨aw, A70, H⟩ := H
   replace H : (lodgerlaw26_GaugeEdges.j0 k l1 (!aw) ab ac aa ad ae af ag) = some r := H
   have A7 := Aside0.mk A70; clear A70
   have H' := Aside0.mk H
   clear H
   go_wp2_with (first | ((with_reducible refine gate_callee (f := 7) rfl ?_); refine goesL_ (some 25) rfl rfl Try.func7 (by kernel_rfl) rfl #[] rfl am_ ?_; (with_reducible refine (lodgerlaw26_awake.calls k  true _ A5.out).mono ?_); rintro e w8 ⟨rfl, hb⟩; refine ⟨_, rfl, ?_⟩; replace HB := hS_ HB hb; replace ah := bB_ ah hb; (try clear hb); obtain ⟨aI, aJ, aK, aL, aM, aN, aO, aP, aQ, aR, aS, aT, aU, aV⟩ := cz7_ (w := w8) ah) | (go_at_call 8; (with_reducible refine (lodgerref11_Fits.calls k ab ac _ _ aa ad ae af ag _ _ l1 aw _ (cC_ am HB) al.out (cC_ aF HB) aE.out A7.out).mono ?_); rintro e w10 ⟨rfl, hb⟩; replace HB := hS_ HB hb; replace ah := bB_ ah hb; (try clear hb)))
   go_meet
   case rel => exact ⟨_, (!aw), rs_, H', ⟨by first | omega | exact Nat.le_refl _⟩, ⟨bk_ ah⟩, ⟨hB_ HB⟩⟩
  ·replace c6 := Bool.eq_false_iff.mpr c6
   subst c6
   have H1 : (lodgerlaw26_GaugeEdges.j0 k l1 true ab ac aa ad ae af ag) = some r := nf_ H
   clear H; have H := H1; clear H1
   have H' := Aside0.mk H
   clear H
   go_wp2_with (first | ((with_reducible refine gate_callee (f := 7) rfl ?_); refine goesL_ (some 25) rfl rfl Try.func7 (by kernel_rfl) rfl #[] rfl am_ ?_; (with_reducible refine (lodgerlaw26_awake.calls k  false _ A5.out).mono ?_); rintro e w11 ⟨rfl, hb⟩; refine ⟨_, rfl, ?_⟩; replace HB := hS_ HB hb; replace ah := bB_ ah hb; (try clear hb)))
   go_meet
   case rel => exact ⟨_, (true), rs_, H', ⟨by first | omega | exact Nat.le_refl _⟩, ⟨bk_ ah⟩, ⟨hB_ HB⟩⟩
 case rest =>
  clear aH
  try clear c1
  try clear p2
  try clear c6
  try clear c7
  try clear aI aJ aK aL aM aN aO
  try clear aP aQ aR aS aT aU aV
  obtain ⟨kq, aB, rfl, HA, dE, ah, HB⟩ := hcut
  cases kq with
  | zero => exact absurd HA.out (by simp [lodgerlaw26_GaugeEdges.j0])
  | succ kj2 =>
   have H := HA.out; clear HA; simp only [lodgerlaw26_GaugeEdges.j0] at H
   by_cases c12 : aB = true
   ·subst c12
    have H1 : ((lodgerlaw26_awake.f kj2).bind fun aD => (some aD)) = some r := pf_ rfl H
    clear H; have H := H1; clear H1; replace H := bi_ H; obtain ⟨aD, A130, H⟩ := H
    replace H : (some aD) = some r := H
    have A13 := Aside0.mk A130; clear A130
    first | (exfalso; rw [hr_.out] at H; exact absurd (Option.some.inj H) (by decide)) | (try clear hr_)
    all_goals
     obtain rfl := Option.some.inj H
     go_wp2_with (first | ((with_reducible refine gate_callee (f := 7) rfl ?_); refine goesL_ (some 33) rfl rfl Try.func7 (by kernel_rfl) rfl #[] rfl am_ ?_; (with_reducible refine (lodgerlaw26_awake.calls kj2  aD _ A13.out).mono ?_); rintro e w14 ⟨rfl, hb⟩; refine ⟨_, rfl, ?_⟩; replace HB := hS_ HB hb; replace ah := bB_ ah hb; (try clear hb)))
     go_ret
     exact ⟨er_, hB_ HB⟩
   ·replace c12 := Bool.eq_false_iff.mpr c12
    subst c12
    have H1 : (if fmulok (floatOfInt .f64 (l1.length : Int)) 0 = true then ((lodgerref26_Usable.f kj2 ab ac aa ad ae af ag).bind fun ai => (if fdivok (fmul (floatOfInt .f64 (l1.length : Int)) 0) (fmul (floatOfInt .f64 (l1.length : Int)) 0) = false then (if fdivok 4607182418800017408 (fmul (floatOfInt .f64 (l1.length : Int)) 0) = true then ((gauge_Least.f kj2 ab ac aa ad ae af ag (fneg (fmul (floatOfInt .f64 (l1.length : Int)) 0))).bind fun bt192 => ((gauge_Least.f kj2 ab ac aa ad ae af ag 4607182418800017408).bind fun bt194 => ((gauge_Least.f kj2 ab ac aa ad ae af ag 1).bind fun bt196 => ((gauge_Least.f kj2 ab ac aa ad ae af ag fnan0_).bind fun bt198 => ((gauge_Above.f ab ac aa ad ae af ag l1 (fdiv 4607182418800017408 (fmul (floatOfInt .f64 (l1.length : Int)) 0))).bind fun bt200 => ((gauge_Above.f ab ac aa ad ae af ag l1 (fneg (fdiv 4607182418800017408 (fmul (floatOfInt .f64 (l1.length : Int)) 0)))).bind fun bt202 => ((gauge_Above.f ab ac aa ad ae af ag l1 9223372036854775809).bind fun bt204 => ((gauge_Above.f ab ac aa ad ae af ag l1 4607182418800017408).bind fun bt206 => (if bt192.1 = 0 then (if bt192.2 = 0 then (if bt194.1 = ai then (if bt194.2 = 0 then (if bt196.1 = (mn ai 1) then (if bt196.2 = 0 then (if bt198.2 = 1 then (if bt200.2 = 1 then (if bt202.2 = 1 then (if bt204.2 = 1 then (if bt206.2 = 0 then (some (bt206.1 == ((l1.length : Int) == ai))) else (some false)) else (some false)) else (some false)) else (some false)) else (some false)) else (some false)) else (some false)) else (some false)) else (some false)) else (some false)) else (some false)))))))))) else (none)) else (none))) else (none)) = some r := nf_ H
    clear H; have H := H1; clear H1
    by_cases c15 : fmulok (floatOfInt .f64 (l1.length : Int)) 0 = true
    ·rw [if_pos c15] at H
     have da := eq_true c15
     have db : decide (fmulok (floatOfInt .f64 (l1.length : Int)) 0 = true) = true := decide_eq_true c15
     clear c15; replace H := bi_ H; obtain ⟨ai, A160, H⟩ := H
     replace H : (if fdivok (fmul (floatOfInt .f64 (l1.length : Int)) 0) (fmul (floatOfInt .f64 (l1.length : Int)) 0) = false then (if fdivok 4607182418800017408 (fmul (floatOfInt .f64 (l1.length : Int)) 0) = true then ((gauge_Least.f kj2 ab ac aa ad ae af ag (fneg (fmul (floatOfInt .f64 (l1.length : Int)) 0))).bind fun bt192 => ((gauge_Least.f kj2 ab ac aa ad ae af ag 4607182418800017408).bind fun bt194 => ((gauge_Least.f kj2 ab ac aa ad ae af ag 1).bind fun bt196 => ((gauge_Least.f kj2 ab ac aa ad ae af ag fnan0_).bind fun bt198 => ((gauge_Above.f ab ac aa ad ae af ag l1 (fdiv 4607182418800017408 (fmul (floatOfInt .f64 (l1.length : Int)) 0))).bind fun bt200 => ((gauge_Above.f ab ac aa ad ae af ag l1 (fneg (fdiv 4607182418800017408 (fmul (floatOfInt .f64 (l1.length : Int)) 0)))).bind fun bt202 => ((gauge_Above.f ab ac aa ad ae af ag l1 9223372036854775809).bind fun bt204 => ((gauge_Above.f ab ac aa ad ae af ag l1 4607182418800017408).bind fun bt206 => (if bt192.1 = 0 then (if bt192.2 = 0 then (if bt194.1 = ai then (if bt194.2 = 0 then (if bt196.1 = (mn ai 1) then (if bt196.2 = 0 then (if bt198.2 = 1 then (if bt200.2 = 1 then (if bt202.2 = 1 then (if bt204.2 = 1 then (if bt206.2 = 0 then (some (bt206.1 == ((l1.length : Int) == ai))) else (some false)) else (some false)) else (some false)) else (some false)) else (some false)) else (some false)) else (some false)) else (some false)) else (some false)) else (some false)) else (some false)))))))))) else (none)) else (none)) = some r := H
     have A16 := Aside0.mk A160; clear A160
     by_cases c17 : fdivok (fmul (floatOfInt .f64 (l1.length : Int)) 0) (fmul (floatOfInt .f64 (l1.length : Int)) 0) = false
     ·rw [if_pos c17] at H
      have dc := eq_true c17
      have dd : decide (fdivok (fmul (floatOfInt .f64 (l1.length : Int)) 0) (fmul (floatOfInt .f64 (l1.length : Int)) 0) = false) = true := decide_eq_true c17
      clear c17
      by_cases c18 : fdivok 4607182418800017408 (fmul (floatOfInt .f64 (l1.length : Int)) 0) = true
      ·rw [if_pos c18] at H
       have de := eq_true c18
       have df : decide (fdivok 4607182418800017408 (fmul (floatOfInt .f64 (l1.length : Int)) 0) = true) = true := decide_eq_true c18
       clear c18; replace H := bi_ H; obtain ⟨⟨an, ao⟩, A190, H⟩ := H
       replace H : ((gauge_Least.f kj2 ab ac aa ad ae af ag 4607182418800017408).bind fun bt194 => ((gauge_Least.f kj2 ab ac aa ad ae af ag 1).bind fun bt196 => ((gauge_Least.f kj2 ab ac aa ad ae af ag fnan0_).bind fun bt198 => ((gauge_Above.f ab ac aa ad ae af ag l1 (fdiv 4607182418800017408 (fmul (floatOfInt .f64 (l1.length : Int)) 0))).bind fun bt200 => ((gauge_Above.f ab ac aa ad ae af ag l1 (fneg (fdiv 4607182418800017408 (fmul (floatOfInt .f64 (l1.length : Int)) 0)))).bind fun bt202 => ((gauge_Above.f ab ac aa ad ae af ag l1 9223372036854775809).bind fun bt204 => ((gauge_Above.f ab ac aa ad ae af ag l1 4607182418800017408).bind fun bt206 => (if an = 0 then (if ao = 0 then (if bt194.1 = ai then (if bt194.2 = 0 then (if bt196.1 = (mn ai 1) then (if bt196.2 = 0 then (if bt198.2 = 1 then (if bt200.2 = 1 then (if bt202.2 = 1 then (if bt204.2 = 1 then (if bt206.2 = 0 then (some (bt206.1 == ((l1.length : Int) == ai))) else (some false)) else (some false)) else (some false)) else (some false)) else (some false)) else (some false)) else (some false)) else (some false)) else (some false)) else (some false)) else (some false))))))))) = some r := H
       have A19 := Aside0.mk A190; clear A190; replace H := bi_ H; obtain ⟨⟨ap, aq⟩, A200, H⟩ := H
       replace H : ((gauge_Least.f kj2 ab ac aa ad ae af ag 1).bind fun bt196 => ((gauge_Least.f kj2 ab ac aa ad ae af ag fnan0_).bind fun bt198 => ((gauge_Above.f ab ac aa ad ae af ag l1 (fdiv 4607182418800017408 (fmul (floatOfInt .f64 (l1.length : Int)) 0))).bind fun bt200 => ((gauge_Above.f ab ac aa ad ae af ag l1 (fneg (fdiv 4607182418800017408 (fmul (floatOfInt .f64 (l1.length : Int)) 0)))).bind fun bt202 => ((gauge_Above.f ab ac aa ad ae af ag l1 9223372036854775809).bind fun bt204 => ((gauge_Above.f ab ac aa ad ae af ag l1 4607182418800017408).bind fun bt206 => (if an = 0 then (if ao = 0 then (if ap = ai then (if aq = 0 then (if bt196.1 = (mn ai 1) then (if bt196.2 = 0 then (if bt198.2 = 1 then (if bt200.2 = 1 then (if bt202.2 = 1 then (if bt204.2 = 1 then (if bt206.2 = 0 then (some (bt206.1 == ((l1.length : Int) == ai))) else (some false)) else (some false)) else (some false)) else (some false)) else (some false)) else (some false)) else (some false)) else (some false)) else (some false)) else (some false)) else (some false)))))))) = some r := H
       have A20 := Aside0.mk A200; clear A200; replace H := bi_ H; obtain ⟨⟨ar, au⟩, A210, H⟩ := H
       replace H : ((gauge_Least.f kj2 ab ac aa ad ae af ag fnan0_).bind fun bt198 => ((gauge_Above.f ab ac aa ad ae af ag l1 (fdiv 4607182418800017408 (fmul (floatOfInt .f64 (l1.length : Int)) 0))).bind fun bt200 => ((gauge_Above.f ab ac aa ad ae af ag l1 (fneg (fdiv 4607182418800017408 (fmul (floatOfInt .f64 (l1.length : Int)) 0)))).bind fun bt202 => ((gauge_Above.f ab ac aa ad ae af ag l1 9223372036854775809).bind fun bt204 => ((gauge_Above.f ab ac aa ad ae af ag l1 4607182418800017408).bind fun bt206 => (if an = 0 then (if ao = 0 then (if ap = ai then (if aq = 0 then (if ar = (mn ai 1) then (if au = 0 then (if bt198.2 = 1 then (if bt200.2 = 1 then (if bt202.2 = 1 then (if bt204.2 = 1 then (if bt206.2 = 0 then (some (bt206.1 == ((l1.length : Int) == ai))) else (some false)) else (some false)) else (some false)) else (some false)) else (some false)) else (some false)) else (some false)) else (some false)) else (some false)) else (some false)) else (some false))))))) = some r := H
       have A21 := Aside0.mk A210; clear A210; replace H := bi_ H; obtain ⟨⟨aX, av⟩, A220, H⟩ := H
       replace H : ((gauge_Above.f ab ac aa ad ae af ag l1 (fdiv 4607182418800017408 (fmul (floatOfInt .f64 (l1.length : Int)) 0))).bind fun bt200 => ((gauge_Above.f ab ac aa ad ae af ag l1 (fneg (fdiv 4607182418800017408 (fmul (floatOfInt .f64 (l1.length : Int)) 0)))).bind fun bt202 => ((gauge_Above.f ab ac aa ad ae af ag l1 9223372036854775809).bind fun bt204 => ((gauge_Above.f ab ac aa ad ae af ag l1 4607182418800017408).bind fun bt206 => (if an = 0 then (if ao = 0 then (if ap = ai then (if aq = 0 then (if ar = (mn ai 1) then (if au = 0 then (if av = 1 then (if bt200.2 = 1 then (if bt202.2 = 1 then (if bt204.2 = 1 then (if bt206.2 = 0 then (some (bt206.1 == ((l1.length : Int) == ai))) else (some false)) else (some false)) else (some false)) else (some false)) else (some false)) else (some false)) else (some false)) else (some false)) else (some false)) else (some false)) else (some false)))))) = some r := H
       have A22 := Aside0.mk A220; clear A220; replace H := bi_ H; obtain ⟨⟨aY, ax⟩, A230, H⟩ := H
       replace H : ((gauge_Above.f ab ac aa ad ae af ag l1 (fneg (fdiv 4607182418800017408 (fmul (floatOfInt .f64 (l1.length : Int)) 0)))).bind fun bt202 => ((gauge_Above.f ab ac aa ad ae af ag l1 9223372036854775809).bind fun bt204 => ((gauge_Above.f ab ac aa ad ae af ag l1 4607182418800017408).bind fun bt206 => (if an = 0 then (if ao = 0 then (if ap = ai then (if aq = 0 then (if ar = (mn ai 1) then (if au = 0 then (if av = 1 then (if ax = 1 then (if bt202.2 = 1 then (if bt204.2 = 1 then (if bt206.2 = 0 then (some (bt206.1 == ((l1.length : Int) == ai))) else (some false)) else (some false)) else (some false)) else (some false)) else (some false)) else (some false)) else (some false)) else (some false)) else (some false)) else (some false)) else (some false))))) = some r := H
       have A23 := Aside0.mk A230; clear A230; replace H := bi_ H; obtain ⟨⟨aZ, ay⟩, A240, H⟩ := H
       replace H : ((gauge_Above.f ab ac aa ad ae af ag l1 9223372036854775809).bind fun bt204 => ((gauge_Above.f ab ac aa ad ae af ag l1 4607182418800017408).bind fun bt206 => (if an = 0 then (if ao = 0 then (if ap = ai then (if aq = 0 then (if ar = (mn ai 1) then (if au = 0 then (if av = 1 then (if ax = 1 then (if ay = 1 then (if bt204.2 = 1 then (if bt206.2 = 0 then (some (bt206.1 == ((l1.length : Int) == ai))) else (some false)) else (some false)) else (some false)) else (some false)) else (some false)) else (some false)) else (some false)) else (some false)) else (some false)) else (some false)) else (some false)))) = some r := H
       have A24 := Aside0.mk A240; clear A240; replace H := bi_ H; obtain ⟨⟨a0, az⟩, A250, H⟩ := H
       replace H : ((gauge_Above.f ab ac aa ad ae af ag l1 4607182418800017408).bind fun bt206 => (if an = 0 then (if ao = 0 then (if ap = ai then (if aq = 0 then (if ar = (mn ai 1) then (if au = 0 then (if av = 1 then (if ax = 1 then (if ay = 1 then (if az = 1 then (if bt206.2 = 0 then (some (bt206.1 == ((l1.length : Int) == ai))) else (some false)) else (some false)) else (some false)) else (some false)) else (some false)) else (some false)) else (some false)) else (some false)) else (some false)) else (some false)) else (some false))) = some r := H
       have A25 := Aside0.mk A250; clear A250; replace H := bi_ H; obtain ⟨⟨aG, aA⟩, A260, H⟩ := H
       replace H : (if an = 0 then (if ao = 0 then (if ap = ai then (if aq = 0 then (if ar = (mn ai 1) then (if au = 0 then (if av = 1 then (if ax = 1 then (if ay = 1 then (if az = 1 then (if aA = 0 then (some (aG == ((l1.length : Int) == ai))) else (some false)) else (some false)) else (some false)) else (some false)) else (some false)) else (some false)) else (some false)) else (some false)) else (some false)) else (some false)) else (some false)) = some r := H
       have A26 := Aside0.mk A260; clear A260
       by_cases c27 : an = 0
       ·rw [if_pos c27] at H
        have dg : (an == 0) = true := beq_iff_eq.mpr c27
        have dh : (an != 0) = false := bne_eq_false_iff_eq.mpr c27
        clear c27
        by_cases c28 : ao = 0
        ·rw [if_pos c28] at H
         have di : (ao == 0) = true := beq_iff_eq.mpr c28
         have dj : (ao != 0) = false := bne_eq_false_iff_eq.mpr c28
         clear c28
         by_cases c29 : ap = ai
         ·rw [if_pos c29] at H
          have dk : (ap == ai) = true := beq_iff_eq.mpr c29
          have dl : (ap != ai) = false := bne_eq_false_iff_eq.mpr c29
          clear c29
          by_cases c30 : aq = 0
          ·rw [if_pos c30] at H
           have dm : (aq == 0) = true := beq_iff_eq.mpr c30
           have dn : (aq != 0) = false := bne_eq_false_iff_eq.mpr c30
           clear c30; obtain ⟨ji31, hji31⟩ : ∃ j_ : Int, (mn ai 1) = j_ := ⟨_, rfl⟩
           replace H : (if ar = (ji31) then (if au = 0 then (if av = 1 then (if ax = 1 then (if ay = 1 then (if az = 1 then (if aA = 0 then (some (aG == ((l1.length : Int) == ai))) else (some false)) else (some false)) else (some false)) else (some false)) else (some false)) else (some false)) else (some false)) = some r := by first | (rw [hji31] at H; exact H) | (simp only [hji31] at H ⊢; exact H)
           (try rw [hji31] at A16)
           (try rw [hji31] at A19)
           (try rw [hji31] at A20)
           (try rw [hji31] at A21)
           (try rw [hji31] at A22)
           (try rw [hji31] at A23)
           (try rw [hji31] at A24)
           (try rw [hji31] at A25)
           (try rw [hji31] at A26)
           (try (have hji31h : ji31 ≤ 1 := by (rw [← hji31]; unfold mn; (repeat' split) <;> omega)))
           (try (have hji31g : ji31 ≤ 64 := by omega))
           have hji31_ : (if 1 < ai then 1 else ai) = ji31 := hji31
           by_cases c32 : ar = (ji31)
           ·rw [if_pos c32] at H
            have dp : (ar == (ji31)) = true := beq_iff_eq.mpr c32
            have dq : (ar != (ji31)) = false := bne_eq_false_iff_eq.mpr c32
            clear c32
            by_cases c33 : au = 0
            ·rw [if_pos c33] at H
             have dr : (au == 0) = true := beq_iff_eq.mpr c33
             have dt : (au != 0) = false := bne_eq_false_iff_eq.mpr c33
             clear c33
             by_cases c34 : av = 1
             ·rw [if_pos c34] at H
              have du : (av == 1) = true := beq_iff_eq.mpr c34
              have dv : (av != 1) = false := bne_eq_false_iff_eq.mpr c34
              clear c34
              by_cases c35 : ax = 1
              ·rw [if_pos c35] at H
               have dw : (ax == 1) = true := beq_iff_eq.mpr c35
               have dx : (ax != 1) = false := bne_eq_false_iff_eq.mpr c35
               clear c35
               by_cases c36 : ay = 1
               ·rw [if_pos c36] at H
                have dy : (ay == 1) = true := beq_iff_eq.mpr c36
                have dz : (ay != 1) = false := bne_eq_false_iff_eq.mpr c36
                clear c36
                by_cases c37 : az = 1
                ·rw [if_pos c37] at H
                 have dA : (az == 1) = true := beq_iff_eq.mpr c37
                 have dB : (az != 1) = false := bne_eq_false_iff_eq.mpr c37
                 clear c37
                 by_cases c38 : aA = 0
                 ·rw [if_pos c38] at H
                  have dC : (aA == 0) = true := beq_iff_eq.mpr c38
                  have dD : (aA != 0) = false := bne_eq_false_iff_eq.mpr c38
                  clear c38
                  first | (exfalso; rw [hr_.out] at H; exact absurd (Option.some.inj H) (by decide)) | (try clear hr_)
                  all_goals
                   obtain rfl := Option.some.inj H
                   obtain ⟨a1, a2, a3, a4, a5, a6, a7, b3, b4, b5, b6, b7, b8, b9⟩ := cz7_ (w := wc) ah
                   go_wp2_with (first | ((with_reducible refine gate_callee (f := 18) rfl ?_); refine goesL_ (some 39) rfl rfl Try.func18 (by kernel_rfl) rfl #[.agg #[.int .u32 ab, .int .i64 ac, .slice aj aa.length ak, .int .i64 ad, .int .i64 ae, .int .i64 af, .int .i64 ag]] rfl am_ ?_; (with_reducible refine (lodgerref26_Usable.calls kj2 ab ac _ _ aa ad ae af ag ai _ ?side1 ?side2 A16.out).mono ?_); (case side1 => exact cC_ am HB); (case side2 => exact al.out); rintro e w40 ⟨rfl, hb⟩; refine ⟨_, rfl, ?_⟩; replace HB := hS_ HB hb; replace ah := bB_ ah hb; (try clear hb); obtain ⟨a8, a9, ba, bb, bc, bd, be, ca, cb, cc, cd, ce, cf, cg⟩ := cz7_ (w := w40) ah) | ((with_reducible refine gate_callee (f := 10) rfl ?_); refine goesL_ (some 49) rfl rfl Try.func10 (by kernel_rfl) rfl #[.agg #[.int .u32 ab, .int .i64 ac, .slice aj aa.length ak, .int .i64 ad, .int .i64 ae, .int .i64 af, .int .i64 ag], .float .f64 (fneg (fmul (floatOfInt .f64 (l1.length : Int)) 0))] rfl am_ ?_; (with_reducible refine (gauge_Least.calls kj2 ab ac _ _ aa ad ae af ag (fneg (fmul (floatOfInt .f64 (l1.length : Int)) 0)) an ao _ ?side1 ?side2 A19.out).mono ?_); (case side1 => exact cC_ am HB); (case side2 => exact al.out); rintro e w42 ⟨rfl, hb⟩; refine ⟨_, rfl, ?_⟩; replace HB := hS_ HB hb; replace ah := bB_ ah hb; (try clear hb); obtain ⟨bf, bg, bh, bi, bj, bk, bl, ch, ci, cj, ck, cl, cm, cn⟩ := cz7_ (w := w42) ah) | ((with_reducible refine gate_callee (f := 10) rfl ?_); refine goesL_ (some 54) rfl rfl Try.func10 (by kernel_rfl) rfl #[.agg #[.int .u32 ab, .int .i64 ac, .slice aj aa.length ak, .int .i64 ad, .int .i64 ae, .int .i64 af, .int .i64 ag], .float .f64 4607182418800017408] rfl am_ ?_; (with_reducible refine (gauge_Least.calls kj2 ab ac _ _ aa ad ae af ag 4607182418800017408 ap aq _ ?side1 ?side2 A20.out).mono ?_); (case side1 => exact cC_ am HB); (case side2 => exact al.out); rintro e w44 ⟨rfl, hb⟩; refine ⟨_, rfl, ?_⟩; replace HB := hS_ HB hb; replace ah := bB_ ah hb; (try clear hb); obtain ⟨bm, bn, bo, bp, bq, br, bs, co, cp, cq, cr, ct, cu, cv⟩ := cz7_ (w := w44) ah) | ((with_reducible refine gate_callee (f := 10) rfl ?_); refine goesL_ (some 59) rfl rfl Try.func10 (by kernel_rfl) rfl #[.agg #[.int .u32 ab, .int .i64 ac, .slice aj aa.length ak, .int .i64 ad, .int .i64 ae, .int .i64 af, .int .i64 ag], .float .f64 1] rfl am_ ?_; (with_reducible refine (gauge_Least.calls kj2 ab ac _ _ aa ad ae af ag 1 ar au _ ?side1 ?side2 A21.out).mono ?_); (case side1 => exact cC_ am HB); (case side2 => exact al.out); rintro e w46 ⟨rfl, hb⟩; refine ⟨_, rfl, ?_⟩; replace HB := hS_ HB hb; replace ah := bB_ ah hb; (try clear hb); obtain ⟨bt, bu, bv, bw, bx, bz, bA, cw, cx, cy, cz, cA, cB, cC⟩ := cz7_ (w := w46) ah) | ((with_reducible refine gate_callee (f := 10) rfl ?_); refine goesL_ (some 65) rfl rfl Try.func10 (by kernel_rfl) rfl #[.agg #[.int .u32 ab, .int .i64 ac, .slice aj aa.length ak, .int .i64 ad, .int .i64 ae, .int .i64 af, .int .i64 ag], .float .f64 (nanof _ _ _)] rfl am_ ?_; (with_reducible refine (gauge_Least.calls kj2 ab ac _ _ aa ad ae af ag _ aX av _ ?side1 ?side2 (nanL_ (nan_nanof _ _ _) A22.out)).mono ?_); (case side1 => exact cC_ am HB); (case side2 => exact al.out); rintro e w48 ⟨rfl, hb⟩; refine ⟨_, rfl, ?_⟩; replace HB := hS_ HB hb; replace ah := bB_ ah hb; (try clear hb); obtain ⟨bB, bC, bD, bE, bF, bG, bH, cD, cE, cF, cG, cH, cI, cJ⟩ := cz7_ (w := w48) ah) | ((with_reducible refine gate_callee (f := 9) rfl ?_); refine goesL_ (some 72) rfl rfl Try.func9 (by kernel_rfl) rfl #[.agg #[.int .u32 ab, .int .i64 ac, .slice aj aa.length ak, .int .i64 ad, .int .i64 ae, .int .i64 af, .int .i64 ag], .slice A1 l1.length c1, .float .f64 (fdiv 4607182418800017408 (fmul (floatOfInt .f64 (l1.length : Int)) 0))] rfl am_ ?_; (with_reducible refine (gauge_Above.calls ab ac _ _ aa ad ae af ag _ _ l1 (fdiv 4607182418800017408 (fmul (floatOfInt .f64 (l1.length : Int)) 0)) aY ax _ ?side1 ?side2 ?side3 ?side4 A23.out).mono ?_); (case side1 => exact cC_ am HB); (case side2 => exact al.out); (case side3 => exact cC_ aF HB); (case side4 => exact aE.out); rintro e w50 ⟨rfl, hb⟩; refine ⟨_, rfl, ?_⟩; replace HB := hS_ HB hb; replace ah := bB_ ah hb; (try clear hb); obtain ⟨bI, bJ, bK, bL, bM, bN, bO, cK, cL, cM, cN, cO, cP, cQ⟩ := cz7_ (w := w50) ah) | ((with_reducible refine gate_callee (f := 9) rfl ?_); refine goesL_ (some 80) rfl rfl Try.func9 (by kernel_rfl) rfl #[.agg #[.int .u32 ab, .int .i64 ac, .slice aj aa.length ak, .int .i64 ad, .int .i64 ae, .int .i64 af, .int .i64 ag], .slice A1 l1.length c1, .float .f64 (fneg (fdiv 4607182418800017408 (fmul (floatOfInt .f64 (l1.length : Int)) 0)))] rfl am_ ?_; (with_reducible refine (gauge_Above.calls ab ac _ _ aa ad ae af ag _ _ l1 (fneg (fdiv 4607182418800017408 (fmul (floatOfInt .f64 (l1.length : Int)) 0))) aZ ay _ ?side1 ?side2 ?side3 ?side4 A24.out).mono ?_); (case side1 => exact cC_ am HB); (case side2 => exact al.out); (case side3 => exact cC_ aF HB); (case side4 => exact aE.out); rintro e w52 ⟨rfl, hb⟩; refine ⟨_, rfl, ?_⟩; replace HB := hS_ HB hb; replace ah := bB_ ah hb; (try clear hb); obtain ⟨bP, bQ, bR, bS, bT, bU, bV, cR, cS, cT, cU, cV, cW, cX⟩ := cz7_ (w := w52) ah) | ((with_reducible refine gate_callee (f := 9) rfl ?_); refine goesL_ (some 86) rfl rfl Try.func9 (by kernel_rfl) rfl #[.agg #[.int .u32 ab, .int .i64 ac, .slice aj aa.length ak, .int .i64 ad, .int .i64 ae, .int .i64 af, .int .i64 ag], .slice A1 l1.length c1, .float .f64 9223372036854775809] rfl am_ ?_; (with_reducible refine (gauge_Above.calls ab ac _ _ aa ad ae af ag _ _ l1 9223372036854775809 a0 az _ ?side1 ?side2 ?side3 ?side4 A25.out).mono ?_); (case side1 => exact cC_ am HB); (case side2 => exact al.out); (case side3 => exact cC_ aF HB); (case side4 => exact aE.out); rintro e w54 ⟨rfl, hb⟩; refine ⟨_, rfl, ?_⟩; replace HB := hS_ HB hb; replace ah := bB_ ah hb; (try clear hb); obtain ⟨bW, bX, bY, bZ, b0, b1, b2, cY, cZ, c0, c2, c3, c4, c5⟩ := cz7_ (w := w54) ah) | ((with_reducible refine gate_callee (f := 9) rfl ?_); refine goesL_ (some 92) rfl rfl Try.func9 (by kernel_rfl) rfl #[.agg #[.int .u32 ab, .int .i64 ac, .slice aj aa.length ak, .int .i64 ad, .int .i64 ae, .int .i64 af, .int .i64 ag], .slice A1 l1.length c1, .float .f64 4607182418800017408] rfl am_ ?_; (with_reducible refine (gauge_Above.calls ab ac _ _ aa ad ae af ag _ _ l1 4607182418800017408 aG aA _ ?side1 ?side2 ?side3 ?side4 A26.out).mono ?_); (case side1 => exact cC_ am HB); (case side2 => exact al.out); (case side3 => exact cC_ aF HB); (case side4 => exact aE.out); rintro e w56 ⟨rfl, hb⟩; refine ⟨_, rfl, ?_⟩; replace HB := hS_ HB hb; (try clear hb)))
                   go_ret
                   exact ⟨by first | rfl | (simp [errW_none, errW_some] <;> rfl) | (simp only [← hji31]; first | rfl | (simp [errW_none, errW_some] <;> rfl)) | (simp [*, errW_none, errW_some] <;> rfl), hB_ HB⟩
                 ·rw [if_neg c38] at H
                  rw [hr_.out] at H
                  exact absurd (Option.some.inj H) (by decide)
                ·rw [if_neg c37] at H
                 rw [hr_.out] at H
                 exact absurd (Option.some.inj H) (by decide)
               ·rw [if_neg c36] at H
                rw [hr_.out] at H
                exact absurd (Option.some.inj H) (by decide)
              ·rw [if_neg c35] at H
               rw [hr_.out] at H
               exact absurd (Option.some.inj H) (by decide)
             ·rw [if_neg c34] at H
              rw [hr_.out] at H
              exact absurd (Option.some.inj H) (by decide)
            ·rw [if_neg c33] at H
             rw [hr_.out] at H
             exact absurd (Option.some.inj H) (by decide)
           ·rw [if_neg c32] at H
            rw [hr_.out] at H
            exact absurd (Option.some.inj H) (by decide)
          ·rw [if_neg c30] at H
           rw [hr_.out] at H
           exact absurd (Option.some.inj H) (by decide)
         ·rw [if_neg c29] at H
          rw [hr_.out] at H
          exact absurd (Option.some.inj H) (by decide)
        ·rw [if_neg c28] at H
         rw [hr_.out] at H
         exact absurd (Option.some.inj H) (by decide)
       ·rw [if_neg c27] at H
        rw [hr_.out] at H
        exact absurd (Option.some.inj H) (by decide)
      ·rw [if_neg c18] at H
       exact absurd H (by simp)
     ·rw [if_neg c17] at H
      exact absurd H (by simp)
    ·rw [if_neg c15] at H
     exact absurd H (by simp)

/-- THE ONE PURE STATEMENT of lodgerlaw26_GaugeEdges: yours. -/
def lodgerlaw26_GaugeEdges.Pure : Prop := ∀ (a0_0 a0_1 : Int) (l0_2 : List Int) (a0_3 a0_4 : Int) (a0_5 a0_6 : Int) (l1 : List Int), (Lit.int .u32 a0_0).wf = true → (Lit.int .i64 a0_1).wf = true → l0_2.length ≤ maxLen → (∀ x ∈ l0_2, (Lit.int .i64 x).wf = true) → (Lit.int .i64 a0_3).wf = true → (Lit.int .i64 a0_4).wf = true → (Lit.int .i64 a0_5).wf = true → (Lit.int .i64 a0_6).wf = true → l1.length ≤ maxLen → l1.length * 8 ≤ 140737488351232 → (∀ x ∈ l1, (Lit.int .i64 x).wf = true) → ∃ k, lodgerlaw26_GaugeEdges.f k a0_0 a0_1 l0_2 a0_3 a0_4 a0_5 a0_6 l1 = some true
theorem lodgerlaw26_GaugeEdges.walk (P : lodgerlaw26_GaugeEdges.Pure) (a0_0 a0_1 : Int) (a0_2 : Option Addr) (len0_2 cap0_2 : Nat) (z0_2 : List Int) (a0_3 a0_4 : Int) (a0_5 a0_6 : Int) (a1 : Option Addr) (len1 cap1 : Nat) (z1 : List Int) (w : World) (w0_0 : (Lit.int .u32 a0_0).wf = true) (w0_1 : (Lit.int .i64 a0_1).wf = true) (w0_2 : (a0_2 = none ∧ len0_2 = 0 ∧ cap0_2 = 0 ∧ z0_2 = []) ∨ ∃ x, a0_2 = some x ∧ len0_2 ≤ cap0_2 ∧ cap0_2 ≤ maxLen ∧ z0_2.length = cap0_2 ∧ (∀ i, i < z0_2.length → w.cell? (x.add i) = some (.int .i64 (z0_2.getD i 0))) ∧ ∀ n ∈ z0_2, (Lit.int .i64 n).wf = true) (w0_3 : (Lit.int .i64 a0_3).wf = true) (w0_4 : (Lit.int .i64 a0_4).wf = true) (w0_5 : (Lit.int .i64 a0_5).wf = true) (w0_6 : (Lit.int .i64 a0_6).wf = true) (w1 : (a1 = none ∧ len1 = 0 ∧ cap1 = 0 ∧ z1 = []) ∨ ∃ x, a1 = some x ∧ len1 ≤ cap1 ∧ cap1 ≤ maxLen ∧ z1.length = cap1 ∧ (∀ i, i < z1.length → w.cell? (x.add i) = some (.int .i64 (z1.getD i 0))) ∧ ∀ n ∈ z1, (Lit.int .i64 n).wf = true) (y1 : len1 * 8 ≤ 140737488351232) :
  Calls Try.prog 6 #[.agg #[.int .u32 a0_0, .int .i64 a0_1, .slice a0_2 len0_2 cap0_2, .int .i64 a0_3, .int .i64 a0_4, .int .i64 a0_5, .int .i64 a0_6], .slice a1 len1 cap1] w fun e w' => e = .returned (.bool true) ∧ Below w.heap.size w w' := by
 obtain ⟨l0_2, rfl, hr0_2, hm0_2, hw0_2, hc0_2⟩ := ReadsInt.ofRowC w0_2
 obtain ⟨l1, rfl, hr1, hm1, hw1, hc1⟩ := ReadsInt.ofRowC w1
 obtain ⟨k, h⟩ := P a0_0 a0_1 l0_2 a0_3 a0_4 a0_5 a0_6 l1 w0_0 w0_1 hm0_2 hw0_2 w0_3 w0_4 w0_5 w0_6 hm1 y1 hw1
 refine (lodgerlaw26_GaugeEdges.calls k a0_0 a0_1 _ _ l0_2 a0_3 a0_4 a0_5 a0_6 _ _ l1 true w (Kd.C_of_reads (d := (0 : Int)) (h1 := fun _ => rfl) hr0_2) hc0_2 (Kd.C_of_reads (d := (0 : Int)) (h1 := fun _ => rfl) hr1) hc1 rfl h).mono ?_
 rintro e w' ⟨rfl, hd⟩
 exact ⟨rfl, hd⟩

end Go.Proofs.Ytepgjabpoabjnaa.PGaugeEdges
