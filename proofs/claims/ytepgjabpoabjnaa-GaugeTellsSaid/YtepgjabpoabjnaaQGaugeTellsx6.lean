/- The walk of GaugeTells, part of it: what the Go functions answer; no condition. -/
import Derived.Test.YtepgjabpoabjnaaQGaugeTellsx0
import Derived.Test.YtepgjabpoabjnaaQGaugeTellsx2
import Derived.Test.YtepgjabpoabjnaaQGaugeTellsx3
import Derived.Test.YtepgjabpoabjnaaQGaugeTellsx5
namespace Go.Proofs.Ytepgjabpoabjnaa.PGaugeTells
open Go.RowKit Go.Proofs.YtepgjabpoabjnaaW.PrintWords Go.Proofs.YtepgjabpoabjnaaW.PrintLast Go.Proofs.YtepgjabpoabjnaaW.PrintMore
attribute [local go_sem] max2_int min2_int max_two min_two max_three min_three max_four min_four   -- for this text's walks alone
set_option linter.unusedVariables false
set_option linter.unusedSimpArgs false

/-! ### lodgerref11_Fits: function 8 -/
def lodgerref11_Fits.f (k : Nat) (a0_0 a0_1 : Int) (l0_2 : List Int) (a0_3 a0_4 : Int) (a0_5 a0_6 : Int) (l1 : List Int) : Option (Bool) := (lodgerref05_May.f k a0_0 a0_1 l0_2 a0_3 a0_4 a0_5 a0_6).bind fun t182 => (if t182 = true then ((lodgerref05_Many.f k a0_0 a0_1).bind fun t183 => (if t183 ≤ 256 then (if (l1.length : Int) ≤ 300 then ((lodgerref09_May.f k a0_0 a0_1 l0_2 a0_3 a0_4 a0_5 a0_6 l1).bind fun t184 => (some t184)) else (some false)) else (some false))) else (some false))
theorem lodgerref11_Fits.mono : ∀ a0 a1 a2 a3 a4 a5 a6 a7 k, LeO (lodgerref11_Fits.f k a0 a1 a2 a3 a4 a5 a6 a7) (lodgerref11_Fits.f (k + 1) a0 a1 a2 a3 a4 a5 a6 a7) := by
 intro a0 a1 a2 a3 a4 a5 a6 a7 k
 unfold lodgerref11_Fits.f
 repeat' (with_reducible first | apply lodgerref05_Many.mono | apply lodgerref05_May.mono | apply lodgerref09_May.mono | exact LeO.refl _ | exact LeO.none _ | refine LeO.ite ?_ ?_ | refine LeO.bind ?_ (fun _ => ?_))
set_option maxHeartbeats 8000000 in
set_option maxRecDepth 100000 in
theorem lodgerref11_Fits.calls (k : Nat) (ab ac : Int) (aj : Option Addr) (ak : Nat) (ad : List Int) (ae af : Int) (ag ah : Int) (A1 : Option Addr) (c1 : Nat) (l1 : List Int) (r : Bool) (w : World) (hr0_2 : Kd.C (Kd.int .i64) w aj ad.length ad) (hc0_2 : ad.length ≤ ak) (hr1 : Kd.C (Kd.int .i64) w A1 l1.length l1) (hc1 : l1.length ≤ c1) (h : lodgerref11_Fits.f k ab ac ad ae af ag ah l1 = some r) :
  Calls Try.prog 8 #[.agg #[.int .u32 ab, .int .i64 ac, .slice aj ad.length ak, .int .i64 ae, .int .i64 af, .int .i64 ag, .int .i64 ah], .slice A1 l1.length c1] w fun e w' => e = .returned (.bool r) ∧ Below w.heap.size w w' := by
 have hu27 := Try.underlying27
 have hu24 := Try.underlying24
 have an := Aside0.mk hr0_2
 have am := Aside0.mk hc0_2
 clear hr0_2 hc0_2
 have cn := Aside0.mk hr1
 have cm := Aside0.mk hc1
 clear hr1 hc1
 have HB := Aside0.mk (Below.refl w.heap.size w)
 have H : ((lodgerref05_May.f k ab ac ad ae af ag ah).bind fun ar => (if ar = true then ((lodgerref05_Many.f k ab ac).bind fun ai => (if ai ≤ 256 then (if (l1.length : Int) ≤ 300 then ((lodgerref09_May.f k ab ac ad ae af ag ah l1).bind fun al => (some al)) else (some false)) else (some false))) else (some false))) = some r := h
 clear h
 replace H := bi_ H
 obtain ⟨ar, A30, H⟩ := H
 replace H : (if ar = true then ((lodgerref05_Many.f k ab ac).bind fun ai => (if ai ≤ 256 then (if (l1.length : Int) ≤ 300 then ((lodgerref09_May.f k ab ac ad ae af ag ah l1).bind fun al => (some al)) else (some false)) else (some false))) else (some false)) = some r := H
 have A3 := Aside0.mk A30
 clear A30
 by_cases c4 : ar = true
 ·subst c4
  have H1 : ((lodgerref05_Many.f k ab ac).bind fun ai => (if ai ≤ 256 then (if (l1.length : Int) ≤ 300 then ((lodgerref09_May.f k ab ac ad ae af ag ah l1).bind fun al => (some al)) else (some false)) else (some false))) = some r := pf_ rfl H
  clear H; have H := H1; clear H1; replace H := bi_ H; obtain ⟨ai, A50, H⟩ := H
  replace H : (if ai ≤ 256 then (if (l1.length : Int) ≤ 300 then ((lodgerref09_May.f k ab ac ad ae af ag ah l1).bind fun al => (some al)) else (some false)) else (some false)) = some r := H
  have A5 := Aside0.mk A50; clear A50
  by_cases c6 : ai ≤ 256
  ·rw [if_pos c6] at H
   have au : decide (ai ≤ 256) = true := decide_eq_true c6
   clear c6
   by_cases c7 : (l1.length : Int) ≤ 300
   ·rw [if_pos c7] at H
    have av : decide ((l1.length : Int) ≤ 300) = true := decide_eq_true c7
    have aw : decide (l1.length ≤ 300) = true := decide_eq_true (by omega)
    clear c7; replace H := bi_ H; obtain ⟨al, A80, H⟩ := H
    replace H : (some al) = some r := H
    have A8 := Aside0.mk A80; clear A80
    obtain rfl := Option.some.inj H
    go_enter Try.func8, Try.ntmps8
    go_wp2_with (first | ((with_reducible refine gd_ 2 ?_); (try (refine gate_guard (by rfl) ?_; dsimp only)); refine bx_ (N := 2) (cs := #[.int .u32 ab, .int .i64 ac, .slice aj ad.length ak, .int .i64 ae, .int .i64 af, .int .i64 ag, .int .i64 ah]) (t := 27) ?_; intro aq hg w9 aa hb; have ap := gG_ hg HB; have ao := gG_ hg HB; replace HB := hS_ HB hb; clear hb hg; obtain ⟨ax, ay, az, aA, aB, aC, aD, br, bs, bt, bu, bv, bw, bx⟩ := cz7_ (w := w9) aa) | ((with_reducible refine gate_callee (f := 19) rfl ?_); refine goesL_ (some 6) rfl rfl Try.func19 (by kernel_rfl) rfl #[.agg #[.int .u32 ab, .int .i64 ac, .slice aj ad.length ak, .int .i64 ae, .int .i64 af, .int .i64 ag, .int .i64 ah]] rfl am_ ?_; (with_reducible refine (lodgerref05_May.calls k ab ac _ _ ad ae af ag ah true _ ?side1 ?side2 A3.out).mono ?_); (case side1 => exact cC_ an HB); (case side2 => exact am.out); rintro e w11 ⟨rfl, hb⟩; refine ⟨_, rfl, ?_⟩; replace HB := hS_ HB hb; replace aa := bB_ aa hb; (try clear hb); obtain ⟨aE, aF, aG, aH, aI, aJ, aK, bz, bA, bB, bC, bD, bE, bF⟩ := cz7_ (w := w11) aa) | (go_at_call 20; (with_reducible refine (lodgerref05_Many.calls k ab ac ai _ A5.out).mono ?_); rintro e w13 ⟨rfl, hb⟩; replace HB := hS_ HB hb; replace aa := bB_ aa hb; (try clear hb); obtain ⟨aL, aM, aN, aO, aP, aQ, aR, bG, bH, bI, bJ, bK, bL, bM⟩ := cz7_ (w := w13) aa) | (go_at_call 21; (with_reducible refine (lodgerref09_May.calls k ab ac _ _ ad ae af ag ah _ _ l1 al _ (cC_ an HB) am.out (cC_ cn HB) cm.out A8.out).mono ?_); rintro e w15 ⟨rfl, hb⟩; replace HB := hS_ HB hb; replace aa := bB_ aa hb; (try clear hb)))
    go_ret
    exact ⟨er_, hB_ HB⟩
   ·rw [if_neg c7] at H
    have av : decide ((l1.length : Int) ≤ 300) = false := decide_eq_false c7
    have aw : decide (l1.length ≤ 300) = false := decide_eq_false (by omega)
    clear c7
    obtain rfl := Option.some.inj H
    go_enter Try.func8, Try.ntmps8
    go_wp2_with (first | ((with_reducible refine gd_ 2 ?_); (try (refine gate_guard (by rfl) ?_; dsimp only)); refine bx_ (N := 2) (cs := #[.int .u32 ab, .int .i64 ac, .slice aj ad.length ak, .int .i64 ae, .int .i64 af, .int .i64 ag, .int .i64 ah]) (t := 27) ?_; intro aq hg w16 aa hb; have ap := gG_ hg HB; have ao := gG_ hg HB; replace HB := hS_ HB hb; clear hb hg; obtain ⟨aS, aT, aU, aV, aW, aX, aY, bN, bO, bP, bQ, bR, bS, bT⟩ := cz7_ (w := w16) aa) | ((with_reducible refine gate_callee (f := 19) rfl ?_); refine goesL_ (some 6) rfl rfl Try.func19 (by kernel_rfl) rfl #[.agg #[.int .u32 ab, .int .i64 ac, .slice aj ad.length ak, .int .i64 ae, .int .i64 af, .int .i64 ag, .int .i64 ah]] rfl am_ ?_; (with_reducible refine (lodgerref05_May.calls k ab ac _ _ ad ae af ag ah true _ ?side1 ?side2 A3.out).mono ?_); (case side1 => exact cC_ an HB); (case side2 => exact am.out); rintro e w18 ⟨rfl, hb⟩; refine ⟨_, rfl, ?_⟩; replace HB := hS_ HB hb; replace aa := bB_ aa hb; (try clear hb); obtain ⟨aZ, a0, a1, a2, a3, a4, a5, bU, bV, bW, bX, bY, bZ, b0⟩ := cz7_ (w := w18) aa) | (go_at_call 20; (with_reducible refine (lodgerref05_Many.calls k ab ac ai _ A5.out).mono ?_); rintro e w20 ⟨rfl, hb⟩; replace HB := hS_ HB hb; replace aa := bB_ aa hb; (try clear hb)))
    go_ret
    exact ⟨er_, hB_ HB⟩
  ·rw [if_neg c6] at H
   have au : decide (ai ≤ 256) = false := decide_eq_false c6
   clear c6
   obtain rfl := Option.some.inj H
   go_enter Try.func8, Try.ntmps8
   go_wp2_with (first | ((with_reducible refine gd_ 2 ?_); (try (refine gate_guard (by rfl) ?_; dsimp only)); refine bx_ (N := 2) (cs := #[.int .u32 ab, .int .i64 ac, .slice aj ad.length ak, .int .i64 ae, .int .i64 af, .int .i64 ag, .int .i64 ah]) (t := 27) ?_; intro aq hg w21 aa hb; have ap := gG_ hg HB; have ao := gG_ hg HB; replace HB := hS_ HB hb; clear hb hg; obtain ⟨a6, a7, a8, a9, ba, bb, bc, b1, b2, b3, b4, b5, b6, b7⟩ := cz7_ (w := w21) aa) | ((with_reducible refine gate_callee (f := 19) rfl ?_); refine goesL_ (some 6) rfl rfl Try.func19 (by kernel_rfl) rfl #[.agg #[.int .u32 ab, .int .i64 ac, .slice aj ad.length ak, .int .i64 ae, .int .i64 af, .int .i64 ag, .int .i64 ah]] rfl am_ ?_; (with_reducible refine (lodgerref05_May.calls k ab ac _ _ ad ae af ag ah true _ ?side1 ?side2 A3.out).mono ?_); (case side1 => exact cC_ an HB); (case side2 => exact am.out); rintro e w23 ⟨rfl, hb⟩; refine ⟨_, rfl, ?_⟩; replace HB := hS_ HB hb; replace aa := bB_ aa hb; (try clear hb); obtain ⟨bd, be, bf, bg, bh, bi, bj, b8, b9, ca, cb, cc, cd, ce⟩ := cz7_ (w := w23) aa) | (go_at_call 20; (with_reducible refine (lodgerref05_Many.calls k ab ac ai _ A5.out).mono ?_); rintro e w25 ⟨rfl, hb⟩; replace HB := hS_ HB hb; replace aa := bB_ aa hb; (try clear hb)))
   go_ret
   exact ⟨er_, hB_ HB⟩
 ·replace c4 := Bool.eq_false_iff.mpr c4
  subst c4
  have H1 : (some false) = some r := nf_ H
  clear H; have H := H1; clear H1
  obtain rfl := Option.some.inj H
  go_enter Try.func8, Try.ntmps8
  go_wp2_with (first | ((with_reducible refine gd_ 2 ?_); (try (refine gate_guard (by rfl) ?_; dsimp only)); refine bx_ (N := 2) (cs := #[.int .u32 ab, .int .i64 ac, .slice aj ad.length ak, .int .i64 ae, .int .i64 af, .int .i64 ag, .int .i64 ah]) (t := 27) ?_; intro aq hg w26 aa hb; have ap := gG_ hg HB; have ao := gG_ hg HB; replace HB := hS_ HB hb; clear hb hg; obtain ⟨bk, bl, bm, bn, bo, bp, bq, cf, cg, ch, ci, cj, ck, cl⟩ := cz7_ (w := w26) aa) | ((with_reducible refine gate_callee (f := 19) rfl ?_); refine goesL_ (some 6) rfl rfl Try.func19 (by kernel_rfl) rfl #[.agg #[.int .u32 ab, .int .i64 ac, .slice aj ad.length ak, .int .i64 ae, .int .i64 af, .int .i64 ag, .int .i64 ah]] rfl am_ ?_; (with_reducible refine (lodgerref05_May.calls k ab ac _ _ ad ae af ag ah false _ ?side1 ?side2 A3.out).mono ?_); (case side1 => exact cC_ an HB); (case side2 => exact am.out); rintro e w28 ⟨rfl, hb⟩; refine ⟨_, rfl, ?_⟩; replace HB := hS_ HB hb; (try clear hb)))
  go_ret
  exact ⟨er_, hB_ HB⟩

/-! ### lodgerref26_Usable: function 18 -/
def lodgerref26_Usable.f (k : Nat) (a0_0 a0_1 : Int) (l0_2 : List Int) (a0_3 a0_4 : Int) (a0_5 a0_6 : Int) : Option (Int) := (lodgerref05_Many.f k a0_0 a0_1).bind fun t186 => (some (wrap64 (t186 - (l0_2.length : Int))))
theorem lodgerref26_Usable.mono : ∀ a0 a1 a2 a3 a4 a5 a6 k, LeO (lodgerref26_Usable.f k a0 a1 a2 a3 a4 a5 a6) (lodgerref26_Usable.f (k + 1) a0 a1 a2 a3 a4 a5 a6) := by
 intro a0 a1 a2 a3 a4 a5 a6 k
 unfold lodgerref26_Usable.f
 repeat' (with_reducible first | apply lodgerref05_Many.mono | exact LeO.refl _ | exact LeO.none _ | refine LeO.ite ?_ ?_ | refine LeO.bind ?_ (fun _ => ?_))
def lodgerref26_Usable.T1 : Bool × List (List Nat × List Nat) := (true, [([], []), ([0], [0]), ([1], [1]), ([], []), ([3], [3]), ([4], [4]), ([2, 5], [2, 5]), ([6, 2, 0, 1, 2, 3, 4, 5, 6], [6])])
def lodgerref26_Usable.B1 : List Nat := [0, 1, 3, 0, 8, 24, 63, 127]
theorem lodgerref26_Usable.tab1 : rtab .any (opsOf Try.f18 1) = lodgerref26_Usable.T1 := by kernel_rfl
theorem lodgerref26_Usable.bits1 : waitsOk lodgerref26_Usable.T1.2 lodgerref26_Usable.B1 = true := by kernel_rfl
set_option maxHeartbeats 8000000 in
set_option maxRecDepth 100000 in
theorem lodgerref26_Usable.calls (k : Nat) (ad ae : Int) (af : Option Addr) (ak : Nat) (ac : List Int) (ag ah : Int) (ai aj r : Int) (w : World) (hr0_2 : Kd.C (Kd.int .i64) w af ac.length ac) (hc0_2 : ac.length ≤ ak) (h : lodgerref26_Usable.f k ad ae ac ag ah ai aj = some r) :
  Calls Try.prog 18 #[.agg #[.int .u32 ad, .int .i64 ae, .slice af ac.length ak, .int .i64 ag, .int .i64 ah, .int .i64 ai, .int .i64 aj]] w fun e w' => e = .returned (.int .i64 r) ∧ Below w.heap.size w w' := by
 have hu27 := Try.underlying27
 have hu24 := Try.underlying24
 have ap := Aside0.mk hr0_2
 have ao := Aside0.mk hc0_2
 clear hr0_2 hc0_2
 have HB := Aside0.mk (Below.refl w.heap.size w)
 have H : ((lodgerref05_Many.f k ad ae).bind fun al => (some (wrap64 (al - (ac.length : Int))))) = some r := h
 clear h
 replace H := bi_ H
 obtain ⟨al, A20, H⟩ := H
 replace H : (some (wrap64 (al - (ac.length : Int)))) = some r := H
 have A2 := Aside0.mk A20
 clear A20
 obtain rfl := Option.some.inj H
 go_enter Try.func18, Try.ntmps18
 try go_wp2_with (first | ((with_reducible refine gd_ 1 ?_); refine bx_ (N := 1) (cs := #[.int .u32 ad, .int .i64 ae, .slice af ac.length ak, .int .i64 ag, .int .i64 ah, .int .i64 ai, .int .i64 aj]) (t := 27) ?_; intro ab hg w3 aa hb; have an := gG_ hg HB; have am := gG_ hg HB; replace HB := hS_ HB hb; clear hb hg))
 have n0_ := Aside0.mk (blk_drew aa.out)
 have n1_ := Aside0.mk (below_drew1 HB.out)
 clear aa
 clear HB
 have aa := n0_
 have HB := n1_
 clear n0_ n1_
 refine start_ (n := 8) (S := fun w' => w'.cell? ⟨ab, 0, none⟩ = some (.int .u32 ad) ∧ w'.cell? ⟨ab, 1, none⟩ = some (.int .i64 ae) ∧ w'.cell? ⟨ab, 2, none⟩ = some (.slice af ac.length ak) ∧ w'.cell? ⟨ab, 3, none⟩ = some (.int .i64 ag) ∧ w'.cell? ⟨ab, 4, none⟩ = some (.int .i64 ah) ∧ w'.cell? ⟨ab, 5, none⟩ = some (.int .i64 ai) ∧ w'.cell? ⟨ab, 6, none⟩ = some (.int .i64 aj)) (ds := []) (tf 8 0) (by kernel_rfl) rfl rfl ⟨(blk_cell aa.out 0).trans rfl, (blk_cell aa.out 1).trans rfl, (blk_cell aa.out 2).trans rfl, (blk_cell aa.out 3).trans rfl, (blk_cell aa.out 4).trans rfl, (blk_cell aa.out 5).trans rfl, (blk_cell aa.out 6).trans rfl⟩ (fun hHeld => ?_); refine with_tabW lodgerref26_Usable.tab1 lodgerref26_Usable.bits1 (fun HT_ HW_ => ?_)
 generalize w3.drew = w4 at aa HB hHeld ⊢
 refine puU_ 0 3 (tf 8 1) HT_ ?_
 refine puU_ 3 6 (tf 8 9) HT_ ?_
 refine tkU_ 1 4 (tf 8 11) rfl rfl HT_ HW_ hHeld (by rintro w' ⟨s0, s1, s2, s3, s4, s5, s6⟩; go_simp; with_reducible rfl) ?_
 refine tkU_ 4 7 (tf 8 27) rfl rfl HT_ HW_ hHeld (by rintro w' ⟨s0, s1, s2, s3, s4, s5, s6⟩; go_simp; with_reducible rfl) ?_
 refine puU_ 5 8 (tf 8 59) HT_ ?_
 refine on_ (i := 2) (N := some 5) (tf 8 63) HT_ (fun K hK => ?_)
 refine goes_ Try.func20 (by kernel_rfl) rfl #[.agg #[.int .u32 ad, .int .i64 ae]] (by rfl) rfl rfl am_ ?_
 with_reducible refine (lodgerref05_Many.calls k ad ae al _ A2.out).mono ?_
 rintro e w5 ⟨rfl, hb⟩
 refine ⟨_, rfl, ?_⟩
 have n0_ := bB_ aa hb
 have n1_ := Aside0.mk (below_step (hB_ HB) hb)
 clear aa
 clear HB
 have aa := n0_
 have HB := n1_
 clear n0_ n1_
 (try clear hb)
 (try clear hb2)
 (try clear hk)
 (try clear hi)
 refine hK.out _ _ (cl7_ aa) (fun hHeld => ?_)
 clear hK K
 refine norm_ (a' := ?_) ?_ ?_
 rotate_left
 ·show Act.put _ (some 5) _ = _
  simp only [Act.put, List.setIfInBounds_toArray, List.set_cons_zero, List.set_cons_succ, i64_w, i32_w]
  rfl
 refine puU_ 6 9 (tf 8 127) HT_ ?_
 refine puU_ 7 2 (tf 8 255) HT_ ?_
 refine done_ (done_of HT_.out (by kernel_rfl)) ?_
 try go_wp2
 go_ret
 exact ⟨er_, hB_ HB⟩

/-! ### lodgerref26_Part: function 12 -/
def lodgerref26_Part.f (k : Nat) (a0_0 a0_1 : Int) (l0_2 : List Int) (a0_3 a0_4 : Int) (a0_5 a0_6 a1 : Int) : Option (Nat) := (lodgerref26_Usable.f k a0_0 a0_1 l0_2 a0_3 a0_4 a0_5 a0_6).bind fun t188 => (if t188 = 0 then (some 4607182418800017408) else (if fdivok (floatOfInt .f64 a1) (floatOfInt .f64 t188) = true then (some (fdiv (floatOfInt .f64 a1) (floatOfInt .f64 t188))) else (none)))
theorem lodgerref26_Part.mono : ∀ a0 a1 a2 a3 a4 a5 a6 a7 k, LeO (lodgerref26_Part.f k a0 a1 a2 a3 a4 a5 a6 a7) (lodgerref26_Part.f (k + 1) a0 a1 a2 a3 a4 a5 a6 a7) := by
 intro a0 a1 a2 a3 a4 a5 a6 a7 k
 unfold lodgerref26_Part.f
 repeat' (with_reducible first | apply lodgerref26_Usable.mono | exact LeO.refl _ | exact LeO.none _ | refine LeO.ite ?_ ?_ | refine LeO.bind ?_ (fun _ => ?_))
set_option maxHeartbeats 8000000 in
set_option maxRecDepth 100000 in
theorem lodgerref26_Part.calls (k : Nat) (ac ad : Int) (aj : Option Addr) (ak : Nat) (ab : List Int) (ae af : Int) (ag ah a1 : Int) (r : Nat) (w : World) (hr0_2 : Kd.C (Kd.int .i64) w aj ab.length ab) (hc0_2 : ab.length ≤ ak) (h : lodgerref26_Part.f k ac ad ab ae af ag ah a1 = some r) :
  Calls Try.prog 12 #[.agg #[.int .u32 ac, .int .i64 ad, .slice aj ab.length ak, .int .i64 ae, .int .i64 af, .int .i64 ag, .int .i64 ah], .int .i64 a1] w fun e w' => e = .returned (.float .f64 r) ∧ Below w.heap.size w w' := by
 have hu27 := Try.underlying27
 have am := Aside0.mk hr0_2
 have al := Aside0.mk hc0_2
 clear hr0_2 hc0_2
 have HB := Aside0.mk (Below.refl w.heap.size w)
 have H : ((lodgerref26_Usable.f k ac ad ab ae af ag ah).bind fun aa => (if aa = 0 then (some 4607182418800017408) else (if fdivok (floatOfInt .f64 a1) (floatOfInt .f64 aa) = true then (some (fdiv (floatOfInt .f64 a1) (floatOfInt .f64 aa))) else (none)))) = some r := h
 clear h
 replace H := bi_ H
 obtain ⟨aa, A30, H⟩ := H
 replace H : (if aa = 0 then (some 4607182418800017408) else (if fdivok (floatOfInt .f64 a1) (floatOfInt .f64 aa) = true then (some (fdiv (floatOfInt .f64 a1) (floatOfInt .f64 aa))) else (none))) = some r := H
 have A3 := Aside0.mk A30
 clear A30
 by_cases c4 : aa = 0
 ·rw [if_pos c4] at H
  have aq : (aa == 0) = true := beq_iff_eq.mpr c4
  have ar : (aa != 0) = false := bne_eq_false_iff_eq.mpr c4
  clear c4
  obtain rfl := Option.some.inj H
  go_enter Try.func12, Try.ntmps12
  go_wp2_with (first | ((with_reducible refine gd_ 2 ?_); refine bx_ (N := 2) (cs := #[.int .u32 ac, .int .i64 ad, .slice aj ab.length ak, .int .i64 ae, .int .i64 af, .int .i64 ag, .int .i64 ah]) (t := 27) ?_; intro ap hg w5 ai hb; have ao := gG_ hg HB; have an := gG_ hg HB; replace HB := hS_ HB hb; clear hb hg; obtain ⟨aI, aJ, aK, aL, aM, aN, aO, aP, aQ, aR, aS, aT, aU, aV⟩ := cz7_ (w := w5) ai) | ((with_reducible refine gate_callee (f := 18) rfl ?_); refine goesL_ (some 7) rfl rfl Try.func18 (by kernel_rfl) rfl #[.agg #[.int .u32 ac, .int .i64 ad, .slice aj ab.length ak, .int .i64 ae, .int .i64 af, .int .i64 ag, .int .i64 ah]] rfl am_ ?_; (with_reducible refine (lodgerref26_Usable.calls k ac ad _ _ ab ae af ag ah aa _ ?side1 ?side2 A3.out).mono ?_); (case side1 => exact cC_ am HB); (case side2 => exact al.out); rintro e w7 ⟨rfl, hb⟩; refine ⟨_, rfl, ?_⟩; replace HB := hS_ HB hb; replace ai := bB_ ai hb; (try clear hb)))
  go_ret
  exact ⟨er_, hB_ HB⟩
 ·rw [if_neg c4] at H
  have aq : (aa == 0) = false := beq_eq_false_iff_ne.mpr c4
  have ar : (aa != 0) = true := bne_iff_ne.mpr c4
  by_cases c8 : fdivok (floatOfInt .f64 a1) (floatOfInt .f64 aa) = true
  ·rw [if_pos c8] at H
   have aW := eq_true c8
   have aX : decide (fdivok (floatOfInt .f64 a1) (floatOfInt .f64 aa) = true) = true := decide_eq_true c8
   clear c8
   obtain rfl := Option.some.inj H
   go_enter Try.func12, Try.ntmps12
   go_wp2_with (first | ((with_reducible refine gd_ 2 ?_); refine bx_ (N := 2) (cs := #[.int .u32 ac, .int .i64 ad, .slice aj ab.length ak, .int .i64 ae, .int .i64 af, .int .i64 ag, .int .i64 ah]) (t := 27) ?_; intro ap hg w9 ai hb; have ao := gG_ hg HB; have an := gG_ hg HB; replace HB := hS_ HB hb; clear hb hg; obtain ⟨au, av, aw, ax, ay, az, aA, aB, aC, aD, aE, aF, aG, aH⟩ := cz7_ (w := w9) ai) | ((with_reducible refine gate_callee (f := 18) rfl ?_); refine goesL_ (some 7) rfl rfl Try.func18 (by kernel_rfl) rfl #[.agg #[.int .u32 ac, .int .i64 ad, .slice aj ab.length ak, .int .i64 ae, .int .i64 af, .int .i64 ag, .int .i64 ah]] rfl am_ ?_; (with_reducible refine (lodgerref26_Usable.calls k ac ad _ _ ab ae af ag ah aa _ ?side1 ?side2 A3.out).mono ?_); (case side1 => exact cC_ am HB); (case side2 => exact al.out); rintro e w11 ⟨rfl, hb⟩; refine ⟨_, rfl, ?_⟩; replace HB := hS_ HB hb; (try clear hb)))
   go_ret
   exact ⟨er_, hB_ HB⟩
  ·rw [if_neg c8] at H
   exact absurd H (by simp)

/-! ### lodgerref26_Bar: function 14 -/
def lodgerref26_Bar.l0 : Nat → Int → Int → ByteArray → Int → Int → Option (ByteArray)
 | 0, _, _, _, _, _ => none
 | k + 1, x1, x2, x7, x8, x9 => if x9 ≤ x2 then (if x8 = 0 then (if x7.size + 1 ≤ 9223372036854775807 then (lodgerref26_Bar.l0 k x1 x2 (x7 ++ (⟨#[35]⟩ : ByteArray)) x8 (wrap64 (x9 + 1))) else (none)) else (if (wrap64 (x9 * x8)) ≤ (wrap64 (x2 * x1)) then (if x7.size + 1 ≤ 9223372036854775807 then (lodgerref26_Bar.l0 k x1 x2 (x7 ++ (⟨#[35]⟩ : ByteArray)) x8 (wrap64 (x9 + 1))) else (none)) else (if x7.size + 1 ≤ 9223372036854775807 then (lodgerref26_Bar.l0 k x1 x2 (x7 ++ (⟨#[46]⟩ : ByteArray)) x8 (wrap64 (x9 + 1))) else (none)))) else (some x7)
def lodgerref26_Bar.f (k : Nat) (a0_0 a0_1 : Int) (l0_2 : List Int) (a0_3 a0_4 : Int) (a0_5 a0_6 : Int) (a1 a2 : Int) : Option (ByteArray) := (lodgerref26_Usable.f k a0_0 a0_1 l0_2 a0_3 a0_4 a0_5 a0_6).bind fun t190 => (lodgerref26_Bar.l0 k a1 a2 (⟨#[]⟩ : ByteArray) t190 1)
theorem lodgerref26_Bar.mono_l : ∀ k, (∀ y0 y1 y2 y3 y4, LeO (lodgerref26_Bar.l0 k y0 y1 y2 y3 y4) (lodgerref26_Bar.l0 (k + 1) y0 y1 y2 y3 y4))
 | 0 => fun _ _ _ _ _ r h => by simp [lodgerref26_Bar.l0] at h
 | k + 1 => by
  have ih0 := lodgerref26_Bar.mono_l k
  ·intro y0 y1 y2 y3 y4
   unfold lodgerref26_Bar.l0
   repeat' (with_reducible first | apply ih0 | apply lodgerref26_Usable.mono | exact LeO.refl _ | exact LeO.none _ | refine LeO.ite ?_ ?_ | refine LeO.bind ?_ (fun _ => ?_))
theorem lodgerref26_Bar.mono : ∀ a0 a1 a2 a3 a4 a5 a6 a7 a8 k, LeO (lodgerref26_Bar.f k a0 a1 a2 a3 a4 a5 a6 a7 a8) (lodgerref26_Bar.f (k + 1) a0 a1 a2 a3 a4 a5 a6 a7 a8) := by
 intro a0 a1 a2 a3 a4 a5 a6 a7 a8 k
 have ih0 := lodgerref26_Bar.mono_l k
 unfold lodgerref26_Bar.f
 repeat' (with_reducible first | apply ih0 | apply lodgerref26_Usable.mono | exact LeO.refl _ | exact LeO.none _ | refine LeO.ite ?_ ?_ | refine LeO.bind ?_ (fun _ => ?_))
set_option maxHeartbeats 8000000 in
set_option maxRecDepth 100000 in
theorem lodgerref26_Bar.calls (k : Nat) (af ag : Int) (al : Option Addr) (am : Nat) (ae : List Int) (ah ai : Int) (aj ak : Int) (a1 a2 : Int) (r : ByteArray) (w : World) (hr0_2 : Kd.C (Kd.int .i64) w al ae.length ae) (hc0_2 : ae.length ≤ am) (h : lodgerref26_Bar.f k af ag ae ah ai aj ak a1 a2 = some r) :
  Calls Try.prog 14 #[.agg #[.int .u32 af, .int .i64 ag, .slice al ae.length am, .int .i64 ah, .int .i64 ai, .int .i64 aj, .int .i64 ak], .int .i64 a1, .int .i64 a2] w fun e w' => e = .returned (.string r) ∧ Below w.heap.size w w' := by
 have hu27 := Try.underlying27
 have aE := Aside0.mk hr0_2
 have aD := Aside0.mk hc0_2
 clear hr0_2 hc0_2
 have HB := Aside0.mk (Below.refl w.heap.size w)
 have H : ((lodgerref26_Usable.f k af ag ae ah ai aj ak).bind fun ab => (lodgerref26_Bar.l0 k a1 a2 (⟨#[]⟩ : ByteArray) ab 1)) = some r := h
 clear h
 replace H := bi_ H
 obtain ⟨ab, A40, H⟩ := H
 replace H : (lodgerref26_Bar.l0 k a1 a2 (⟨#[]⟩ : ByteArray) ab 1) = some r := H
 have A4 := Aside0.mk A40
 clear A40
 have H' := Aside0.mk H
 clear H
 go_enter Try.func14, Try.ntmps14
 go_wp2_with (first | ((with_reducible refine gd_ 3 ?_); refine bx_ (N := 3) (cs := #[.int .u32 af, .int .i64 ag, .slice al ae.length am, .int .i64 ah, .int .i64 ai, .int .i64 aj, .int .i64 ak]) (t := 27) ?_; intro aG hg w5 ad hb; have aL := gG_ hg HB; have aK := gG_ hg HB; replace HB := hS_ HB hb; clear hb hg; obtain ⟨an, ao, ap, aq, ar, au, av, aw, ax, ay, az, aA, aB, aC⟩ := cz7_ (w := w5) ad) | ((with_reducible refine gate_callee (f := 18) rfl ?_); refine goesL_ (some 11) rfl rfl Try.func18 (by kernel_rfl) rfl #[.agg #[.int .u32 af, .int .i64 ag, .slice al ae.length am, .int .i64 ah, .int .i64 ai, .int .i64 aj, .int .i64 ak]] rfl am_ ?_; (with_reducible refine (lodgerref26_Usable.calls k af ag _ _ ae ah ai aj ak ab _ ?side1 ?side2 A4.out).mono ?_); (case side1 => exact cC_ aE HB); (case side2 => exact aD.out); rintro e w7 ⟨rfl, hb⟩; refine ⟨_, rfl, ?_⟩; replace HB := hS_ HB hb; replace ad := bB_ ad hb; (try clear hb)))
 go_loopg [7, 9] k (fun kq v7 v9 w' => ∃ (aa : ByteArray) (ac : Int), v7 = .string aa ∧ v9 = .int .i64 ac ∧ Aside0 (lodgerref26_Bar.l0 kq a1 a2 aa ab ac = some r) ∧ Aside0 (kq ≤ k) ∧ Aside0 (w'.heap[aG]? = some (.cells #[.int .u32 af, .int .i64 ag, (.slice al ae.length am), .int .i64 ah, .int .i64 ai, .int .i64 aj, .int .i64 ak] 27 (0, 0))) ∧ Aside0 (Below w.heap.size w w'))
 case atStart => exact ⟨((⟨#[]⟩ : ByteArray)), (1), rs_, rs_, H', ⟨Nat.le_refl _⟩, ⟨bk_ ad⟩, ⟨hB_ HB⟩⟩
 case round =>
  clear H'
  try clear c1
  try clear p2
  try clear an ao ap aq ar au av
  try clear aw ax ay az aA aB aC
  obtain ⟨aa, ac, rfl, rfl, HA, HK1, ad, HB⟩ := hrel
  cases gk with
  | zero => exact absurd HA.out (by simp [lodgerref26_Bar.l0])
  | succ k1 =>
   have H := HA.out; clear HA; simp only [lodgerref26_Bar.l0] at H
   by_cases c8 : ac ≤ a2
   ·rw [if_pos c8] at H
    have aH : decide (ac ≤ a2) = true := decide_eq_true c8
    clear c8
    by_cases c9 : ab = 0
    ·rw [if_pos c9] at H
     have aI : (ab == 0) = true := beq_iff_eq.mpr c9
     have aJ : (ab != 0) = false := bne_eq_false_iff_eq.mpr c9
     clear c9
     by_cases c10 : aa.size + 1 ≤ 9223372036854775807
     ·rw [if_pos c10] at H
      have aM := eq_true c10
      have aN : decide (aa.size + 1 ≤ 9223372036854775807) = true := decide_eq_true c10
      try have aO : (9223372036854775807 < aa.size + 1) = False := eq_false (Nat.not_lt.2 c10)
      have H' := Aside0.mk H
      clear H
      go_wp2
      go_roundg k1
      case measure => have := HK1.out; omega
      case rel => exact ⟨(aa ++ (⟨#[35]⟩ : ByteArray)), (wrap64 (ac + 1)), rs_, rs_, H', ⟨om_ HK1⟩, ⟨bk_ ad⟩, ⟨hB_ HB⟩⟩
     ·rw [if_neg c10] at H
      exact absurd H (by simp)
    ·rw [if_neg c9] at H
     have aI : (ab == 0) = false := beq_eq_false_iff_ne.mpr c9
     have aJ : (ab != 0) = true := bne_iff_ne.mpr c9
     by_cases c11 : (wrap64 (ac * ab)) ≤ (wrap64 (a2 * a1))
     ·rw [if_pos c11] at H
      have aF : decide ((wrap64 (ac * ab)) ≤ (wrap64 (a2 * a1))) = true := decide_eq_true c11
      clear c11
      by_cases c12 : aa.size + 1 ≤ 9223372036854775807
      ·rw [if_pos c12] at H
       have aP := eq_true c12
       have aQ : decide (aa.size + 1 ≤ 9223372036854775807) = true := decide_eq_true c12
       try have aR : (9223372036854775807 < aa.size + 1) = False := eq_false (Nat.not_lt.2 c12)
       have H' := Aside0.mk H
       clear H
       go_wp2
       go_roundg k1
       case measure => have := HK1.out; omega
       case rel => exact ⟨(aa ++ (⟨#[35]⟩ : ByteArray)), (wrap64 (ac + 1)), rs_, rs_, H', ⟨om_ HK1⟩, ⟨bk_ ad⟩, ⟨hB_ HB⟩⟩
      ·rw [if_neg c12] at H
       exact absurd H (by simp)
     ·rw [if_neg c11] at H
      have aF : decide ((wrap64 (ac * ab)) ≤ (wrap64 (a2 * a1))) = false := decide_eq_false c11
      clear c11
      by_cases c13 : aa.size + 1 ≤ 9223372036854775807
      ·rw [if_pos c13] at H
       have aS := eq_true c13
       have aT : decide (aa.size + 1 ≤ 9223372036854775807) = true := decide_eq_true c13
       try have aU : (9223372036854775807 < aa.size + 1) = False := eq_false (Nat.not_lt.2 c13)
       have H' := Aside0.mk H
       clear H
       go_wp2
       go_roundg k1
       case measure => have := HK1.out; omega
       case rel => exact ⟨(aa ++ (⟨#[46]⟩ : ByteArray)), (wrap64 (ac + 1)), rs_, rs_, H', ⟨om_ HK1⟩, ⟨bk_ ad⟩, ⟨hB_ HB⟩⟩
      ·rw [if_neg c13] at H
       exact absurd H (by simp)
   ·rw [if_neg c8] at H
    have aH : decide (ac ≤ a2) = false := decide_eq_false c8
    clear c8
    obtain rfl := Option.some.inj H
    go_wp2
    go_ret
    exact ⟨er_, hB_ HB⟩

/-! ### lodgerref26_Mark: function 15 -/
def lodgerref26_Mark.f (a0 : Nat) : Option (Bool) := if ((fne a0 a0) = true) then (some false) else (if ((flt a0 0) = true) then (some false) else (some (!(fgt a0 4607182418800017408))))
set_option maxHeartbeats 8000000 in
set_option maxRecDepth 100000 in
theorem lodgerref26_Mark.calls (a0 : Nat) (r : Bool) (w : World) (h : lodgerref26_Mark.f a0 = some r) :
  Calls Try.prog 15 #[.float .f64 a0] w fun e w' => e = .returned (.bool r) ∧ Drawn0 w w' := by
 have H : (if ((fne a0 a0) = true) then (some false) else (if ((flt a0 0) = true) then (some false) else (some (!(fgt a0 4607182418800017408))))) = some r := h
 clear h
 by_cases c2 : ((fne a0 a0) = true)
 ·rw [if_pos c2] at H
  have aa : (fne a0 a0) = true := c2
  clear c2
  obtain rfl := Option.some.inj H
  go_enter Try.func15, Try.ntmps15
  go_wp2
  go_ret
  exact ⟨rs_, dn_⟩
 ·rw [if_neg c2] at H
  have aa : (fne a0 a0) = false := by simpa using c2
  clear c2
  by_cases c3 : ((flt a0 0) = true)
  ·rw [if_pos c3] at H
   have ab : (flt a0 0) = true := c3
   clear c3
   obtain rfl := Option.some.inj H
   go_enter Try.func15, Try.ntmps15
   go_wp2
   go_ret
   exact ⟨rs_, dn_⟩
  ·rw [if_neg c3] at H
   have ab : (flt a0 0) = false := by simpa using c3
   clear c3
   obtain rfl := Option.some.inj H
   go_enter Try.func15, Try.ntmps15
   go_wp2
   go_ret
   exact ⟨rs_, dn_⟩

/-! ### lodgerref26_Least: function 16 -/
def lodgerref26_Least.l0 : Nat → Nat → Int → Int → Int → List Int → Int → Int → Int → Int → Option (Int)
 | 0, _, _, _, _, _, _, _, _, _ => none
 | k + 1, x1, x5, x192000, x192001, x192002, x192003, x192004, x192005, x192006 => (lodgerref26_Usable.f k x192000 x192001 x192002 x192003 x192004 x192005 x192006).bind fun t192 => (if x5 < t192 then ((lodgerref26_Part.f k x192000 x192001 x192002 x192003 x192004 x192005 x192006 x5).bind fun t193 => (if (flt t193 x1) = true then (lodgerref26_Least.l0 k x1 (wrap64 (x5 + 1)) x192000 x192001 x192002 x192003 x192004 x192005 x192006) else (some x5))) else (some x5))
def lodgerref26_Least.f (k : Nat) (a0_0 a0_1 : Int) (l0_2 : List Int) (a0_3 a0_4 : Int) (a0_5 a0_6 : Int) (a1 : Nat) : Option (Int) := lodgerref26_Least.l0 k a1 0 a0_0 a0_1 l0_2 a0_3 a0_4 a0_5 a0_6
theorem lodgerref26_Least.mono_l : ∀ k, (∀ y0 y1 y2 y3 y4 y5 y6 y7 y8, LeO (lodgerref26_Least.l0 k y0 y1 y2 y3 y4 y5 y6 y7 y8) (lodgerref26_Least.l0 (k + 1) y0 y1 y2 y3 y4 y5 y6 y7 y8))
 | 0 => fun _ _ _ _ _ _ _ _ _ r h => by simp [lodgerref26_Least.l0] at h
 | k + 1 => by
  have ih0 := lodgerref26_Least.mono_l k
  ·intro y0 y1 y2 y3 y4 y5 y6 y7 y8
   unfold lodgerref26_Least.l0
   repeat' (with_reducible first | apply ih0 | apply lodgerref26_Part.mono | apply lodgerref26_Usable.mono | exact LeO.refl _ | exact LeO.none _ | refine LeO.ite ?_ ?_ | refine LeO.bind ?_ (fun _ => ?_))
theorem lodgerref26_Least.mono : ∀ a0 a1 a2 a3 a4 a5 a6 a7 k, LeO (lodgerref26_Least.f k a0 a1 a2 a3 a4 a5 a6 a7) (lodgerref26_Least.f (k + 1) a0 a1 a2 a3 a4 a5 a6 a7) := by
 intro a0 a1 a2 a3 a4 a5 a6 a7 k
 have ih0 := lodgerref26_Least.mono_l k
 unfold lodgerref26_Least.f
 repeat' (with_reducible first | apply ih0 | apply lodgerref26_Part.mono | apply lodgerref26_Usable.mono | exact LeO.refl _ | exact LeO.none _ | refine LeO.ite ?_ ?_ | refine LeO.bind ?_ (fun _ => ?_))
set_option maxHeartbeats 8000000 in
set_option maxRecDepth 100000 in
theorem lodgerref26_Least.calls (k : Nat) (ac ad : Int) (ak : Option Addr) (al : Nat) (ab : List Int) (ae af : Int) (ag ah : Int) (a1 : Nat) (r : Int) (w : World) (hr0_2 : Kd.C (Kd.int .i64) w ak ab.length ab) (hc0_2 : ab.length ≤ al) (h : lodgerref26_Least.f k ac ad ab ae af ag ah a1 = some r) :
  Calls Try.prog 16 #[.agg #[.int .u32 ac, .int .i64 ad, .slice ak ab.length al, .int .i64 ae, .int .i64 af, .int .i64 ag, .int .i64 ah], .float .f64 a1] w fun e w' => e = .returned (.int .i64 r) ∧ Below w.heap.size w w' := by
 have hu27 := Try.underlying27
 have ao := Aside0.mk hr0_2
 have an := Aside0.mk hc0_2
 clear hr0_2 hc0_2
 have HB := Aside0.mk (Below.refl w.heap.size w)
 have H : (lodgerref26_Least.l0 k a1 0 ac ad ab ae af ag ah) = some r := h
 clear h
 have H' := Aside0.mk H
 clear H
 go_enter Try.func16, Try.ntmps16
 go_wp2_with (first | ((with_reducible refine gd_ 2 ?_); refine bx_ (N := 2) (cs := #[.int .u32 ac, .int .i64 ad, .slice ak ab.length al, .int .i64 ae, .int .i64 af, .int .i64 ag, .int .i64 ah]) (t := 27) ?_; intro ap hg w3 aa hb; have bF := gG_ hg HB; have bE := gG_ hg HB; replace HB := hS_ HB hb; clear hb hg))
 go_loopg [5] k (fun kq v5 w' => ∃ (ai : Int), v5 = .int .i64 ai ∧ Aside0 (lodgerref26_Least.l0 kq a1 ai ac ad ab ae af ag ah = some r) ∧ Aside0 (kq ≤ k) ∧ Aside0 (w'.heap[ap]? = some (.cells #[.int .u32 ac, .int .i64 ad, (.slice ak ab.length al), .int .i64 ae, .int .i64 af, .int .i64 ag, .int .i64 ah] 27 (0, 0))) ∧ Aside0 (Below w.heap.size w w'))
 case atStart => exact ⟨(0), rs_, H', ⟨Nat.le_refl _⟩, ⟨bk_ aa⟩, ⟨hB_ HB⟩⟩
 case round =>
  clear H'
  try clear c1
  try clear p2
  obtain ⟨ai, rfl, HA, HK1, aa, HB⟩ := hrel
  cases gk with
  | zero => exact absurd HA.out (by simp [lodgerref26_Least.l0])
  | succ k1 =>
   have H := HA.out; clear HA; simp only [lodgerref26_Least.l0] at H; replace H := bi_ H; obtain ⟨am, A40, H⟩ := H
   replace H : (if ai < am then ((lodgerref26_Part.f k1 ac ad ab ae af ag ah ai).bind fun aj => (if (flt aj a1) = true then (lodgerref26_Least.l0 k1 a1 (wrap64 (ai + 1)) ac ad ab ae af ag ah) else (some ai))) else (some ai)) = some r := H
   have A4 := Aside0.mk A40; clear A40
   by_cases c5 : ai < am
   ·rw [if_pos c5] at H
    have aq : decide (ai < am) = true := decide_eq_true c5
    clear c5; replace H := bi_ H; obtain ⟨aj, A60, H⟩ := H
    replace H : (if (flt aj a1) = true then (lodgerref26_Least.l0 k1 a1 (wrap64 (ai + 1)) ac ad ab ae af ag ah) else (some ai)) = some r := H
    have A6 := Aside0.mk A60; clear A60
    by_cases c7 : (flt aj a1) = true
    ·rw [if_pos c7] at H
     have ar : (flt aj a1) = true := c7
     clear c7
     have H' := Aside0.mk H
     clear H; obtain ⟨bp, bq, br, bs, bt, bu, bv, bw, bx, bz, bA, bB, bC, bD⟩ := cz7_ (w := wr) aa
     go_wp2_with (first | ((with_reducible refine gate_callee (f := 18) rfl ?_); refine goesL_ (some 8) rfl rfl Try.func18 (by kernel_rfl) rfl #[.agg #[.int .u32 ac, .int .i64 ad, .slice ak ab.length al, .int .i64 ae, .int .i64 af, .int .i64 ag, .int .i64 ah]] rfl am_ ?_; (with_reducible refine (lodgerref26_Usable.calls k1 ac ad _ _ ab ae af ag ah am _ ?side1 ?side2 A4.out).mono ?_); (case side1 => exact cC_ ao HB); (case side2 => exact an.out); rintro e w9 ⟨rfl, hb⟩; refine ⟨_, rfl, ?_⟩; replace HB := hS_ HB hb; replace aa := bB_ aa hb; (try clear hb); obtain ⟨au, av, aw, ax, ay, az, aA, aW, aX, aY, aZ, a0, a2, a3⟩ := cz7_ (w := w9) aa) | (go_at_call 12; (with_reducible refine (lodgerref26_Part.calls k1 ac ad _ _ ab ae af ag ah ai aj _ (cC_ ao HB) an.out A6.out).mono ?_); rintro e w11 ⟨rfl, hb⟩; replace HB := hS_ HB hb; replace aa := bB_ aa hb; (try clear hb)))
     go_roundg k1
     case measure => have := HK1.out; omega
     case rel => exact ⟨(wrap64 (ai + 1)), rs_, H', ⟨om_ HK1⟩, ⟨bk_ aa⟩, ⟨hB_ HB⟩⟩
    ·rw [if_neg c7] at H
     have ar : (flt aj a1) = false := by simpa using c7
     clear c7
     obtain rfl := Option.some.inj H
     obtain ⟨aB, aC, aD, aE, aF, aG, aH, a4, a5, a6, a7, a8, a9, ba⟩ := cz7_ (w := wr) aa
     go_wp2_with (first | ((with_reducible refine gate_callee (f := 18) rfl ?_); refine goesL_ (some 8) rfl rfl Try.func18 (by kernel_rfl) rfl #[.agg #[.int .u32 ac, .int .i64 ad, .slice ak ab.length al, .int .i64 ae, .int .i64 af, .int .i64 ag, .int .i64 ah]] rfl am_ ?_; (with_reducible refine (lodgerref26_Usable.calls k1 ac ad _ _ ab ae af ag ah am _ ?side1 ?side2 A4.out).mono ?_); (case side1 => exact cC_ ao HB); (case side2 => exact an.out); rintro e w13 ⟨rfl, hb⟩; refine ⟨_, rfl, ?_⟩; replace HB := hS_ HB hb; replace aa := bB_ aa hb; (try clear hb); obtain ⟨aI, aJ, aK, aL, aM, aN, aO, bb, bc, bd, be, bf, bg, bh⟩ := cz7_ (w := w13) aa) | (go_at_call 12; (with_reducible refine (lodgerref26_Part.calls k1 ac ad _ _ ab ae af ag ah ai aj _ (cC_ ao HB) an.out A6.out).mono ?_); rintro e w15 ⟨rfl, hb⟩; replace HB := hS_ HB hb; replace aa := bB_ aa hb; (try clear hb)))
     go_ret
     exact ⟨er_, hB_ HB⟩
   ·rw [if_neg c5] at H
    have aq : decide (ai < am) = false := decide_eq_false c5
    clear c5
    obtain rfl := Option.some.inj H
    obtain ⟨aP, aQ, aR, aS, aT, aU, aV, bi, bj, bk, bl, bm, bn, bo⟩ := cz7_ (w := wr) aa
    go_wp2_with (first | ((with_reducible refine gate_callee (f := 18) rfl ?_); refine goesL_ (some 8) rfl rfl Try.func18 (by kernel_rfl) rfl #[.agg #[.int .u32 ac, .int .i64 ad, .slice ak ab.length al, .int .i64 ae, .int .i64 af, .int .i64 ag, .int .i64 ah]] rfl am_ ?_; (with_reducible refine (lodgerref26_Usable.calls k1 ac ad _ _ ab ae af ag ah am _ ?side1 ?side2 A4.out).mono ?_); (case side1 => exact cC_ ao HB); (case side2 => exact an.out); rintro e w17 ⟨rfl, hb⟩; refine ⟨_, rfl, ?_⟩; replace HB := hS_ HB hb; (try clear hb)))
    go_ret
    exact ⟨er_, hB_ HB⟩

end Go.Proofs.Ytepgjabpoabjnaa.PGaugeTells
