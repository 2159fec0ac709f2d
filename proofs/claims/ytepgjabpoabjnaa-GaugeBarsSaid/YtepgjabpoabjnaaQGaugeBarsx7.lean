/- The walk of GaugeBars, part of it: what the Go functions answer; no condition. -/
import Derived.Test.YtepgjabpoabjnaaQGaugeBarsx0
import Derived.Test.YtepgjabpoabjnaaQGaugeBarsx2
import Derived.Test.YtepgjabpoabjnaaQGaugeBarsx6
namespace Go.Proofs.Ytepgjabpoabjnaa.PGaugeBars
open Go.RowKit Go.Proofs.YtepgjabpoabjnaaW.PrintWords Go.Proofs.YtepgjabpoabjnaaW.PrintLast Go.Proofs.YtepgjabpoabjnaaW.PrintMore
attribute [local go_sem] max2_int min2_int max_two min_two max_three min_three max_four min_four   -- for this text's walks alone
set_option linter.unusedVariables false
set_option linter.unusedSimpArgs false

/-! ### lodgerlaw26_GaugeBars: function 5 -/
mutual
def lodgerlaw26_GaugeBars.j0 : Nat → List Int → Int → Bool → Int → Int → List Int → Int → Int → Int → Int → Option (Bool)
 | 0, _, _, _, _, _, _, _, _, _, _ => none
 | k + 1, x1, x2, x24, x191000, x191001, x191002, x191003, x191004, x191005, x191006 => if x24 = true then ((lodgerlaw26_awake.f k).bind fun t193 => (some t193)) else ((gauge_Bar.f k x191000 x191001 x191002 x191003 x191004 x191005 x191006 x1 (wrap64 (x2))).bind fun t194 => (lodgerlaw26_GaugeBars.l0 k x1 x2 t194 0 0 x191000 x191001 x191002 x191003 x191004 x191005 x191006))
def lodgerlaw26_GaugeBars.l0 : Nat → List Int → Int → ByteArray → Int → Int → Int → Int → List Int → Int → Int → Int → Int → Option (Bool)
 | 0, _, _, _, _, _, _, _, _, _, _, _, _ => none
 | k + 1, x1, x2, x7, x8, x9, x191000, x191001, x191002, x191003, x191004, x191005, x191006 => if x9 < (x7.size : Int) then (if 0 ≤ x9 then (if (bt x7 x9) = 35 then (if x9 > 0 then (if 0 ≤ (wrap64 (x9 - 1)) then (if (wrap64 (x9 - 1)) < (x7.size : Int) then (lodgerlaw26_GaugeBars.j2 k x1 x2 x7 x8 x9 ((bt x7 (wrap64 (x9 - 1))) == 46) x191000 x191001 x191002 x191003 x191004 x191005 x191006) else (none)) else (none)) else (lodgerlaw26_GaugeBars.j2 k x1 x2 x7 x8 x9 false x191000 x191001 x191002 x191003 x191004 x191005 x191006)) else (if (bt x7 x9) = 46 then (if x9 > 0 then (lodgerlaw26_GaugeBars.j2 k x1 x2 x7 x8 x9 false x191000 x191001 x191002 x191003 x191004 x191005 x191006) else (lodgerlaw26_GaugeBars.j2 k x1 x2 x7 x8 x9 false x191000 x191001 x191002 x191003 x191004 x191005 x191006)) else (lodgerlaw26_GaugeBars.j2 k x1 x2 x7 x8 x9 true x191000 x191001 x191002 x191003 x191004 x191005 x191006))) else (none)) else (if (x7.size : Int) = (wrap64 (x2)) then (if x2 = 0 then (lodgerlaw26_GaugeBars.j3 k x1 x2 x8 ((x8 == (x7.size : Int)) != true) x191000 x191001 x191002 x191003 x191004 x191005 x191006) else ((lodgerref09_Full.f k x191000 x191001 x191002 x191003 x191004 x191005 x191006 x1).bind fun t195 => (lodgerlaw26_GaugeBars.j3 k x1 x2 x8 ((x8 == (x7.size : Int)) != t195) x191000 x191001 x191002 x191003 x191004 x191005 x191006))) else (lodgerlaw26_GaugeBars.j3 k x1 x2 x8 true x191000 x191001 x191002 x191003 x191004 x191005 x191006))
def lodgerlaw26_GaugeBars.j2 : Nat → List Int → Int → ByteArray → Int → Int → Bool → Int → Int → List Int → Int → Int → Int → Int → Option (Bool)
 | 0, _, _, _, _, _, _, _, _, _, _, _, _, _ => none
 | k + 1, x1, x2, x7, x8, x9, x63, x191000, x191001, x191002, x191003, x191004, x191005, x191006 => if x63 = true then (some false) else (if 0 ≤ x9 then (if x9 < (x7.size : Int) then (if (bt x7 x9) = 35 then (lodgerlaw26_GaugeBars.l0 k x1 x2 x7 (wrap64 (x8 + 1)) (wrap64 (x9 + 1)) x191000 x191001 x191002 x191003 x191004 x191005 x191006) else (lodgerlaw26_GaugeBars.l0 k x1 x2 x7 x8 (wrap64 (x9 + 1)) x191000 x191001 x191002 x191003 x191004 x191005 x191006)) else (none)) else (none))
def lodgerlaw26_GaugeBars.j3 : Nat → List Int → Int → Int → Bool → Int → Int → List Int → Int → Int → Int → Int → Option (Bool)
 | 0, _, _, _, _, _, _, _, _, _, _, _ => none
 | k + 1, x1, x2, x8, x88, x191000, x191001, x191002, x191003, x191004, x191005, x191006 => if x88 = true then (some false) else (if (x1.length : Int) = 0 then (some true) else (if 0 ≤ (wrap64 ((x1.length : Int) - 1)) then (if (wrap64 ((x1.length : Int) - 1)) ≤ (x1.length : Int) then ((gauge_Bar.f k x191000 x191001 x191002 x191003 x191004 x191005 x191006 (x1.take ((wrap64 ((x1.length : Int) - 1)) : Int).toNat) (wrap64 (x2))).bind fun t197 => (lodgerlaw26_GaugeBars.l1 k x8 t197 0 0)) else (none)) else (none)))
def lodgerlaw26_GaugeBars.l1 : Nat → Int → ByteArray → Int → Int → Option (Bool)
 | 0, _, _, _, _ => none
 | k + 1, x8, x10, x11, x12 => if x12 < (x10.size : Int) then (if 0 ≤ x12 then (if (bt x10 x12) = 35 then (lodgerlaw26_GaugeBars.l1 k x8 x10 (wrap64 (x11 + 1)) (wrap64 (x12 + 1))) else (lodgerlaw26_GaugeBars.l1 k x8 x10 x11 (wrap64 (x12 + 1)))) else (none)) else (some (decide (x11 ≤ x8)))
end
def lodgerlaw26_GaugeBars.f (k : Nat) (a0_0 a0_1 : Int) (l0_2 : List Int) (a0_3 a0_4 : Int) (a0_5 a0_6 : Int) (l1 : List Int) (a2 : Int) : Option (Bool) := (lodgerlaw26_awake.f k).bind fun t191 => (if t191 = true then ((lodgerref11_Fits.f k a0_0 a0_1 l0_2 a0_3 a0_4 a0_5 a0_6 l1).bind fun t192 => (if t192 = true then (lodgerlaw26_GaugeBars.j0 k l1 a2 (decide (a2 > 200)) a0_0 a0_1 l0_2 a0_3 a0_4 a0_5 a0_6) else (lodgerlaw26_GaugeBars.j0 k l1 a2 true a0_0 a0_1 l0_2 a0_3 a0_4 a0_5 a0_6))) else (lodgerlaw26_GaugeBars.j0 k l1 a2 true a0_0 a0_1 l0_2 a0_3 a0_4 a0_5 a0_6))
theorem lodgerlaw26_GaugeBars.mono_l : ∀ k, (∀ y0 y1 y2 y3 y4 y5 y6 y7 y8 y9, LeO (lodgerlaw26_GaugeBars.j0 k y0 y1 y2 y3 y4 y5 y6 y7 y8 y9) (lodgerlaw26_GaugeBars.j0 (k + 1) y0 y1 y2 y3 y4 y5 y6 y7 y8 y9)) ∧ (∀ y0 y1 y2 y3 y4 y5 y6 y7 y8 y9 y10 y11, LeO (lodgerlaw26_GaugeBars.l0 k y0 y1 y2 y3 y4 y5 y6 y7 y8 y9 y10 y11) (lodgerlaw26_GaugeBars.l0 (k + 1) y0 y1 y2 y3 y4 y5 y6 y7 y8 y9 y10 y11)) ∧ (∀ y0 y1 y2 y3 y4 y5 y6 y7 y8 y9 y10 y11 y12, LeO (lodgerlaw26_GaugeBars.j2 k y0 y1 y2 y3 y4 y5 y6 y7 y8 y9 y10 y11 y12) (lodgerlaw26_GaugeBars.j2 (k + 1) y0 y1 y2 y3 y4 y5 y6 y7 y8 y9 y10 y11 y12)) ∧ (∀ y0 y1 y2 y3 y4 y5 y6 y7 y8 y9 y10, LeO (lodgerlaw26_GaugeBars.j3 k y0 y1 y2 y3 y4 y5 y6 y7 y8 y9 y10) (lodgerlaw26_GaugeBars.j3 (k + 1) y0 y1 y2 y3 y4 y5 y6 y7 y8 y9 y10)) ∧ (∀ y0 y1 y2 y3, LeO (lodgerlaw26_GaugeBars.l1 k y0 y1 y2 y3) (lodgerlaw26_GaugeBars.l1 (k + 1) y0 y1 y2 y3))
 | 0 => ⟨fun _ _ _ _ _ _ _ _ _ _ r h => by simp [lodgerlaw26_GaugeBars.j0] at h, fun _ _ _ _ _ _ _ _ _ _ _ _ r h => by simp [lodgerlaw26_GaugeBars.l0] at h, fun _ _ _ _ _ _ _ _ _ _ _ _ _ r h => by simp [lodgerlaw26_GaugeBars.j2] at h, fun _ _ _ _ _ _ _ _ _ _ _ r h => by simp [lodgerlaw26_GaugeBars.j3] at h, fun _ _ _ _ r h => by simp [lodgerlaw26_GaugeBars.l1] at h⟩
 | k + 1 => by
  obtain ⟨ih0, ih1, ih2, ih3, ih4⟩ := lodgerlaw26_GaugeBars.mono_l k
  refine ⟨?_, ?_, ?_, ?_, ?_⟩
  ·intro y0 y1 y2 y3 y4 y5 y6 y7 y8 y9
   unfold lodgerlaw26_GaugeBars.j0
   repeat' (with_reducible first | apply ih0 | apply ih1 | apply ih2 | apply ih3 | apply ih4 | apply gauge_Bar.mono | apply lodgerlaw26_awake.mono | apply lodgerref09_Full.mono | apply lodgerref11_Fits.mono | exact LeO.refl _ | exact LeO.none _ | refine LeO.ite ?_ ?_ | refine LeO.bind ?_ (fun _ => ?_))
  ·intro y0 y1 y2 y3 y4 y5 y6 y7 y8 y9 y10 y11
   unfold lodgerlaw26_GaugeBars.l0
   repeat' (with_reducible first | apply ih0 | apply ih1 | apply ih2 | apply ih3 | apply ih4 | apply gauge_Bar.mono | apply lodgerlaw26_awake.mono | apply lodgerref09_Full.mono | apply lodgerref11_Fits.mono | exact LeO.refl _ | exact LeO.none _ | refine LeO.ite ?_ ?_ | refine LeO.bind ?_ (fun _ => ?_))
  ·intro y0 y1 y2 y3 y4 y5 y6 y7 y8 y9 y10 y11 y12
   unfold lodgerlaw26_GaugeBars.j2
   repeat' (with_reducible first | apply ih0 | apply ih1 | apply ih2 | apply ih3 | apply ih4 | apply gauge_Bar.mono | apply lodgerlaw26_awake.mono | apply lodgerref09_Full.mono | apply lodgerref11_Fits.mono | exact LeO.refl _ | exact LeO.none _ | refine LeO.ite ?_ ?_ | refine LeO.bind ?_ (fun _ => ?_))
  ·intro y0 y1 y2 y3 y4 y5 y6 y7 y8 y9 y10
   unfold lodgerlaw26_GaugeBars.j3
   repeat' (with_reducible first | apply ih0 | apply ih1 | apply ih2 | apply ih3 | apply ih4 | apply gauge_Bar.mono | apply lodgerlaw26_awake.mono | apply lodgerref09_Full.mono | apply lodgerref11_Fits.mono | exact LeO.refl _ | exact LeO.none _ | refine LeO.ite ?_ ?_ | refine LeO.bind ?_ (fun _ => ?_))
  ·intro y0 y1 y2 y3
   unfold lodgerlaw26_GaugeBars.l1
   repeat' (with_reducible first | apply ih0 | apply ih1 | apply ih2 | apply ih3 | apply ih4 | apply gauge_Bar.mono | apply lodgerlaw26_awake.mono | apply lodgerref09_Full.mono | apply lodgerref11_Fits.mono | exact LeO.refl _ | exact LeO.none _ | refine LeO.ite ?_ ?_ | refine LeO.bind ?_ (fun _ => ?_))
theorem lodgerlaw26_GaugeBars.mono : ∀ a0 a1 a2 a3 a4 a5 a6 a7 a8 k, LeO (lodgerlaw26_GaugeBars.f k a0 a1 a2 a3 a4 a5 a6 a7 a8) (lodgerlaw26_GaugeBars.f (k + 1) a0 a1 a2 a3 a4 a5 a6 a7 a8) := by
 intro a0 a1 a2 a3 a4 a5 a6 a7 a8 k
 obtain ⟨ih0, ih1, ih2, ih3, ih4⟩ := lodgerlaw26_GaugeBars.mono_l k
 unfold lodgerlaw26_GaugeBars.f
 repeat' (with_reducible first | apply ih0 | apply ih1 | apply ih2 | apply ih3 | apply ih4 | apply gauge_Bar.mono | apply lodgerlaw26_awake.mono | apply lodgerref09_Full.mono | apply lodgerref11_Fits.mono | exact LeO.refl _ | exact LeO.none _ | refine LeO.ite ?_ ?_ | refine LeO.bind ?_ (fun _ => ?_))
def lodgerlaw26_GaugeBars.T16 : Bool × List (List Nat × List Nat) := (true, [([], []), ([], []), ([], []), ([2], [2]), ([3], [3]), ([1, 4], [1, 4]), ([], []), ([6], [6]), ([0, 5, 7], [0, 5, 7]), ([8, 8, 0, 1, 2, 3, 4, 5, 6, 7, 8], [8])])
def lodgerlaw26_GaugeBars.B16 : List Nat := [0, 0, 0, 4, 12, 30, 0, 64, 255, 511]
theorem lodgerlaw26_GaugeBars.tab16 : rtab .any (opsOf Try.f5 16) = lodgerlaw26_GaugeBars.T16 := by kernel_rfl
theorem lodgerlaw26_GaugeBars.bits16 : waitsOk lodgerlaw26_GaugeBars.T16.2 lodgerlaw26_GaugeBars.B16 = true := by kernel_rfl
set_option maxHeartbeats 8000000 in
set_option maxRecDepth 100000 in
theorem lodgerlaw26_GaugeBars.calls (k : Nat) (ae af : Int) (ao : Option Addr) (ap : Nat) (ad : List Int) (ag ah : Int) (ai aj : Int) (A1 : Option Addr) (c1 : Nat) (l1 : List Int) (a2 : Int) (r : Bool) (w : World) (hr0_2 : Kd.C (Kd.int .i64) w ao ad.length ad) (hc0_2 : ad.length ≤ ap) (hr1 : Kd.C (Kd.int .i64) w A1 l1.length l1) (hc1 : l1.length ≤ c1) (hr_ : r = true) (h : lodgerlaw26_GaugeBars.f k ae af ad ag ah ai aj l1 a2 = some r) :
  Calls Try.prog 5 #[.agg #[.int .u32 ae, .int .i64 af, .slice ao ad.length ap, .int .i64 ag, .int .i64 ah, .int .i64 ai, .int .i64 aj], .slice A1 l1.length c1, .int .u8 a2] w fun e w' => e = .returned (.bool r) ∧ Below w.heap.size w w' := by
 have hu27 := Try.underlying27
 have bd := Aside0.mk hr0_2
 have bc := Aside0.mk hc0_2
 clear hr0_2 hc0_2
 have bS := Aside0.mk hr1
 have bR := Aside0.mk hc1
 clear hr1 hc1
 have HB := Aside0.mk (Below.refl w.heap.size w)
 replace hr_ := Aside0.mk hr_
 have H : ((lodgerlaw26_awake.f k).bind fun bP => (if bP = true then ((lodgerref11_Fits.f k ae af ad ag ah ai aj l1).bind fun aV => (if aV = true then (lodgerlaw26_GaugeBars.j0 k l1 a2 (decide (a2 > 200)) ae af ad ag ah ai aj) else (lodgerlaw26_GaugeBars.j0 k l1 a2 true ae af ad ag ah ai aj))) else (lodgerlaw26_GaugeBars.j0 k l1 a2 true ae af ad ag ah ai aj))) = some r := h
 clear h
 have b1 := Aside0.mk H
 clear H
 go_enter Try.func5, Try.ntmps5
 go_upto_region 1 with (first | ((with_reducible refine gd_ 3 ?_); (try (refine gate_guard (by rfl) ?_; dsimp only)); refine bx_ (N := 3) (cs := #[.int .u32 ae, .int .i64 af, .slice ao ad.length ap, .int .i64 ag, .int .i64 ah, .int .i64 ai, .int .i64 aj]) (t := 27) ?_; intro aW hg w5 ac hb; have cc := gG_ hg HB; have cb := gG_ hg HB; replace HB := hS_ HB hb; clear hb hg))
 (try simp only [Act.put, List.setIfInBounds_toArray, List.set_cons_zero, List.set_cons_succ])
 go_cut [24] (fun v24 wc => ∃ (kq : Nat) (bp : Bool), v24 = .bool bp ∧ Aside0 (lodgerlaw26_GaugeBars.j0 kq l1 a2 bp ae af ad ag ah ai aj = some r) ∧ Aside0 (kq ≤ k) ∧ Aside0 (wc.heap[aW]? = some (.cells #[.int .u32 ae, .int .i64 af, (.slice ao ad.length ap), .int .i64 ag, .int .i64 ah, .int .i64 ai, .int .i64 aj] 27 (0, 0))) ∧ Aside0 (Below w.heap.size w wc))
 case first =>
  have H := b1.out; clear b1; replace H := bi_ H; obtain ⟨bP, A60, H⟩ := H
  replace H : (if bP = true then ((lodgerref11_Fits.f k ae af ad ag ah ai aj l1).bind fun aV => (if aV = true then (lodgerlaw26_GaugeBars.j0 k l1 a2 (decide (a2 > 200)) ae af ad ag ah ai aj) else (lodgerlaw26_GaugeBars.j0 k l1 a2 true ae af ad ag ah ai aj))) else (lodgerlaw26_GaugeBars.j0 k l1 a2 true ae af ad ag ah ai aj)) = some r := H
  have A6 := Aside0.mk A60; clear A60
  by_cases c7 : bP = true
  ·subst c7
   have H1 : ((lodgerref11_Fits.f k ae af ad ag ah ai aj l1).bind fun aV => (if aV = true then (lodgerlaw26_GaugeBars.j0 k l1 a2 (decide (a2 > 200)) ae af ad ag ah ai aj) else (lodgerlaw26_GaugeBars.j0 k l1 a2 true ae af ad ag ah ai aj))) = some r := pf_ rfl H
   clear H; have H := H1; clear H1; replace H := bi_ H; obtain ⟨aV, A80, H⟩ := H
   replace H : (if aV = true then (lodgerlaw26_GaugeBars.j0 k l1 a2 (decide (a2 > 200)) ae af ad ag ah ai aj) else (lodgerlaw26_GaugeBars.j0 k l1 a2 true ae af ad ag ah ai aj)) = some r := H
   have A8 := Aside0.mk A80; clear A80
   by_cases c9 : aV = true
   ·subst c9
    have H1 : (lodgerlaw26_GaugeBars.j0 k l1 a2 (decide (a2 > 200)) ae af ad ag ah ai aj) = some r := pf_ rfl H
    clear H; have H := H1; clear H1
    have H' := Aside0.mk H
    clear H
    go_wp2_with (first | ((with_reducible refine gate_callee (f := 7) rfl ?_); refine goesL_ (some 13) rfl rfl Try.func7 (by kernel_rfl) rfl #[] rfl am_ ?_; (with_reducible refine (lodgerlaw26_awake.calls k  true _ A6.out).mono ?_); rintro e w10 ⟨rfl, hb⟩; refine ⟨_, rfl, ?_⟩; replace HB := hS_ HB hb; replace ac := bB_ ac hb; (try clear hb); obtain ⟨aq, ar, au, av, aw, ax, ay, aG, aH, aI, aJ, aK, aL, aM⟩ := cz7_ (w := w10) ac) | (go_at_call 8; (with_reducible refine (lodgerref11_Fits.calls k ae af _ _ ad ag ah ai aj _ _ l1 true _ (cC_ bd HB) bc.out (cC_ bS HB) bR.out A8.out).mono ?_); rintro e w12 ⟨rfl, hb⟩; replace HB := hS_ HB hb; replace ac := bB_ ac hb; (try clear hb)))
    go_meet
    case rel => exact ⟨_, (decide (a2 > 200)), rs_, H', ⟨by first | omega | exact Nat.le_refl _⟩, ⟨bk_ ac⟩, ⟨hB_ HB⟩⟩
   ·replace c9 := Bool.eq_false_iff.mpr c9
    subst c9
    have H1 : (lodgerlaw26_GaugeBars.j0 k l1 a2 true ae af ad ag ah ai aj) = some r := nf_ H
    clear H; have H := H1; clear H1
    have H' := Aside0.mk H
    clear H
    go_wp2_with (first | ((with_reducible refine gate_callee (f := 7) rfl ?_); refine goesL_ (some 13) rfl rfl Try.func7 (by kernel_rfl) rfl #[] rfl am_ ?_; (with_reducible refine (lodgerlaw26_awake.calls k  true _ A6.out).mono ?_); rintro e w13 ⟨rfl, hb⟩; refine ⟨_, rfl, ?_⟩; replace HB := hS_ HB hb; replace ac := bB_ ac hb; (try clear hb); obtain ⟨az, aA, aB, aC, aD, aE, aF, aN, aO, aP, aQ, aR, aS, aT⟩ := cz7_ (w := w13) ac) | (go_at_call 8; (with_reducible refine (lodgerref11_Fits.calls k ae af _ _ ad ag ah ai aj _ _ l1 false _ (cC_ bd HB) bc.out (cC_ bS HB) bR.out A8.out).mono ?_); rintro e w15 ⟨rfl, hb⟩; replace HB := hS_ HB hb; replace ac := bB_ ac hb; (try clear hb)))
    go_meet
    case rel => exact ⟨_, (true), rs_, H', ⟨by first | omega | exact Nat.le_refl _⟩, ⟨bk_ ac⟩, ⟨hB_ HB⟩⟩
  ·replace c7 := Bool.eq_false_iff.mpr c7
   subst c7
   have H1 : (lodgerlaw26_GaugeBars.j0 k l1 a2 true ae af ad ag ah ai aj) = some r := nf_ H
   clear H; have H := H1; clear H1
   have H' := Aside0.mk H
   clear H
   go_wp2_with (first | ((with_reducible refine gate_callee (f := 7) rfl ?_); refine goesL_ (some 13) rfl rfl Try.func7 (by kernel_rfl) rfl #[] rfl am_ ?_; (with_reducible refine (lodgerlaw26_awake.calls k  false _ A6.out).mono ?_); rintro e w16 ⟨rfl, hb⟩; refine ⟨_, rfl, ?_⟩; replace HB := hS_ HB hb; replace ac := bB_ ac hb; (try clear hb)))
   go_meet
   case rel => exact ⟨_, (true), rs_, H', ⟨by first | omega | exact Nat.le_refl _⟩, ⟨bk_ ac⟩, ⟨hB_ HB⟩⟩
 case rest =>
  clear b1
  try clear c1
  try clear p2
  try clear c5
  try clear c7
  try clear c9
  try clear aq ar au av aw ax ay
  try clear az aA aB aC aD aE aF
  try clear aG aH aI aJ aK aL aM
  try clear aN aO aP aQ aR aS aT
  obtain ⟨kq, bp, rfl, HA, an, ac, HB⟩ := hcut
  cases kq with
  | zero => exact absurd HA.out (by simp [lodgerlaw26_GaugeBars.j0])
  | succ kj3 =>
   have H := HA.out; clear HA; simp only [lodgerlaw26_GaugeBars.j0] at H
   by_cases c17 : bp = true
   ·subst c17
    have H1 : ((lodgerlaw26_awake.f kj3).bind fun bQ => (some bQ)) = some r := pf_ rfl H
    clear H; have H := H1; clear H1; replace H := bi_ H; obtain ⟨bQ, A180, H⟩ := H
    replace H : (some bQ) = some r := H
    have A18 := Aside0.mk A180; clear A180
    first | (exfalso; rw [hr_.out] at H; exact absurd (Option.some.inj H) (by decide)) | (try clear hr_)
    all_goals
     obtain rfl := Option.some.inj H
     go_wp2_with (first | ((with_reducible refine gate_callee (f := 7) rfl ?_); refine goesL_ (some 25) rfl rfl Try.func7 (by kernel_rfl) rfl #[] rfl am_ ?_; (with_reducible refine (lodgerlaw26_awake.calls kj3  bQ _ A18.out).mono ?_); rintro e w19 ⟨rfl, hb⟩; refine ⟨_, rfl, ?_⟩; replace HB := hS_ HB hb; replace ac := bB_ ac hb; (try clear hb)))
     go_ret
     exact ⟨er_, hB_ HB⟩
   ·replace c17 := Bool.eq_false_iff.mpr c17
    subst c17
    have H1 : ((gauge_Bar.f kj3 ae af ad ag ah ai aj l1 (wrap64 (a2))).bind fun ab => (lodgerlaw26_GaugeBars.l0 kj3 l1 a2 ab 0 0 ae af ad ag ah ai aj)) = some r := nf_ H
    clear H; have H := H1; clear H1; replace H := bi_ H; obtain ⟨ab, A200, H⟩ := H
    replace H : (lodgerlaw26_GaugeBars.l0 kj3 l1 a2 ab 0 0 ae af ad ag ah ai aj) = some r := H
    have A20 := Aside0.mk A200; clear A200
    have H' := Aside0.mk H
    clear H; obtain ⟨aX, aY, aZ, a0, a1, a3, a4, a5, a6, a7, a8, a9, ba, bb⟩ := cz7_ (w := wc) ac
    go_wp2_with (first | ((with_reducible refine gate_callee (f := 13) rfl ?_); refine goesL_ (some 30) rfl rfl Try.func13 (by kernel_rfl) rfl #[.agg #[.int .u32 ae, .int .i64 af, .slice ao ad.length ap, .int .i64 ag, .int .i64 ah, .int .i64 ai, .int .i64 aj], .slice A1 l1.length c1, .int .i64 (wrap64 (a2))] rfl am_ ?_; (with_reducible refine (gauge_Bar.calls kj3 ae af _ _ ad ag ah ai aj _ _ l1 (wrap64 (a2)) ab _ ?side1 ?side2 ?side3 ?side4 A20.out).mono ?_); (case side1 => exact cC_ bd HB); (case side2 => exact bc.out); (case side3 => exact cC_ bS HB); (case side4 => exact bR.out); rintro e w22 ⟨rfl, hb⟩; refine ⟨_, rfl, ?_⟩; replace HB := hS_ HB hb; replace ac := bB_ ac hb; (try clear hb)))
    go_loopg [8, 9] kj3 (fun kq v8 v9 w' => ∃ (am aa : Int), v8 = .int .i64 am ∧ v9 = .int .i64 aa ∧ Aside0 (lodgerlaw26_GaugeBars.l0 kq l1 a2 ab am aa ae af ad ag ah ai aj = some r) ∧ Aside0 (kq ≤ kj3) ∧ Aside0 (w'.heap[aW]? = some (.cells #[.int .u32 ae, .int .i64 af, (.slice ao ad.length ap), .int .i64 ag, .int .i64 ah, .int .i64 ai, .int .i64 aj] 27 (0, 0))) ∧ Aside0 (Below w.heap.size w w'))
    case atStart => exact ⟨(0), (0), rs_, rs_, H', ⟨Nat.le_refl _⟩, ⟨bk_ ac⟩, ⟨hB_ HB⟩⟩
    case round =>
     clear H'
     try clear c1
     try clear p2
     try clear c5
     try clear p6
     try clear c7
     try clear c9
     try clear c13
     try clear c17
     try clear aq ar au av aw ax ay
     try clear az aA aB aC aD aE aF
     try clear aX aY aZ a0 a1 a3 a4
     try clear aG aH aI aJ aK aL aM
     try clear aN aO aP aQ aR aS aT
     try clear a5 a6 a7 a8 a9 ba bb
     try clear p2
     obtain ⟨am, aa, rfl, rfl, HA, HK2, ac, HB⟩ := hrel
     cases gk with
     | zero => exact absurd HA.out (by simp [lodgerlaw26_GaugeBars.l0])
     | succ k2 =>
      have H := HA.out; clear HA; simp only [lodgerlaw26_GaugeBars.l0] at H
      by_cases c23 : aa < (ab.size : Int)
      ·rw [if_pos c23] at H
       have bi : decide (aa < (ab.size : Int)) = true := decide_eq_true c23
       clear c23; have bT := Aside0.mk H; clear H
       go_upto_region 8 with (fail)
       go_cut [63] (fun v63 wc => ∃ (kq : Nat) (bg : Bool), v63 = .bool bg ∧ Aside0 (lodgerlaw26_GaugeBars.j2 kq l1 a2 ab am aa bg ae af ad ag ah ai aj = some r) ∧ Aside0 (kq ≤ k2) ∧ Aside0 (wc.heap[aW]? = some (.cells #[.int .u32 ae, .int .i64 af, (.slice ao ad.length ap), .int .i64 ag, .int .i64 ah, .int .i64 ai, .int .i64 aj] 27 (0, 0))) ∧ Aside0 (Below w.heap.size w wc))
       case first =>
        have H := bT.out; clear bT
        by_cases c25 : 0 ≤ aa
        ·rw [if_pos c25] at H
         have be : decide (0 ≤ aa) = true := decide_eq_true c25
         clear c25
         (first | rw [be] | (simp only [i64_w, i32_w]; rw [be]) | skip)
         by_cases c27 : (bt ab aa) = 35
         ·rw [if_pos c27] at H
          have bj : ((bt ab aa) == 35) = true := beq_iff_eq.mpr c27
          have bk : ((bt ab aa) != 35) = false := bne_eq_false_iff_eq.mpr c27
          clear c27
          by_cases c28 : aa > 0
          ·rw [if_pos c28] at H
           have bl : decide (0 < aa) = true := decide_eq_true c28
           clear c28; obtain ⟨ji30, hji30⟩ : ∃ j_ : Int, (wrap64 (aa - 1)) = j_ := ⟨_, rfl⟩
           replace H : (if 0 ≤ (ji30) then (if (ji30) < (ab.size : Int) then (lodgerlaw26_GaugeBars.j2 k2 l1 a2 ab am aa ((bt ab (ji30)) == 46) ae af ad ag ah ai aj) else (none)) else (none)) = some r := by first | (rw [hji30] at H; exact H) | (simp only [hji30] at H ⊢; exact H)
           have hji30w : (IntKind.i64.wrap (aa - 1)) = ji30 := (i64_w _).trans hji30
           by_cases c31 : 0 ≤ (ji30)
           ·rw [if_pos c31] at H
            have bI : decide (0 ≤ (ji30)) = true := decide_eq_true c31
            clear c31
            by_cases c32 : (ji30) < (ab.size : Int)
            ·rw [if_pos c32] at H
             have bJ : decide ((ji30) < (ab.size : Int)) = true := decide_eq_true c32
             clear c32
             have H' := Aside0.mk H
             clear H
             have p26 : 0 ≤ (aa : Int) := od_
             have q26 : aa < (ab.size : Int) := od_
             have hx26 := bt_at ab aa; replace p26 := eq_true p26; replace q26 := eq_true q26
             have p29 : 0 ≤ (aa : Int) := od_
             have q29 : aa < (ab.size : Int) := od_
             have hx29 := bt_at ab aa; replace p29 := eq_true p29; replace q29 := eq_true q29
             have p33 : 0 ≤ ((ji30) : Int) := od_
             have q33 : (ji30) < (ab.size : Int) := od_
             have hx33 := bt_at ab (ji30); replace p33 := eq_true p33; replace q33 := eq_true q33
             go_wp2
             go_meet
             case rel => exact ⟨_, (((bt ab (ji30)) == 46)), (by first | rfl | (simp; done) | (simp only [← hji30] <;> (first | rfl | simp)) | (simp [*]; done)), H', ⟨by have := an.out; have := HK2.out; first | omega | exact Nat.le_refl _⟩, ⟨bk_ ac⟩, ⟨hB_ HB⟩⟩
            ·rw [if_neg c32] at H
             exact absurd H (by simp)
           ·rw [if_neg c31] at H
            exact absurd H (by simp)
          ·rw [if_neg c28] at H
           have bl : decide (0 < aa) = false := decide_eq_false c28
           clear c28
           have H' := Aside0.mk H
           clear H
           have p26 : 0 ≤ (aa : Int) := od_
           have q26 : aa < (ab.size : Int) := od_
           have hx26 := bt_at ab aa; replace p26 := eq_true p26; replace q26 := eq_true q26
           go_wp2
           go_meet
           case rel => exact ⟨_, (false), rs_, H', ⟨by have := an.out; have := HK2.out; first | omega | exact Nat.le_refl _⟩, ⟨bk_ ac⟩, ⟨hB_ HB⟩⟩
         ·rw [if_neg c27] at H
          have bj : ((bt ab aa) == 35) = false := beq_eq_false_iff_ne.mpr c27
          have bk : ((bt ab aa) != 35) = true := bne_iff_ne.mpr c27
          by_cases c35 : (bt ab aa) = 46
          ·rw [if_pos c35] at H
           have bm : ((bt ab aa) == 46) = true := beq_iff_eq.mpr c35
           have bn : ((bt ab aa) != 46) = false := bne_eq_false_iff_eq.mpr c35
           clear c35
           by_cases c36 : aa > 0
           ·rw [if_pos c36] at H
            have bo : decide (0 < aa) = true := decide_eq_true c36
            clear c36
            have H' := Aside0.mk H
            clear H
            have p26 : 0 ≤ (aa : Int) := od_
            have q26 : aa < (ab.size : Int) := od_
            have hx26 := bt_at ab aa; replace p26 := eq_true p26; replace q26 := eq_true q26
            have p34 : 0 ≤ (aa : Int) := od_
            have q34 : aa < (ab.size : Int) := od_
            have hx34 := bt_at ab aa; replace p34 := eq_true p34; replace q34 := eq_true q34
            have p37 : 0 ≤ (aa : Int) := od_
            have q37 : aa < (ab.size : Int) := od_
            have hx37 := bt_at ab aa; replace p37 := eq_true p37; replace q37 := eq_true q37
            go_wp2
            go_meet
            case rel => exact ⟨_, (false), rs_, H', ⟨by have := an.out; have := HK2.out; first | omega | exact Nat.le_refl _⟩, ⟨bk_ ac⟩, ⟨hB_ HB⟩⟩
           ·rw [if_neg c36] at H
            have bo : decide (0 < aa) = false := decide_eq_false c36
            clear c36
            have H' := Aside0.mk H
            clear H
            have p26 : 0 ≤ (aa : Int) := od_
            have q26 : aa < (ab.size : Int) := od_
            have hx26 := bt_at ab aa; replace p26 := eq_true p26; replace q26 := eq_true q26
            have p34 : 0 ≤ (aa : Int) := od_
            have q34 : aa < (ab.size : Int) := od_
            have hx34 := bt_at ab aa; replace p34 := eq_true p34; replace q34 := eq_true q34
            go_wp2
            go_meet
            case rel => exact ⟨_, (false), rs_, H', ⟨by have := an.out; have := HK2.out; first | omega | exact Nat.le_refl _⟩, ⟨bk_ ac⟩, ⟨hB_ HB⟩⟩
          ·rw [if_neg c35] at H
           have bm : ((bt ab aa) == 46) = false := beq_eq_false_iff_ne.mpr c35
           have bn : ((bt ab aa) != 46) = true := bne_iff_ne.mpr c35
           have H' := Aside0.mk H
           clear H
           have p26 : 0 ≤ (aa : Int) := od_
           have q26 : aa < (ab.size : Int) := od_
           have hx26 := bt_at ab aa; replace p26 := eq_true p26; replace q26 := eq_true q26
           have p34 : 0 ≤ (aa : Int) := od_
           have q34 : aa < (ab.size : Int) := od_
           have hx34 := bt_at ab aa; replace p34 := eq_true p34; replace q34 := eq_true q34
           go_wp2
           go_meet
           case rel => exact ⟨_, (true), rs_, H', ⟨by have := an.out; have := HK2.out; first | omega | exact Nat.le_refl _⟩, ⟨bk_ ac⟩, ⟨hB_ HB⟩⟩
        ·rw [if_neg c25] at H
         exact absurd H (by simp)
       case rest =>
        clear bT
        try clear c1
        try clear c2
        try clear p2
        try clear q2
        try clear hx2
        try clear c3
        try clear p3
        try clear q3
        try clear hx3
        try clear c5
        try clear p6
        try clear c7
        try clear c9
        try clear c13
        try clear c17
        try clear c23
        try clear bi
        try clear c25
        try clear be
        try clear p26
        try clear q26
        try clear hx26
        try clear c27
        try clear bj
        try clear bk
        try clear c28
        try clear bl
        try clear p29
        try clear q29
        try clear hx29
        try clear c31
        try clear bI
        try clear c32
        try clear bJ
        try clear p33
        try clear q33
        try clear hx33
        try clear p34
        try clear q34
        try clear hx34
        try clear c35
        try clear bm
        try clear bn
        try clear c36
        try clear bo
        try clear p37
        try clear q37
        try clear hx37
        try clear aq ar au av aw ax ay
        try clear az aA aB aC aD aE aF
        try clear aX aY aZ a0 a1 a3 a4
        try clear aG aH aI aJ aK aL aM
        try clear aN aO aP aQ aR aS aT
        try clear a5 a6 a7 a8 a9 ba bb
        try clear p2
        try clear p26
        try clear p29
        try clear p33
        try clear p34
        try clear p37
        try clear p6
        try clear q26
        try clear q29
        try clear q33
        try clear q34
        try clear q37
        obtain ⟨kq, bg, rfl, HA, bG, ac, HB⟩ := hcut
        cases kq with
        | zero => exact absurd HA.out (by simp [lodgerlaw26_GaugeBars.j2])
        | succ kj23 =>
         have H := HA.out; clear HA; simp only [lodgerlaw26_GaugeBars.j2] at H
         by_cases c38 : bg = true
         ·subst c38
          have H1 : (some false) = some r := pf_ rfl H
          rw [hr_.out] at H1
          exact absurd (Option.some.inj H1) (by decide)
         ·replace c38 := Bool.eq_false_iff.mpr c38
          subst c38
          have H1 : (if 0 ≤ aa then (if aa < (ab.size : Int) then (if (bt ab aa) = 35 then (lodgerlaw26_GaugeBars.l0 kj23 l1 a2 ab (wrap64 (am + 1)) (wrap64 (aa + 1)) ae af ad ag ah ai aj) else (lodgerlaw26_GaugeBars.l0 kj23 l1 a2 ab am (wrap64 (aa + 1)) ae af ad ag ah ai aj)) else (none)) else (none)) = some r := nf_ H
          clear H; have H := H1; clear H1
          by_cases c39 : 0 ≤ aa
          ·rw [if_pos c39] at H
           have bX : decide (0 ≤ aa) = true := decide_eq_true c39
           clear c39
           by_cases c40 : aa < (ab.size : Int)
           ·rw [if_pos c40] at H
            have bY : decide (aa < (ab.size : Int)) = true := decide_eq_true c40
            clear c40
            by_cases c42 : (bt ab aa) = 35
            ·rw [if_pos c42] at H
             have bK : ((bt ab aa) == 35) = true := beq_iff_eq.mpr c42
             have bL : ((bt ab aa) != 35) = false := bne_eq_false_iff_eq.mpr c42
             clear c42
             have H' := Aside0.mk H
             clear H
             have p41 : 0 ≤ (aa : Int) := od_
             have q41 : aa < (ab.size : Int) := od_
             have hx41 := bt_at ab aa; replace p41 := eq_true p41; replace q41 := eq_true q41
             go_wp2
             go_roundg kj23
             case measure => have := an.out; have := HK2.out; have := bG.out; omega
             case rel => exact ⟨(wrap64 (am + 1)), (wrap64 (aa + 1)), rs_, rs_, H', ⟨by have := an.out; have := HK2.out; have := bG.out; omega⟩, ⟨bk_ ac⟩, ⟨hB_ HB⟩⟩
            ·rw [if_neg c42] at H
             have bK : ((bt ab aa) == 35) = false := beq_eq_false_iff_ne.mpr c42
             have bL : ((bt ab aa) != 35) = true := bne_iff_ne.mpr c42
             have H' := Aside0.mk H
             clear H
             have p41 : 0 ≤ (aa : Int) := od_
             have q41 : aa < (ab.size : Int) := od_
             have hx41 := bt_at ab aa; replace p41 := eq_true p41; replace q41 := eq_true q41
             go_wp2
             go_roundg kj23
             case measure => have := an.out; have := HK2.out; have := bG.out; omega
             case rel => exact ⟨(am), (wrap64 (aa + 1)), rs_, rs_, H', ⟨by have := an.out; have := HK2.out; have := bG.out; omega⟩, ⟨bk_ ac⟩, ⟨hB_ HB⟩⟩
           ·rw [if_neg c40] at H
            exact absurd H (by simp)
          ·rw [if_neg c39] at H
           exact absurd H (by simp)
      ·rw [if_neg c23] at H
       have bi : decide (aa < (ab.size : Int)) = false := decide_eq_false c23
       clear c23; have bU := Aside0.mk H; clear H
       go_upto_region 12 with (fail)
       go_cut [88] (fun v88 wc => ∃ (kq : Nat) (bh : Bool), v88 = .bool bh ∧ Aside0 (lodgerlaw26_GaugeBars.j3 kq l1 a2 am bh ae af ad ag ah ai aj = some r) ∧ Aside0 (kq ≤ k2) ∧ Aside0 (wc.heap[aW]? = some (.cells #[.int .u32 ae, .int .i64 af, (.slice ao ad.length ap), .int .i64 ag, .int .i64 ah, .int .i64 ai, .int .i64 aj] 27 (0, 0))) ∧ Aside0 (Below w.heap.size w wc))
       case first =>
        have H := bU.out; clear bU
        by_cases c44 : (ab.size : Int) = (wrap64 (a2))
        ·rw [if_pos c44] at H
         have aU : ((ab.size : Int) == (wrap64 (a2))) = true := beq_iff_eq.mpr c44
         have bM : ((ab.size : Int) != (wrap64 (a2))) = false := bne_eq_false_iff_eq.mpr c44
         clear c44
         (first | rw [aU] | (simp only [i64_w, i32_w]; rw [aU]) | skip)
         by_cases c45 : a2 = 0
         ·rw [if_pos c45] at H
          have bN : (a2 == 0) = true := beq_iff_eq.mpr c45
          have bO : (a2 != 0) = false := bne_eq_false_iff_eq.mpr c45
          clear c45
          have H' := Aside0.mk H
          clear H
          go_wp2
          go_meet
          case rel => exact ⟨_, (((am == (ab.size : Int)) != true)), rs_, H', ⟨by have := an.out; have := HK2.out; first | omega | exact Nat.le_refl _⟩, ⟨bk_ ac⟩, ⟨hB_ HB⟩⟩
         ·rw [if_neg c45] at H
          have bN : (a2 == 0) = false := beq_eq_false_iff_ne.mpr c45
          have bO : (a2 != 0) = true := bne_iff_ne.mpr c45
          replace H := bi_ H; obtain ⟨bV, A460, H⟩ := H
          replace H : (lodgerlaw26_GaugeBars.j3 k2 l1 a2 am ((am == (ab.size : Int)) != bV) ae af ad ag ah ai aj) = some r := H
          have A46 := Aside0.mk A460; clear A460
          have H' := Aside0.mk H
          clear H; obtain ⟨bq, br, bs, bu, bv, bw, bx, bz, bA, bB, bC, bD, bE, bF⟩ := cz7_ (w := wr) ac
          go_wp2_with (first | (go_at_call 17; (with_reducible refine (lodgerref09_Full.calls k2 ae af _ _ ad ag ah ai aj _ _ l1 bV _ (cC_ bd HB) bc.out (cC_ bS HB) bR.out A46.out).mono ?_); rintro e w48 ⟨rfl, hb⟩; replace HB := hS_ HB hb; replace ac := bB_ ac hb; (try clear hb)))
          go_meet
          case rel => exact ⟨_, (((am == (ab.size : Int)) != bV)), rs_, H', ⟨by have := an.out; have := HK2.out; first | omega | exact Nat.le_refl _⟩, ⟨bk_ ac⟩, ⟨hB_ HB⟩⟩
        ·rw [if_neg c44] at H
         have aU : ((ab.size : Int) == (wrap64 (a2))) = false := beq_eq_false_iff_ne.mpr c44
         have bM : ((ab.size : Int) != (wrap64 (a2))) = true := bne_iff_ne.mpr c44
         (first | rw [aU] | (simp only [i64_w, i32_w]; rw [aU]) | skip)
         have H' := Aside0.mk H
         clear H
         go_wp2
         go_meet
         case rel => exact ⟨_, (true), rs_, H', ⟨by have := an.out; have := HK2.out; first | omega | exact Nat.le_refl _⟩, ⟨bk_ ac⟩, ⟨hB_ HB⟩⟩
       case rest =>
        clear bU
        try clear c1
        try clear c2
        try clear p2
        try clear q2
        try clear hx2
        try clear c3
        try clear p3
        try clear q3
        try clear hx3
        try clear c4
        try clear p4
        try clear q4
        try clear hx4
        try clear c5
        try clear p6
        try clear c7
        try clear c9
        try clear c13
        try clear c17
        try clear c23
        try clear bi
        try clear c25
        try clear be
        try clear p26
        try clear q26
        try clear hx26
        try clear c27
        try clear bj
        try clear bk
        try clear c28
        try clear bl
        try clear p29
        try clear q29
        try clear hx29
        try clear c31
        try clear bI
        try clear c32
        try clear bJ
        try clear p33
        try clear q33
        try clear hx33
        try clear p34
        try clear q34
        try clear hx34
        try clear c35
        try clear bm
        try clear bn
        try clear c36
        try clear bo
        try clear p37
        try clear q37
        try clear hx37
        try clear c38
        try clear c39
        try clear bX
        try clear c40
        try clear bY
        try clear p41
        try clear q41
        try clear hx41
        try clear c42
        try clear bK
        try clear bL
        try clear c44
        try clear aU
        try clear bM
        try clear c45
        try clear bN
        try clear bO
        try clear aq ar au av aw ax ay
        try clear az aA aB aC aD aE aF
        try clear aX aY aZ a0 a1 a3 a4
        try clear bq br bs bu bv bw bx
        try clear aG aH aI aJ aK aL aM
        try clear aN aO aP aQ aR aS aT
        try clear a5 a6 a7 a8 a9 ba bb
        try clear bz bA bB bC bD bE bF
        try clear p2
        try clear p26
        try clear p29
        try clear p3
        try clear p33
        try clear p34
        try clear p37
        try clear p41
        try clear p6
        try clear q2
        try clear q26
        try clear q29
        try clear q3
        try clear q33
        try clear q34
        try clear q37
        try clear q41
        obtain ⟨kq, bh, rfl, HA, bH, ac, HB⟩ := hcut
        cases kq with
        | zero => exact absurd HA.out (by simp [lodgerlaw26_GaugeBars.j3])
        | succ kj42 =>
         have H := HA.out; clear HA; simp only [lodgerlaw26_GaugeBars.j3] at H
         by_cases c49 : bh = true
         ·subst c49
          have H1 : (some false) = some r := pf_ rfl H
          rw [hr_.out] at H1
          exact absurd (Option.some.inj H1) (by decide)
         ·replace c49 := Bool.eq_false_iff.mpr c49
          subst c49
          have H1 : (if (l1.length : Int) = 0 then (some true) else (if 0 ≤ (wrap64 ((l1.length : Int) - 1)) then (if (wrap64 ((l1.length : Int) - 1)) ≤ (l1.length : Int) then ((gauge_Bar.f kj42 ae af ad ag ah ai aj (l1.take ((wrap64 ((l1.length : Int) - 1)) : Int).toNat) (wrap64 (a2))).bind fun al => (lodgerlaw26_GaugeBars.l1 kj42 am al 0 0)) else (none)) else (none))) = some r := nf_ H
          clear H; have H := H1; clear H1
          by_cases c50 : (l1.length : Int) = 0
          ·rw [if_pos c50] at H
           have bZ : ((l1.length : Int) == 0) = true := beq_iff_eq.mpr c50
           have b0 : ((l1.length : Int) != 0) = false := bne_eq_false_iff_eq.mpr c50
           clear c50
           first | (exfalso; rw [hr_.out] at H; exact absurd (Option.some.inj H) (by decide)) | (try clear hr_)
           all_goals
            obtain rfl := Option.some.inj H
            go_wp2
            go_ret
            exact ⟨er_, hB_ HB⟩
          ·rw [if_neg c50] at H
           have bZ : ((l1.length : Int) == 0) = false := beq_eq_false_iff_ne.mpr c50
           have b0 : ((l1.length : Int) != 0) = true := bne_iff_ne.mpr c50
           have b3 : ¬ (l1 = []) := fun h_ => c50 (by rw [h_]; rfl)
           obtain ⟨ji51, hji51⟩ : ∃ j_ : Int, (wrap64 ((l1.length : Int) - 1)) = j_ := ⟨_, rfl⟩
           replace H : (if 0 ≤ (ji51) then (if (ji51) ≤ (l1.length : Int) then ((gauge_Bar.f kj42 ae af ad ag ah ai aj (l1.take ((ji51) : Int).toNat) (wrap64 (a2))).bind fun al => (lodgerlaw26_GaugeBars.l1 kj42 am al 0 0)) else (none)) else (none)) = some r := by first | (rw [hji51] at H; exact H) | (simp only [hji51] at H ⊢; exact H)
           have hji51w : (IntKind.i64.wrap ((l1.length : Int) - 1)) = ji51 := (i64_w _).trans hji51
           by_cases c52 : 0 ≤ (ji51)
           ·rw [if_pos c52] at H
            have b4 := eq_true c52
            have b5 : decide (0 ≤ (ji51)) = true := decide_eq_true c52
            clear c52
            by_cases c53 : (ji51) ≤ (l1.length : Int)
            ·rw [if_pos c53] at H
             have b6 := eq_true c53
             have b7 : decide ((ji51) ≤ (l1.length : Int)) = true := decide_eq_true c53
             clear c53; replace H := bi_ H; obtain ⟨al, A540, H⟩ := H
             replace H : (lodgerlaw26_GaugeBars.l1 kj42 am al 0 0) = some r := H
             have A54 := Aside0.mk A540; clear A540
             have H' := Aside0.mk H
             clear H
             try go_wp2
             replace ac := Aside0.mk (blk_drew ac.out); replace HB := Aside0.mk (below_drew1 HB.out); obtain ⟨i056, hi056, _, hsz56, _⟩ := info_parts info3; obtain ⟨hcut56, hA56, hC56⟩ := print_take_of (P := Try.prog) (Value.int .i64) 0 25 3 .i64 Try.underlying25 hi056 hsz56 A1 c1 l1 (ji51) od_ od_ bR.out; have bW := Aside0.mk (Kd.C_of_reads (h1 := fun _ => rfl) (hA56 _ (Kd.reads_of_C bS.out))); have b2 := Aside0.mk hC56; clear hA56 hC56 hi056 hsz56
             refine start_ (n := 10) (S := fun w' => L7_ w' aW (.int .u32 ae) (.int .i64 af) (.slice ao ad.length ap) (.int .i64 ag) (.int .i64 ah) (.int .i64 ai) (.int .i64 aj)) (ds := []) (tf 10 0) (by kernel_rfl) rfl rfl (cl7_ ac) (fun hHeld => ?_); refine with_tabW lodgerlaw26_GaugeBars.tab16 lodgerlaw26_GaugeBars.bits16 (fun HT_ HW_ => ?_)
             generalize wc.drew = w55 at ac HB bW hHeld ⊢
             refine puU_ 1 93 (tf 10 2) HT_ ?_; refine puU_ 2 94 (tf 10 6) HT_ ?_; refine puU_ 3 95 (tf 10 14) HT_ ?_; refine puU_ 4 96 (tf 10 30) HT_ ?_; refine puU_ 5 97 (tf 10 62) HT_ ?_; refine puU_ 6 98 (tf 10 126) HT_ ?_; refine puU_ 7 99 (tf 10 254) HT_ ?_; refine tkU_ 0 92 (tf 10 255) rfl rfl HT_ HW_ hHeld (by rintro w' ⟨s0, s1, s2, s3, s4, s5, s6⟩; go_simp; with_reducible rfl) ?_
             refine on_ (i := 8) (N := some 100) (tf 10 511) HT_ (fun K hK => ?_)
             refine goes_ Try.func13 (by kernel_rfl) rfl #[.agg #[.int .u32 ae, .int .i64 af, .slice ao ad.length ap, .int .i64 ag, .int .i64 ah, .int .i64 ai, .int .i64 aj], .slice A1 (l1.take ((ji51) : Int).toNat).length c1, .int .i64 (wrap64 (a2))] (by rfl) rfl rfl (by (try simp only [List.map_toArray, List.map_cons, List.map_nil]); first | done | (rw [show (l1.take ((ji51) : Int).toNat).length = (ji51).toNat from (by rw [List.length_take]; have h_ : ((ji51) : Int) ≤ (l1.length : Int) := od_; omega)] <;> rfl) | (simp only [hji51]; rfl) | rfl | (simp only [List.length_drop, List.length_take]; rfl)) ?_
             with_reducible refine (gauge_Bar.calls kj42 ae af _ _ ad ag ah ai aj _ _ (l1.take ((ji51) : Int).toNat) (wrap64 (a2)) al _ ?side1 ?side2 ?side3 ?side4 A54.out).mono ?_
             (case side1 => exact cC_ bd HB)
             (case side2 => exact bc.out)
             (case side3 => exact cC_ bW HB)
             (case side4 => exact b2.out)
             rintro e w57 ⟨rfl, hb⟩
             refine ⟨_, rfl, ?_⟩
             replace ac := bB_ ac hb; replace HB := hS_ HB hb
             (try clear hb)
             (try clear hb2)
             (try clear hk)
             (try clear hi)
             refine hK.out _ _ (cl7_ ac) (fun hHeld => ?_)
             clear hK K
             refine norm_ (a' := ?_) ?_ ?_
             rotate_left
             ·show Act.put _ (some 100) _ = _
              simp only [Act.put, List.setIfInBounds_toArray, List.set_cons_zero, List.set_cons_succ, i64_w, i32_w]
              rfl
             refine puU_ 9 10 (tf 10 1023) HT_ ?_
             refine done_ (done_of HT_.out (by kernel_rfl)) ?_
             try go_wp2
             go_loopg [11, 12] kj42 (fun kq v11 v12 w' => ∃ (bf ak : Int), v11 = .int .i64 bf ∧ v12 = .int .i64 ak ∧ Aside0 (lodgerlaw26_GaugeBars.l1 kq am al bf ak = some r) ∧ Aside0 (kq ≤ kj42) ∧ Aside0 (w'.heap[aW]? = some (.cells #[.int .u32 ae, .int .i64 af, (.slice ao ad.length ap), .int .i64 ag, .int .i64 ah, .int .i64 ai, .int .i64 aj] 27 (0, 0))) ∧ Aside0 (Below w.heap.size w w'))
             case atStart => exact ⟨(0), (0), rs_, rs_, H', ⟨Nat.le_refl _⟩, ⟨bk_ ac⟩, ⟨hB_ HB⟩⟩
             case round =>
              clear H'
              try clear c1
              try clear c2
              try clear p2
              try clear q2
              try clear hx2
              try clear c3
              try clear p3
              try clear q3
              try clear hx3
              try clear c4
              try clear p4
              try clear q4
              try clear hx4
              try clear c5
              try clear p6
              try clear c7
              try clear c9
              try clear c13
              try clear c17
              try clear c23
              try clear bi
              try clear c25
              try clear be
              try clear p26
              try clear q26
              try clear hx26
              try clear c27
              try clear bj
              try clear bk
              try clear c28
              try clear bl
              try clear p29
              try clear q29
              try clear hx29
              try clear c31
              try clear bI
              try clear c32
              try clear bJ
              try clear p33
              try clear q33
              try clear hx33
              try clear p34
              try clear q34
              try clear hx34
              try clear c35
              try clear bm
              try clear bn
              try clear c36
              try clear bo
              try clear p37
              try clear q37
              try clear hx37
              try clear c38
              try clear c39
              try clear bX
              try clear c40
              try clear bY
              try clear p41
              try clear q41
              try clear hx41
              try clear c42
              try clear bK
              try clear bL
              try clear c44
              try clear aU
              try clear bM
              try clear c45
              try clear bN
              try clear bO
              try clear c49
              try clear c50
              try clear bZ
              try clear b0
              try clear b3
              try clear c52
              try clear b4
              try clear b5
              try clear c53
              try clear b6
              try clear b7
              try clear aq ar au av aw ax ay
              try clear az aA aB aC aD aE aF
              try clear aX aY aZ a0 a1 a3 a4
              try clear bq br bs bu bv bw bx
              try clear aG aH aI aJ aK aL aM
              try clear aN aO aP aQ aR aS aT
              try clear a5 a6 a7 a8 a9 ba bb
              try clear bz bA bB bC bD bE bF
              try clear p2
              try clear p26
              try clear p29
              try clear p3
              try clear p33
              try clear p34
              try clear p37
              try clear p4
              try clear p41
              try clear p6
              try clear q2
              try clear q26
              try clear q29
              try clear q3
              try clear q33
              try clear q34
              try clear q37
              try clear q4
              try clear q41
              obtain ⟨bf, ak, rfl, rfl, HA, HK4, ac, HB⟩ := hrel
              cases gk with
              | zero => exact absurd HA.out (by simp [lodgerlaw26_GaugeBars.l1])
              | succ k4 =>
               have H := HA.out; clear HA; simp only [lodgerlaw26_GaugeBars.l1] at H
               by_cases c58 : ak < (al.size : Int)
               ·rw [if_pos c58] at H
                have b8 : decide (ak < (al.size : Int)) = true := decide_eq_true c58
                clear c58
                by_cases c59 : 0 ≤ ak
                ·rw [if_pos c59] at H
                 have cd : decide (0 ≤ ak) = true := decide_eq_true c59
                 clear c59
                 by_cases c61 : (bt al ak) = 35
                 ·rw [if_pos c61] at H
                  have b9 : ((bt al ak) == 35) = true := beq_iff_eq.mpr c61
                  have ca : ((bt al ak) != 35) = false := bne_eq_false_iff_eq.mpr c61
                  clear c61
                  have H' := Aside0.mk H
                  clear H
                  have p60 : 0 ≤ (ak : Int) := od_
                  have q60 : ak < (al.size : Int) := od_
                  have hx60 := bt_at al ak; replace p60 := eq_true p60; replace q60 := eq_true q60
                  go_wp2
                  go_roundg k4
                  case measure => have := an.out; have := HK2.out; have := bH.out; have := HK4.out; omega
                  case rel => exact ⟨(wrap64 (bf + 1)), (wrap64 (ak + 1)), rs_, rs_, H', ⟨by have := an.out; have := HK2.out; have := bH.out; have := HK4.out; omega⟩, ⟨bk_ ac⟩, ⟨hB_ HB⟩⟩
                 ·rw [if_neg c61] at H
                  have b9 : ((bt al ak) == 35) = false := beq_eq_false_iff_ne.mpr c61
                  have ca : ((bt al ak) != 35) = true := bne_iff_ne.mpr c61
                  have H' := Aside0.mk H
                  clear H
                  have p60 : 0 ≤ (ak : Int) := od_
                  have q60 : ak < (al.size : Int) := od_
                  have hx60 := bt_at al ak; replace p60 := eq_true p60; replace q60 := eq_true q60
                  go_wp2
                  go_roundg k4
                  case measure => have := an.out; have := HK2.out; have := bH.out; have := HK4.out; omega
                  case rel => exact ⟨(bf), (wrap64 (ak + 1)), rs_, rs_, H', ⟨by have := an.out; have := HK2.out; have := bH.out; have := HK4.out; omega⟩, ⟨bk_ ac⟩, ⟨hB_ HB⟩⟩
                ·rw [if_neg c59] at H
                 exact absurd H (by simp)
               ·rw [if_neg c58] at H
                have b8 : decide (ak < (al.size : Int)) = false := decide_eq_false c58
                clear c58
                first | (exfalso; rw [hr_.out] at H; exact absurd (Option.some.inj H) (by decide)) | (try clear hr_)
                all_goals
                 obtain rfl := Option.some.inj H
                 go_wp2
                 go_ret
                 exact ⟨by first | rfl | (simp [errW_none, errW_some] <;> rfl) | (simp only [← hji51]; first | rfl | (simp [errW_none, errW_some] <;> rfl)) | (simp [*, errW_none, errW_some] <;> rfl), hB_ HB⟩
            ·rw [if_neg c53] at H
             exact absurd H (by simp)
           ·rw [if_neg c52] at H
            exact absurd H (by simp)

/-- THE ONE PURE STATEMENT of lodgerlaw26_GaugeBars: yours. -/
def lodgerlaw26_GaugeBars.Pure : Prop := ∀ (a0_0 a0_1 : Int) (l0_2 : List Int) (a0_3 a0_4 : Int) (a0_5 a0_6 : Int) (l1 : List Int) (a2 : Int), (Lit.int .u32 a0_0).wf = true → (Lit.int .i64 a0_1).wf = true → l0_2.length ≤ maxLen → (∀ x ∈ l0_2, (Lit.int .i64 x).wf = true) → (Lit.int .i64 a0_3).wf = true → (Lit.int .i64 a0_4).wf = true → (Lit.int .i64 a0_5).wf = true → (Lit.int .i64 a0_6).wf = true → l1.length ≤ maxLen → l1.length * 8 ≤ 140737488351232 → (∀ x ∈ l1, (Lit.int .i64 x).wf = true) → (Lit.int .u8 a2).wf = true → ∃ k, lodgerlaw26_GaugeBars.f k a0_0 a0_1 l0_2 a0_3 a0_4 a0_5 a0_6 l1 a2 = some true
theorem lodgerlaw26_GaugeBars.walk (P : lodgerlaw26_GaugeBars.Pure) (a0_0 a0_1 : Int) (a0_2 : Option Addr) (len0_2 cap0_2 : Nat) (z0_2 : List Int) (a0_3 a0_4 : Int) (a0_5 a0_6 : Int) (a1 : Option Addr) (len1 cap1 : Nat) (z1 : List Int) (a2 : Int) (w : World) (w0_0 : (Lit.int .u32 a0_0).wf = true) (w0_1 : (Lit.int .i64 a0_1).wf = true) (w0_2 : (a0_2 = none ∧ len0_2 = 0 ∧ cap0_2 = 0 ∧ z0_2 = []) ∨ ∃ x, a0_2 = some x ∧ len0_2 ≤ cap0_2 ∧ cap0_2 ≤ maxLen ∧ z0_2.length = cap0_2 ∧ (∀ i, i < z0_2.length → w.cell? (x.add i) = some (.int .i64 (z0_2.getD i 0))) ∧ ∀ n ∈ z0_2, (Lit.int .i64 n).wf = true) (w0_3 : (Lit.int .i64 a0_3).wf = true) (w0_4 : (Lit.int .i64 a0_4).wf = true) (w0_5 : (Lit.int .i64 a0_5).wf = true) (w0_6 : (Lit.int .i64 a0_6).wf = true) (w1 : (a1 = none ∧ len1 = 0 ∧ cap1 = 0 ∧ z1 = []) ∨ ∃ x, a1 = some x ∧ len1 ≤ cap1 ∧ cap1 ≤ maxLen ∧ z1.length = cap1 ∧ (∀ i, i < z1.length → w.cell? (x.add i) = some (.int .i64 (z1.getD i 0))) ∧ ∀ n ∈ z1, (Lit.int .i64 n).wf = true) (y1 : len1 * 8 ≤ 140737488351232) (w2 : (Lit.int .u8 a2).wf = true) :
  Calls Try.prog 5 #[.agg #[.int .u32 a0_0, .int .i64 a0_1, .slice a0_2 len0_2 cap0_2, .int .i64 a0_3, .int .i64 a0_4, .int .i64 a0_5, .int .i64 a0_6], .slice a1 len1 cap1, .int .u8 a2] w fun e w' => e = .returned (.bool true) ∧ Below w.heap.size w w' := by
 obtain ⟨l0_2, rfl, hr0_2, hm0_2, hw0_2, hc0_2⟩ := ReadsInt.ofRowC w0_2
 obtain ⟨l1, rfl, hr1, hm1, hw1, hc1⟩ := ReadsInt.ofRowC w1
 obtain ⟨k, h⟩ := P a0_0 a0_1 l0_2 a0_3 a0_4 a0_5 a0_6 l1 a2 w0_0 w0_1 hm0_2 hw0_2 w0_3 w0_4 w0_5 w0_6 hm1 y1 hw1 w2
 refine (lodgerlaw26_GaugeBars.calls k a0_0 a0_1 _ _ l0_2 a0_3 a0_4 a0_5 a0_6 _ _ l1 a2 true w (Kd.C_of_reads (d := (0 : Int)) (h1 := fun _ => rfl) hr0_2) hc0_2 (Kd.C_of_reads (d := (0 : Int)) (h1 := fun _ => rfl) hr1) hc1 rfl h).mono ?_
 rintro e w' ⟨rfl, hd⟩
 exact ⟨rfl, hd⟩

end Go.Proofs.Ytepgjabpoabjnaa.PGaugeBars
