/- The walk of GaugeOrder, part of it: what the Go functions answer; no condition. -/
import Derived.Test.YtepgjabpoabjnaaQGaugeOrderx0
import Derived.Test.YtepgjabpoabjnaaQGaugeOrderx1
import Derived.Test.YtepgjabpoabjnaaQGaugeOrderx2
import Derived.Test.YtepgjabpoabjnaaQGaugeOrderx6
namespace Go.Proofs.Ytepgjabpoabjnaa.PGaugeOrder
open Go.RowKit Go.Proofs.YtepgjabpoabjnaaW.PrintWords Go.Proofs.YtepgjabpoabjnaaW.PrintLast Go.Proofs.YtepgjabpoabjnaaW.PrintMore
attribute [local go_sem] max2_int min2_int max_two min_two max_three min_three max_four min_four   -- for this text's walks alone
set_option linter.unusedVariables false
set_option linter.unusedSimpArgs false

/-! ### lodgerlaw26_GaugeOrder: function 4 -/
mutual
def lodgerlaw26_GaugeOrder.j0 : Nat → List Int → Nat → Nat → Bool → Int → Int → List Int → Int → Int → Int → Int → Option (Bool)
 | 0, _, _, _, _, _, _, _, _, _, _, _ => none
 | k + 1, x1, x2, x3, x25, x193000, x193001, x193002, x193003, x193004, x193005, x193006 => if x25 = true then ((lodgerlaw26_awake.f k).bind fun t195 => (some t195)) else ((gauge_Of.f x193000 x193001 x193002 x193003 x193004 x193005 x193006 x1).bind fun t196 => (if (flt t196 0) = true then (lodgerlaw26_GaugeOrder.j1 k x1 x2 x3 t196 true x193000 x193001 x193002 x193003 x193004 x193005 x193006) else (if (fgt t196 4607182418800017408) = true then (lodgerlaw26_GaugeOrder.j1 k x1 x2 x3 t196 true x193000 x193001 x193002 x193003 x193004 x193005 x193006) else (if (fne t196 t196) = true then (lodgerlaw26_GaugeOrder.j1 k x1 x2 x3 t196 true x193000 x193001 x193002 x193003 x193004 x193005 x193006) else ((lodgerref09_Full.f k x193000 x193001 x193002 x193003 x193004 x193005 x193006 x1).bind fun t197 => (if ((feq t196 4607182418800017408) != t197) = true then (lodgerlaw26_GaugeOrder.j1 k x1 x2 x3 t196 true x193000 x193001 x193002 x193003 x193004 x193005 x193006) else (if (x1.length : Int) = 0 then ((lodgerref26_Usable.f k x193000 x193001 x193002 x193003 x193004 x193005 x193006).bind fun t198 => (if t198 > 0 then (lodgerlaw26_GaugeOrder.j1 k x1 x2 x3 t196 (fne t196 0) x193000 x193001 x193002 x193003 x193004 x193005 x193006) else (lodgerlaw26_GaugeOrder.j1 k x1 x2 x3 t196 false x193000 x193001 x193002 x193003 x193004 x193005 x193006))) else (lodgerlaw26_GaugeOrder.j1 k x1 x2 x3 t196 false x193000 x193001 x193002 x193003 x193004 x193005 x193006))))))))
def lodgerlaw26_GaugeOrder.j1 : Nat → List Int → Nat → Nat → Nat → Bool → Int → Int → List Int → Int → Int → Int → Int → Option (Bool)
 | 0, _, _, _, _, _, _, _, _, _, _, _, _ => none
 | k + 1, x1, x2, x3, x9, x62, x193000, x193001, x193002, x193003, x193004, x193005, x193006 => if x62 = true then (some false) else (if (x1.length : Int) > 0 then (if 0 ≤ (wrap64 ((x1.length : Int) - 1)) then (if (wrap64 ((x1.length : Int) - 1)) ≤ (x1.length : Int) then ((gauge_Of.f x193000 x193001 x193002 x193003 x193004 x193005 x193006 (x1.take ((wrap64 ((x1.length : Int) - 1)) : Int).toNat)).bind fun t200 => (lodgerlaw26_GaugeOrder.j2 k x1 x2 x3 x9 (fge t200 x9) x193000 x193001 x193002 x193003 x193004 x193005 x193006)) else (none)) else (none)) else (lodgerlaw26_GaugeOrder.j2 k x1 x2 x3 x9 false x193000 x193001 x193002 x193003 x193004 x193005 x193006))
def lodgerlaw26_GaugeOrder.j2 : Nat → List Int → Nat → Nat → Nat → Bool → Int → Int → List Int → Int → Int → Int → Int → Option (Bool)
 | 0, _, _, _, _, _, _, _, _, _, _, _, _ => none
 | k + 1, x1, x2, x3, x9, x76, x193000, x193001, x193002, x193003, x193004, x193005, x193006 => if x76 = true then (some false) else ((gauge_Above.f x193000 x193001 x193002 x193003 x193004 x193005 x193006 x1 x2).bind fun bt201 => ((gauge_Above.f x193000 x193001 x193002 x193003 x193004 x193005 x193006 x1 x3).bind fun bt203 => ((gauge_Least.f k x193000 x193001 x193002 x193003 x193004 x193005 x193006 x2).bind fun bt205 => (if bt201.2 = bt205.2 then (if bt201.2 = 0 then (if (bt201.1 != (decide ((x1.length : Int) ≥ bt205.1))) = true then ((lodgerref26_Usable.f k x193000 x193001 x193002 x193003 x193004 x193005 x193006).bind fun t207 => (lodgerlaw26_GaugeOrder.j3 k x1 x2 x3 x9 bt201.1 bt201.2 bt203.1 bt203.2 (decide (t207 > 0)) x193000 x193001 x193002 x193003 x193004 x193005 x193006)) else (lodgerlaw26_GaugeOrder.j3 k x1 x2 x3 x9 bt201.1 bt201.2 bt203.1 bt203.2 false x193000 x193001 x193002 x193003 x193004 x193005 x193006)) else (lodgerlaw26_GaugeOrder.j3 k x1 x2 x3 x9 bt201.1 bt201.2 bt203.1 bt203.2 false x193000 x193001 x193002 x193003 x193004 x193005 x193006)) else (lodgerlaw26_GaugeOrder.j3 k x1 x2 x3 x9 bt201.1 bt201.2 bt203.1 bt203.2 true x193000 x193001 x193002 x193003 x193004 x193005 x193006)))))
def lodgerlaw26_GaugeOrder.j3 : Nat → List Int → Nat → Nat → Nat → Bool → Int → Bool → Int → Bool → Int → Int → List Int → Int → Int → Int → Int → Option (Bool)
 | 0, _, _, _, _, _, _, _, _, _, _, _, _, _, _, _, _ => none
 | k + 1, x1, x2, x3, x9, x10, x11, x12, x13, x116, x193000, x193001, x193002, x193003, x193004, x193005, x193006 => if x116 = true then (some false) else (if x11 = 0 then (if x13 = 0 then (if (fle x2 x3) = true then (if x12 = true then (if x10 = true then ((gauge_Above.f x193000 x193001 x193002 x193003 x193004 x193005 x193006 x1 x9).bind fun bt208 => (if bt208.1 = true then (if (fge x2 0) = true then (some ((x11 == 0) == (fle x2 4607182418800017408))) else (some ((x11 == 0) == false))) else (some false))) else (some false)) else ((gauge_Above.f x193000 x193001 x193002 x193003 x193004 x193005 x193006 x1 x9).bind fun bt210 => (if bt210.1 = true then (if (fge x2 0) = true then (some ((x11 == 0) == (fle x2 4607182418800017408))) else (some ((x11 == 0) == false))) else (some false)))) else ((gauge_Above.f x193000 x193001 x193002 x193003 x193004 x193005 x193006 x1 x9).bind fun bt212 => (if bt212.1 = true then (if (fge x2 0) = true then (some ((x11 == 0) == (fle x2 4607182418800017408))) else (some ((x11 == 0) == false))) else (some false)))) else ((gauge_Above.f x193000 x193001 x193002 x193003 x193004 x193005 x193006 x1 x9).bind fun bt214 => (if bt214.1 = true then (if (fge x2 0) = true then (some ((x11 == 0) == (fle x2 4607182418800017408))) else (some ((x11 == 0) == false))) else (some false)))) else ((gauge_Above.f x193000 x193001 x193002 x193003 x193004 x193005 x193006 x1 x9).bind fun bt216 => (if bt216.1 = true then (if (fge x2 0) = true then (some ((x11 == 0) == (fle x2 4607182418800017408))) else (some ((x11 == 0) == false))) else (some false))))
end
def lodgerlaw26_GaugeOrder.f (k : Nat) (a0_0 a0_1 : Int) (l0_2 : List Int) (a0_3 a0_4 : Int) (a0_5 a0_6 : Int) (l1 : List Int) (a2 a3 : Nat) : Option (Bool) := (lodgerlaw26_awake.f k).bind fun t193 => (if t193 = true then ((lodgerref11_Fits.f k a0_0 a0_1 l0_2 a0_3 a0_4 a0_5 a0_6 l1).bind fun t194 => (lodgerlaw26_GaugeOrder.j0 k l1 a2 a3 (!t194) a0_0 a0_1 l0_2 a0_3 a0_4 a0_5 a0_6)) else (lodgerlaw26_GaugeOrder.j0 k l1 a2 a3 true a0_0 a0_1 l0_2 a0_3 a0_4 a0_5 a0_6))
theorem lodgerlaw26_GaugeOrder.mono_l : ∀ k, (∀ y0 y1 y2 y3 y4 y5 y6 y7 y8 y9 y10, LeO (lodgerlaw26_GaugeOrder.j0 k y0 y1 y2 y3 y4 y5 y6 y7 y8 y9 y10) (lodgerlaw26_GaugeOrder.j0 (k + 1) y0 y1 y2 y3 y4 y5 y6 y7 y8 y9 y10)) ∧ (∀ y0 y1 y2 y3 y4 y5 y6 y7 y8 y9 y10 y11, LeO (lodgerlaw26_GaugeOrder.j1 k y0 y1 y2 y3 y4 y5 y6 y7 y8 y9 y10 y11) (lodgerlaw26_GaugeOrder.j1 (k + 1) y0 y1 y2 y3 y4 y5 y6 y7 y8 y9 y10 y11)) ∧ (∀ y0 y1 y2 y3 y4 y5 y6 y7 y8 y9 y10 y11, LeO (lodgerlaw26_GaugeOrder.j2 k y0 y1 y2 y3 y4 y5 y6 y7 y8 y9 y10 y11) (lodgerlaw26_GaugeOrder.j2 (k + 1) y0 y1 y2 y3 y4 y5 y6 y7 y8 y9 y10 y11)) ∧ (∀ y0 y1 y2 y3 y4 y5 y6 y7 y8 y9 y10 y11 y12 y13 y14 y15, LeO (lodgerlaw26_GaugeOrder.j3 k y0 y1 y2 y3 y4 y5 y6 y7 y8 y9 y10 y11 y12 y13 y14 y15) (lodgerlaw26_GaugeOrder.j3 (k + 1) y0 y1 y2 y3 y4 y5 y6 y7 y8 y9 y10 y11 y12 y13 y14 y15))
 | 0 => ⟨fun _ _ _ _ _ _ _ _ _ _ _ r h => by simp [lodgerlaw26_GaugeOrder.j0] at h, fun _ _ _ _ _ _ _ _ _ _ _ _ r h => by simp [lodgerlaw26_GaugeOrder.j1] at h, fun _ _ _ _ _ _ _ _ _ _ _ _ r h => by simp [lodgerlaw26_GaugeOrder.j2] at h, fun _ _ _ _ _ _ _ _ _ _ _ _ _ _ _ _ r h => by simp [lodgerlaw26_GaugeOrder.j3] at h⟩
 | k + 1 => by
  obtain ⟨ih0, ih1, ih2, ih3⟩ := lodgerlaw26_GaugeOrder.mono_l k
  refine ⟨?_, ?_, ?_, ?_⟩
  ·intro y0 y1 y2 y3 y4 y5 y6 y7 y8 y9 y10
   unfold lodgerlaw26_GaugeOrder.j0
   repeat' (with_reducible first | apply ih0 | apply ih1 | apply ih2 | apply ih3 | apply gauge_Least.mono | apply lodgerlaw26_awake.mono | apply lodgerref09_Full.mono | apply lodgerref11_Fits.mono | apply lodgerref26_Usable.mono | exact LeO.refl _ | exact LeO.none _ | refine LeO.ite ?_ ?_ | refine LeO.bind ?_ (fun _ => ?_))
  ·intro y0 y1 y2 y3 y4 y5 y6 y7 y8 y9 y10 y11
   unfold lodgerlaw26_GaugeOrder.j1
   repeat' (with_reducible first | apply ih0 | apply ih1 | apply ih2 | apply ih3 | apply gauge_Least.mono | apply lodgerlaw26_awake.mono | apply lodgerref09_Full.mono | apply lodgerref11_Fits.mono | apply lodgerref26_Usable.mono | exact LeO.refl _ | exact LeO.none _ | refine LeO.ite ?_ ?_ | refine LeO.bind ?_ (fun _ => ?_))
  ·intro y0 y1 y2 y3 y4 y5 y6 y7 y8 y9 y10 y11
   unfold lodgerlaw26_GaugeOrder.j2
   repeat' (with_reducible first | apply ih0 | apply ih1 | apply ih2 | apply ih3 | apply gauge_Least.mono | apply lodgerlaw26_awake.mono | apply lodgerref09_Full.mono | apply lodgerref11_Fits.mono | apply lodgerref26_Usable.mono | exact LeO.refl _ | exact LeO.none _ | refine LeO.ite ?_ ?_ | refine LeO.bind ?_ (fun _ => ?_))
  ·intro y0 y1 y2 y3 y4 y5 y6 y7 y8 y9 y10 y11 y12 y13 y14 y15
   unfold lodgerlaw26_GaugeOrder.j3
   repeat' (with_reducible first | apply ih0 | apply ih1 | apply ih2 | apply ih3 | apply gauge_Least.mono | apply lodgerlaw26_awake.mono | apply lodgerref09_Full.mono | apply lodgerref11_Fits.mono | apply lodgerref26_Usable.mono | exact LeO.refl _ | exact LeO.none _ | refine LeO.ite ?_ ?_ | refine LeO.bind ?_ (fun _ => ?_))
theorem lodgerlaw26_GaugeOrder.mono : ∀ a0 a1 a2 a3 a4 a5 a6 a7 a8 a9 k, LeO (lodgerlaw26_GaugeOrder.f k a0 a1 a2 a3 a4 a5 a6 a7 a8 a9) (lodgerlaw26_GaugeOrder.f (k + 1) a0 a1 a2 a3 a4 a5 a6 a7 a8 a9) := by
 intro a0 a1 a2 a3 a4 a5 a6 a7 a8 a9 k
 obtain ⟨ih0, ih1, ih2, ih3⟩ := lodgerlaw26_GaugeOrder.mono_l k
 unfold lodgerlaw26_GaugeOrder.f
 repeat' (with_reducible first | apply ih0 | apply ih1 | apply ih2 | apply ih3 | apply gauge_Least.mono | apply lodgerlaw26_awake.mono | apply lodgerref09_Full.mono | apply lodgerref11_Fits.mono | apply lodgerref26_Usable.mono | exact LeO.refl _ | exact LeO.none _ | refine LeO.ite ?_ ?_ | refine LeO.bind ?_ (fun _ => ?_))
def lodgerlaw26_GaugeOrder.T6 : Bool × List (List Nat × List Nat) := (true, [([], []), ([0], [0]), ([1], [1]), ([2], [2]), ([3], [3]), ([3], [3]), ([3], [3]), ([6, 3], [3, 6]), ([7, 3], [3, 7]), ([5, 8, 3], [3, 5, 8]), ([4, 9, 3, 3], [3, 4, 9]), ([3], [3]), ([10, 11, 3], [3, 10, 11]), ([3, 12], [3, 12])])
def lodgerlaw26_GaugeOrder.B6 : List Nat := [0, 1, 3, 7, 15, 15, 15, 79, 207, 495, 1023, 15, 4095, 8191]
theorem lodgerlaw26_GaugeOrder.tab6 : rtab .any (opsOf Try.f4 6) = lodgerlaw26_GaugeOrder.T6 := by kernel_rfl
theorem lodgerlaw26_GaugeOrder.bits6 : waitsOk lodgerlaw26_GaugeOrder.T6.2 lodgerlaw26_GaugeOrder.B6 = true := by kernel_rfl
set_option maxHeartbeats 8000000 in
set_option maxRecDepth 100000 in
theorem lodgerlaw26_GaugeOrder.calls (k : Nat) (ab ac : Int) (an : Option Addr) (ao : Nat) (aa : List Int) (ad ae : Int) (af ag : Int) (A1 : Option Addr) (c1 : Nat) (l1 : List Int) (a2 a3 : Nat) (r : Bool) (w : World) (hr0_2 : Kd.C (Kd.int .i64) w an aa.length aa) (hc0_2 : aa.length ≤ ao) (hr1 : Kd.C (Kd.int .i64) w A1 l1.length l1) (hc1 : l1.length ≤ c1) (hr_ : r = true) (h : lodgerlaw26_GaugeOrder.f k ab ac aa ad ae af ag l1 a2 a3 = some r) :
  Calls Try.prog 4 #[.agg #[.int .u32 ab, .int .i64 ac, .slice an aa.length ao, .int .i64 ad, .int .i64 ae, .int .i64 af, .int .i64 ag], .slice A1 l1.length c1, .float .f64 a2, .float .f64 a3] w fun e w' => e = .returned (.bool r) ∧ Below w.heap.size w w' := by
 have hu27 := Try.underlying27
 have al := Aside0.mk hr0_2
 have ak := Aside0.mk hc0_2
 clear hr0_2 hc0_2
 have au := Aside0.mk hr1
 have ar := Aside0.mk hc1
 clear hr1 hc1
 have HB := Aside0.mk (Below.refl w.heap.size w)
 replace hr_ := Aside0.mk hr_
 have H : ((lodgerlaw26_awake.f k).bind fun cP => (if cP = true then ((lodgerref11_Fits.f k ab ac aa ad ae af ag l1).bind fun aC => (lodgerlaw26_GaugeOrder.j0 k l1 a2 a3 (!aC) ab ac aa ad ae af ag)) else (lodgerlaw26_GaugeOrder.j0 k l1 a2 a3 true ab ac aa ad ae af ag))) = some r := h
 clear h
 have ea := Aside0.mk H
 clear H
 go_enter Try.func4, Try.ntmps4
 go_upto_region 1 with (first | ((with_reducible refine gd_ 4 ?_); (try (refine gate_guard (by rfl) ?_; dsimp only)); refine bx_ (N := 4) (cs := #[.int .u32 ab, .int .i64 ac, .slice an aa.length ao, .int .i64 ad, .int .i64 ae, .int .i64 af, .int .i64 ag]) (t := 27) ?_; intro aV hg w6 ah hb; have gQ := gG_ hg HB; have gP := gG_ hg HB; replace HB := hS_ HB hb; clear hb hg))
 (try simp only [Act.put, List.setIfInBounds_toArray, List.set_cons_zero, List.set_cons_succ])
 go_cut [25] (fun v25 wc => ∃ (kq : Nat) (cL : Bool), v25 = .bool cL ∧ Aside0 (lodgerlaw26_GaugeOrder.j0 kq l1 a2 a3 cL ab ac aa ad ae af ag = some r) ∧ Aside0 (kq ≤ k) ∧ Aside0 (wc.heap[aV]? = some (.cells #[.int .u32 ab, .int .i64 ac, (.slice an aa.length ao), .int .i64 ad, .int .i64 ae, .int .i64 af, .int .i64 ag] 27 (0, 0))) ∧ Aside0 (Below w.heap.size w wc))
 case first =>
  have H := ea.out; clear ea; replace H := bi_ H; obtain ⟨cP, A70, H⟩ := H
  replace H : (if cP = true then ((lodgerref11_Fits.f k ab ac aa ad ae af ag l1).bind fun aC => (lodgerlaw26_GaugeOrder.j0 k l1 a2 a3 (!aC) ab ac aa ad ae af ag)) else (lodgerlaw26_GaugeOrder.j0 k l1 a2 a3 true ab ac aa ad ae af ag)) = some r := H
  have A7 := Aside0.mk A70; clear A70
  by_cases c8 : cP = true
  ·subst c8
   have H1 : ((lodgerref11_Fits.f k ab ac aa ad ae af ag l1).bind fun aC => (lodgerlaw26_GaugeOrder.j0 k l1 a2 a3 (!aC) ab ac aa ad ae af ag)) = some r := pf_ rfl H
   clear H; have H := H1; clear H1; replace H := bi_ H; obtain ⟨aC, A90, H⟩ := H
   replace H : (lodgerlaw26_GaugeOrder.j0 k l1 a2 a3 (!aC) ab ac aa ad ae af ag) = some r := H
   have A9 := Aside0.mk A90; clear A90
   have H' := Aside0.mk H
   clear H
   go_wp2_with (first | ((with_reducible refine gate_callee (f := 7) rfl ?_); refine goesL_ (some 18) rfl rfl Try.func7 (by kernel_rfl) rfl #[] rfl am_ ?_; (with_reducible refine (lodgerlaw26_awake.calls k  true _ A7.out).mono ?_); rintro e w10 ⟨rfl, hb⟩; refine ⟨_, rfl, ?_⟩; replace HB := hS_ HB hb; replace ah := bB_ ah hb; (try clear hb); obtain ⟨aE, aF, aG, aH, aI, aJ, aK, aL, aM, aN, aO, aP, aQ, aR⟩ := cz7_ (w := w10) ah) | (go_at_call 8; (with_reducible refine (lodgerref11_Fits.calls k ab ac _ _ aa ad ae af ag _ _ l1 aC _ (cC_ al HB) ak.out (cC_ au HB) ar.out A9.out).mono ?_); rintro e w12 ⟨rfl, hb⟩; replace HB := hS_ HB hb; replace ah := bB_ ah hb; (try clear hb)))
   go_meet
   case rel => exact ⟨_, (!aC), rs_, H', ⟨by first | omega | exact Nat.le_refl _⟩, ⟨bk_ ah⟩, ⟨hB_ HB⟩⟩
  ·replace c8 := Bool.eq_false_iff.mpr c8
   subst c8
   have H1 : (lodgerlaw26_GaugeOrder.j0 k l1 a2 a3 true ab ac aa ad ae af ag) = some r := nf_ H
   clear H; have H := H1; clear H1
   have H' := Aside0.mk H
   clear H
   go_wp2_with (first | ((with_reducible refine gate_callee (f := 7) rfl ?_); refine goesL_ (some 18) rfl rfl Try.func7 (by kernel_rfl) rfl #[] rfl am_ ?_; (with_reducible refine (lodgerlaw26_awake.calls k  false _ A7.out).mono ?_); rintro e w13 ⟨rfl, hb⟩; refine ⟨_, rfl, ?_⟩; replace HB := hS_ HB hb; replace ah := bB_ ah hb; (try clear hb)))
   go_meet
   case rel => exact ⟨_, (true), rs_, H', ⟨by first | omega | exact Nat.le_refl _⟩, ⟨bk_ ah⟩, ⟨hB_ HB⟩⟩
 case rest =>
  clear ea
  try clear c1
  try clear p2
  try clear c4
  try clear c7
  try clear c8
  try clear aE aF aG aH aI aJ aK
  try clear aL aM aN aO aP aQ aR
  obtain ⟨kq, cL, rfl, HA, aA, ah, HB⟩ := hcut
  cases kq with
  | zero => exact absurd HA.out (by simp [lodgerlaw26_GaugeOrder.j0])
  | succ kj4 =>
   have H := HA.out; clear HA; simp only [lodgerlaw26_GaugeOrder.j0] at H
   by_cases c14 : cL = true
   ·subst c14
    have H1 : ((lodgerlaw26_awake.f kj4).bind fun cQ => (some cQ)) = some r := pf_ rfl H
    clear H; have H := H1; clear H1; replace H := bi_ H; obtain ⟨cQ, A150, H⟩ := H
    replace H : (some cQ) = some r := H
    have A15 := Aside0.mk A150; clear A150
    first | (exfalso; rw [hr_.out] at H; exact absurd (Option.some.inj H) (by decide)) | (try clear hr_)
    all_goals
     obtain rfl := Option.some.inj H
     go_wp2_with (first | ((with_reducible refine gate_callee (f := 7) rfl ?_); refine goesL_ (some 26) rfl rfl Try.func7 (by kernel_rfl) rfl #[] rfl am_ ?_; (with_reducible refine (lodgerlaw26_awake.calls kj4  cQ _ A15.out).mono ?_); rintro e w16 ⟨rfl, hb⟩; refine ⟨_, rfl, ?_⟩; replace HB := hS_ HB hb; replace ah := bB_ ah hb; (try clear hb)))
     go_ret
     exact ⟨er_, hB_ HB⟩
   ·replace c14 := Bool.eq_false_iff.mpr c14
    subst c14
    have H1 : ((gauge_Of.f ab ac aa ad ae af ag l1).bind fun ai => (if (flt ai 0) = true then (lodgerlaw26_GaugeOrder.j1 kj4 l1 a2 a3 ai true ab ac aa ad ae af ag) else (if (fgt ai 4607182418800017408) = true then (lodgerlaw26_GaugeOrder.j1 kj4 l1 a2 a3 ai true ab ac aa ad ae af ag) else (if (fne ai ai) = true then (lodgerlaw26_GaugeOrder.j1 kj4 l1 a2 a3 ai true ab ac aa ad ae af ag) else ((lodgerref09_Full.f kj4 ab ac aa ad ae af ag l1).bind fun ap => (if ((feq ai 4607182418800017408) != ap) = true then (lodgerlaw26_GaugeOrder.j1 kj4 l1 a2 a3 ai true ab ac aa ad ae af ag) else (if (l1.length : Int) = 0 then ((lodgerref26_Usable.f kj4 ab ac aa ad ae af ag).bind fun aw => (if aw > 0 then (lodgerlaw26_GaugeOrder.j1 kj4 l1 a2 a3 ai (fne ai 0) ab ac aa ad ae af ag) else (lodgerlaw26_GaugeOrder.j1 kj4 l1 a2 a3 ai false ab ac aa ad ae af ag))) else (lodgerlaw26_GaugeOrder.j1 kj4 l1 a2 a3 ai false ab ac aa ad ae af ag)))))))) = some r := nf_ H
    clear H; have H := H1; clear H1; replace H := bi_ H; obtain ⟨ai, A170, H⟩ := H
    replace H : (if (flt ai 0) = true then (lodgerlaw26_GaugeOrder.j1 kj4 l1 a2 a3 ai true ab ac aa ad ae af ag) else (if (fgt ai 4607182418800017408) = true then (lodgerlaw26_GaugeOrder.j1 kj4 l1 a2 a3 ai true ab ac aa ad ae af ag) else (if (fne ai ai) = true then (lodgerlaw26_GaugeOrder.j1 kj4 l1 a2 a3 ai true ab ac aa ad ae af ag) else ((lodgerref09_Full.f kj4 ab ac aa ad ae af ag l1).bind fun ap => (if ((feq ai 4607182418800017408) != ap) = true then (lodgerlaw26_GaugeOrder.j1 kj4 l1 a2 a3 ai true ab ac aa ad ae af ag) else (if (l1.length : Int) = 0 then ((lodgerref26_Usable.f kj4 ab ac aa ad ae af ag).bind fun aw => (if aw > 0 then (lodgerlaw26_GaugeOrder.j1 kj4 l1 a2 a3 ai (fne ai 0) ab ac aa ad ae af ag) else (lodgerlaw26_GaugeOrder.j1 kj4 l1 a2 a3 ai false ab ac aa ad ae af ag))) else (lodgerlaw26_GaugeOrder.j1 kj4 l1 a2 a3 ai false ab ac aa ad ae af ag))))))) = some r := H
    have A17 := Aside0.mk A170; clear A170; have cR := Aside0.mk H; clear H; obtain ⟨aZ, a0, a1, a4, a5, a6, a7, bP, bQ, bR, bS, bT, bU, bV⟩ := cz7_ (w := wc) ah
    go_upto_region 4 with (first | ((with_reducible refine gate_callee (f := 11) rfl ?_); refine goesL_ (some 29) rfl rfl Try.func11 (by kernel_rfl) rfl #[.agg #[.int .u32 ab, .int .i64 ac, .slice an aa.length ao, .int .i64 ad, .int .i64 ae, .int .i64 af, .int .i64 ag], .slice A1 l1.length c1] rfl am_ ?_; (with_reducible refine (gauge_Of.calls ab ac _ _ aa ad ae af ag _ _ l1 ai _ ?side1 ?side2 ?side3 ?side4 A17.out).mono ?_); (case side1 => exact cC_ al HB); (case side2 => exact ak.out); (case side3 => exact cC_ au HB); (case side4 => exact ar.out); rintro e w20 ⟨rfl, hb⟩; refine ⟨_, rfl, ?_⟩; replace HB := hS_ HB hb; replace ah := bB_ ah hb; (try clear hb)))
    (try simp only [Act.put, List.setIfInBounds_toArray, List.set_cons_zero, List.set_cons_succ])
    go_cut [62] (fun v62 wc => ∃ (kq : Nat) (aW : Bool), v62 = .bool aW ∧ Aside0 (lodgerlaw26_GaugeOrder.j1 kq l1 a2 a3 ai aW ab ac aa ad ae af ag = some r) ∧ Aside0 (kq ≤ kj4) ∧ Aside0 (wc.heap[aV]? = some (.cells #[.int .u32 ab, .int .i64 ac, (.slice an aa.length ao), .int .i64 ad, .int .i64 ae, .int .i64 af, .int .i64 ag] 27 (0, 0))) ∧ Aside0 (Below w.heap.size w wc))
    case first =>
     have H := cR.out; clear cR
     by_cases c21 : (flt ai 0) = true
     ·rw [if_pos c21] at H
      have ay : (flt ai 0) = true := c21
      clear c21
      (first | rw [ay] | (simp only [i64_w, i32_w]; rw [ay]) | skip)
      have H' := Aside0.mk H
      clear H
      go_wp2
      go_meet
      case rel => exact ⟨_, (true), rs_, H', ⟨by have := aA.out; first | omega | exact Nat.le_refl _⟩, ⟨bk_ ah⟩, ⟨hB_ HB⟩⟩
     ·rw [if_neg c21] at H
      have ay : (flt ai 0) = false := by simpa using c21
      clear c21
      (first | rw [ay] | (simp only [i64_w, i32_w]; rw [ay]) | skip)
      by_cases c22 : (fgt ai 4607182418800017408) = true
      ·rw [if_pos c22] at H
       have cD : (fgt ai 4607182418800017408) = true := c22
       clear c22
       have H' := Aside0.mk H
       clear H
       go_wp2
       go_meet
       case rel => exact ⟨_, (true), rs_, H', ⟨by have := aA.out; first | omega | exact Nat.le_refl _⟩, ⟨bk_ ah⟩, ⟨hB_ HB⟩⟩
      ·rw [if_neg c22] at H
       have cD : (fgt ai 4607182418800017408) = false := by simpa using c22
       clear c22
       by_cases c23 : (fne ai ai) = true
       ·rw [if_pos c23] at H
        have cE : (fne ai ai) = true := c23
        clear c23
        have H' := Aside0.mk H
        clear H
        go_wp2
        go_meet
        case rel => exact ⟨_, (true), rs_, H', ⟨by have := aA.out; first | omega | exact Nat.le_refl _⟩, ⟨bk_ ah⟩, ⟨hB_ HB⟩⟩
       ·rw [if_neg c23] at H
        have cE : (fne ai ai) = false := by simpa using c23
        clear c23; replace H := bi_ H; obtain ⟨ap, A240, H⟩ := H
        replace H : (if ((feq ai 4607182418800017408) != ap) = true then (lodgerlaw26_GaugeOrder.j1 kj4 l1 a2 a3 ai true ab ac aa ad ae af ag) else (if (l1.length : Int) = 0 then ((lodgerref26_Usable.f kj4 ab ac aa ad ae af ag).bind fun aw => (if aw > 0 then (lodgerlaw26_GaugeOrder.j1 kj4 l1 a2 a3 ai (fne ai 0) ab ac aa ad ae af ag) else (lodgerlaw26_GaugeOrder.j1 kj4 l1 a2 a3 ai false ab ac aa ad ae af ag))) else (lodgerlaw26_GaugeOrder.j1 kj4 l1 a2 a3 ai false ab ac aa ad ae af ag))) = some r := H
        have A24 := Aside0.mk A240; clear A240
        by_cases c25 : ((feq ai 4607182418800017408) != ap) = true
        ·rw [if_pos c25] at H
         have cF : ((feq ai 4607182418800017408) != ap) = true := c25
         (try (have cG : decide ((feq ai 4607182418800017408) = ap) = false := by simpa using c25))
         (try (have cH : ((feq ai 4607182418800017408) == ap) = false := by simpa using c25))
         (try (have gR : ¬ ((feq ai 4607182418800017408) = ap) := by simpa using c25))
         clear c25
         have H' := Aside0.mk H
         clear H; obtain ⟨a8, a9, ba, bb, bc, bd, be, bW, bX, bY, bZ, b0, b1, b2⟩ := cz7_ (w := w20) ah
         go_wp2_with (first | (go_at_call 17; (with_reducible refine (lodgerref09_Full.calls kj4 ab ac _ _ aa ad ae af ag _ _ l1 ap _ (cC_ al HB) ak.out (cC_ au HB) ar.out A24.out).mono ?_); rintro e w27 ⟨rfl, hb⟩; replace HB := hS_ HB hb; replace ah := bB_ ah hb; (try clear hb)))
         go_meet
         case rel => exact ⟨_, (true), rs_, H', ⟨by have := aA.out; first | omega | exact Nat.le_refl _⟩, ⟨bk_ ah⟩, ⟨hB_ HB⟩⟩
        ·rw [if_neg c25] at H
         have cF : ((feq ai 4607182418800017408) != ap) = false := by simpa using c25
         (try (have cG : decide ((feq ai 4607182418800017408) = ap) = true := by simpa using c25))
         (try (have cH : ((feq ai 4607182418800017408) == ap) = true := by simpa using c25))
         clear c25
         by_cases c28 : (l1.length : Int) = 0
         ·rw [if_pos c28] at H
          have cI : ((l1.length : Int) == 0) = true := beq_iff_eq.mpr c28
          have cJ : ((l1.length : Int) != 0) = false := bne_eq_false_iff_eq.mpr c28
          clear c28; replace H := bi_ H; obtain ⟨aw, A290, H⟩ := H
          replace H : (if aw > 0 then (lodgerlaw26_GaugeOrder.j1 kj4 l1 a2 a3 ai (fne ai 0) ab ac aa ad ae af ag) else (lodgerlaw26_GaugeOrder.j1 kj4 l1 a2 a3 ai false ab ac aa ad ae af ag)) = some r := H
          have A29 := Aside0.mk A290; clear A290
          by_cases c30 : aw > 0
          ·rw [if_pos c30] at H
           have cK : decide (0 < aw) = true := decide_eq_true c30
           clear c30
           have H' := Aside0.mk H
           clear H; obtain ⟨bf, bg, bh, bi, bj, bk, bl, b3, b4, b5, b6, b7, b8, b9⟩ := cz7_ (w := w20) ah
           go_wp2_with (first | (go_at_call 17; (with_reducible refine (lodgerref09_Full.calls kj4 ab ac _ _ aa ad ae af ag _ _ l1 ap _ (cC_ al HB) ak.out (cC_ au HB) ar.out A24.out).mono ?_); rintro e w32 ⟨rfl, hb⟩; replace HB := hS_ HB hb; replace ah := bB_ ah hb; (try clear hb); obtain ⟨bm, bn, bo, bp, bq, br, bs, ca, cb, cc, cd, ce, cf, cg⟩ := cz7_ (w := w32) ah) | (go_at_call 18; (with_reducible refine (lodgerref26_Usable.calls kj4 ab ac _ _ aa ad ae af ag aw _ (cC_ al HB) ak.out A29.out).mono ?_); rintro e w34 ⟨rfl, hb⟩; replace HB := hS_ HB hb; replace ah := bB_ ah hb; (try clear hb)))
           go_meet
           case rel => exact ⟨_, ((fne ai 0)), rs_, H', ⟨by have := aA.out; first | omega | exact Nat.le_refl _⟩, ⟨bk_ ah⟩, ⟨hB_ HB⟩⟩
          ·rw [if_neg c30] at H
           have cK : decide (0 < aw) = false := decide_eq_false c30
           clear c30
           have H' := Aside0.mk H
           clear H; obtain ⟨bt, bu, bv, bw, bx, bz, bA, ch, ci, cj, ck, cl, cm, cn⟩ := cz7_ (w := w20) ah
           go_wp2_with (first | (go_at_call 17; (with_reducible refine (lodgerref09_Full.calls kj4 ab ac _ _ aa ad ae af ag _ _ l1 ap _ (cC_ al HB) ak.out (cC_ au HB) ar.out A24.out).mono ?_); rintro e w36 ⟨rfl, hb⟩; replace HB := hS_ HB hb; replace ah := bB_ ah hb; (try clear hb); obtain ⟨bB, bC, bD, bE, bF, bG, bH, co, cp, cq, cr, ct, cu, cv⟩ := cz7_ (w := w36) ah) | (go_at_call 18; (with_reducible refine (lodgerref26_Usable.calls kj4 ab ac _ _ aa ad ae af ag aw _ (cC_ al HB) ak.out A29.out).mono ?_); rintro e w38 ⟨rfl, hb⟩; replace HB := hS_ HB hb; replace ah := bB_ ah hb; (try clear hb)))
           go_meet
           case rel => exact ⟨_, (false), rs_, H', ⟨by have := aA.out; first | omega | exact Nat.le_refl _⟩, ⟨bk_ ah⟩, ⟨hB_ HB⟩⟩
         ·rw [if_neg c28] at H
          have cI : ((l1.length : Int) == 0) = false := beq_eq_false_iff_ne.mpr c28
          have cJ : ((l1.length : Int) != 0) = true := bne_iff_ne.mpr c28
          have cN : ¬ (l1 = []) := fun h_ => c28 (by rw [h_]; rfl)
          have H' := Aside0.mk H
          clear H; obtain ⟨bI, bJ, bK, bL, bM, bN, bO, cw, cx, cy, cz, cA, cB, cC⟩ := cz7_ (w := w20) ah
          go_wp2_with (first | (go_at_call 17; (with_reducible refine (lodgerref09_Full.calls kj4 ab ac _ _ aa ad ae af ag _ _ l1 ap _ (cC_ al HB) ak.out (cC_ au HB) ar.out A24.out).mono ?_); rintro e w40 ⟨rfl, hb⟩; replace HB := hS_ HB hb; replace ah := bB_ ah hb; (try clear hb)))
          go_meet
          case rel => exact ⟨_, (false), rs_, H', ⟨by have := aA.out; first | omega | exact Nat.le_refl _⟩, ⟨bk_ ah⟩, ⟨hB_ HB⟩⟩
    case rest =>
     clear cR
     try clear c1
     try clear c2
     try clear p2
     try clear c3
     try clear c4
     try clear c7
     try clear c8
     try clear c11
     try clear c14
     try clear c21
     try clear ay
     try clear c22
     try clear cD
     try clear c23
     try clear cE
     try clear c25
     try clear cF
     try clear cG
     try clear cH
     try clear c28
     try clear cI
     try clear cJ
     try clear cN
     try clear c30
     try clear cK
     try clear aE aF aG aH aI aJ aK
     try clear aZ a0 a1 a4 a5 a6 a7
     try clear a8 a9 ba bb bc bd be
     try clear bf bg bh bi bj bk bl
     try clear bm bn bo bp bq br bs
     try clear bt bu bv bw bx bz bA
     try clear bB bC bD bE bF bG bH
     try clear bI bJ bK bL bM bN bO
     try clear aL aM aN aO aP aQ aR
     try clear bP bQ bR bS bT bU bV
     try clear bW bX bY bZ b0 b1 b2
     try clear b3 b4 b5 b6 b7 b8 b9
     try clear ca cb cc cd ce cf cg
     try clear ch ci cj ck cl cm cn
     try clear co cp cq cr ct cu cv
     try clear cw cx cy cz cA cB cC
     try clear p2
     obtain ⟨kq, aW, rfl, HA, aY, ah, HB⟩ := hcut
     cases kq with
     | zero => exact absurd HA.out (by simp [lodgerlaw26_GaugeOrder.j1])
     | succ kj17 =>
      have H := HA.out; clear HA; simp only [lodgerlaw26_GaugeOrder.j1] at H
      by_cases c41 : aW = true
      ·subst c41
       have H1 : (some false) = some r := pf_ rfl H
       rw [hr_.out] at H1
       exact absurd (Option.some.inj H1) (by decide)
      ·replace c41 := Bool.eq_false_iff.mpr c41
       subst c41
       have H1 : (if (l1.length : Int) > 0 then (if 0 ≤ (wrap64 ((l1.length : Int) - 1)) then (if (wrap64 ((l1.length : Int) - 1)) ≤ (l1.length : Int) then ((gauge_Of.f ab ac aa ad ae af ag (l1.take ((wrap64 ((l1.length : Int) - 1)) : Int).toNat)).bind fun aT => (lodgerlaw26_GaugeOrder.j2 kj17 l1 a2 a3 ai (fge aT ai) ab ac aa ad ae af ag)) else (none)) else (none)) else (lodgerlaw26_GaugeOrder.j2 kj17 l1 a2 a3 ai false ab ac aa ad ae af ag)) = some r := nf_ H
       clear H; have H := H1; clear H1; have cS := Aside0.mk H; clear H
       go_upto_region 6 with (fail)
       go_cut [76] (fun v76 wc => ∃ (kq : Nat) (aX : Bool), v76 = .bool aX ∧ Aside0 (lodgerlaw26_GaugeOrder.j2 kq l1 a2 a3 ai aX ab ac aa ad ae af ag = some r) ∧ Aside0 (kq ≤ kj17) ∧ Aside0 (wc.heap[aV]? = some (.cells #[.int .u32 ab, .int .i64 ac, (.slice an aa.length ao), .int .i64 ad, .int .i64 ae, .int .i64 af, .int .i64 ag] 27 (0, 0))) ∧ Aside0 (Below w.heap.size w wc))
       case first =>
        have H := cS.out; clear cS
        by_cases c43 : (l1.length : Int) > 0
        ·rw [if_pos c43] at H
         have aB : decide (0 < (l1.length : Int)) = true := decide_eq_true c43
         have cO : decide (0 < l1.length) = true := decide_eq_true (by omega)
         clear c43
         (first | rw [aB] | (simp only [i64_w, i32_w]; rw [aB]) | skip)
         obtain ⟨ji44, hji44⟩ : ∃ j_ : Int, (wrap64 ((l1.length : Int) - 1)) = j_ := ⟨_, rfl⟩
         replace H : (if 0 ≤ (ji44) then (if (ji44) ≤ (l1.length : Int) then ((gauge_Of.f ab ac aa ad ae af ag (l1.take ((ji44) : Int).toNat)).bind fun aT => (lodgerlaw26_GaugeOrder.j2 kj17 l1 a2 a3 ai (fge aT ai) ab ac aa ad ae af ag)) else (none)) else (none)) = some r := by first | (rw [hji44] at H; exact H) | (simp only [hji44] at H ⊢; exact H)
         have hji44w : (IntKind.i64.wrap ((l1.length : Int) - 1)) = ji44 := (i64_w _).trans hji44
         by_cases c45 : 0 ≤ (ji44)
         ·rw [if_pos c45] at H
          have cV := eq_true c45
          have cW : decide (0 ≤ (ji44)) = true := decide_eq_true c45
          clear c45
          by_cases c46 : (ji44) ≤ (l1.length : Int)
          ·rw [if_pos c46] at H
           have cX := eq_true c46
           have cY : decide ((ji44) ≤ (l1.length : Int)) = true := decide_eq_true c46
           clear c46; replace H := bi_ H; obtain ⟨aT, A470, H⟩ := H
           replace H : (lodgerlaw26_GaugeOrder.j2 kj17 l1 a2 a3 ai (fge aT ai) ab ac aa ad ae af ag) = some r := H
           have A47 := Aside0.mk A470; clear A470
           have H' := Aside0.mk H
           clear H
           try go_wp2
           replace ah := Aside0.mk (blk_drew ah.out); replace HB := Aside0.mk (below_drew1 HB.out); obtain ⟨i049, hi049, _, hsz49, _⟩ := info_parts info3; obtain ⟨hcut49, hA49, hC49⟩ := print_take_of (P := Try.prog) (Value.int .i64) 0 25 3 .i64 Try.underlying25 hi049 hsz49 A1 c1 l1 (ji44) od_ od_ ar.out; have cU := Aside0.mk (Kd.C_of_reads (h1 := fun _ => rfl) (hA49 _ (Kd.reads_of_C au.out))); have en := Aside0.mk hC49; clear hA49 hC49 hi049 hsz49
           refine start_ (n := 14) (S := fun w' => L7_ w' aV (.int .u32 ab) (.int .i64 ac) (.slice an aa.length ao) (.int .i64 ad) (.int .i64 ae) (.int .i64 af) (.int .i64 ag)) (ds := []) (tf 14 0) (by kernel_rfl) rfl rfl (cl7_ ah) (fun hHeld => ?_); refine with_tabW lodgerlaw26_GaugeOrder.tab6 lodgerlaw26_GaugeOrder.bits6 (fun HT_ HW_ => ?_)
           generalize wc.drew = w48 at ah HB cU hHeld ⊢
           refine puU_ 0 63 (tf 14 1) HT_ ?_; refine puU_ 1 64 (tf 14 3) HT_ ?_; refine puU_ 2 65 (tf 14 7) HT_ ?_; refine puU_ 3 66 (tf 14 15) HT_ ?_; refine puU_ 5 68 (tf 14 47) HT_ ?_; refine puU_ 6 69 (tf 14 111) HT_ ?_; refine puU_ 7 70 (tf 14 239) HT_ ?_; refine puU_ 8 71 (tf 14 495) HT_ ?_; refine puU_ 9 72 (tf 14 1007) HT_ ?_; refine puU_ 11 74 (tf 14 3055) HT_ ?_; refine tkU_ 4 67 (tf 14 3071) rfl rfl HT_ HW_ hHeld (by rintro w' ⟨s0, s1, s2, s3, s4, s5, s6⟩; go_simp; with_reducible rfl) ?_
           refine on_ (i := 10) (N := some 73) (tf 14 4095) HT_ (fun K hK => ?_)
           refine goes_ Try.func11 (by kernel_rfl) rfl #[.agg #[.int .u32 ab, .int .i64 ac, .slice an aa.length ao, .int .i64 ad, .int .i64 ae, .int .i64 af, .int .i64 ag], .slice A1 (l1.take ((ji44) : Int).toNat).length c1] (by rfl) rfl rfl (by (try simp only [List.map_toArray, List.map_cons, List.map_nil]); first | done | (rw [show (l1.take ((ji44) : Int).toNat).length = (ji44).toNat from (by rw [List.length_take]; have h_ : ((ji44) : Int) ≤ (l1.length : Int) := od_; omega)] <;> rfl) | (simp only [hji44]; rfl) | rfl | (simp only [List.length_drop, List.length_take]; rfl)) ?_
           with_reducible refine (gauge_Of.calls ab ac _ _ aa ad ae af ag _ _ (l1.take ((ji44) : Int).toNat) aT _ ?side1 ?side2 ?side3 ?side4 A47.out).mono ?_
           (case side1 => exact cC_ al HB)
           (case side2 => exact ak.out)
           (case side3 => exact cC_ cU HB)
           (case side4 => exact en.out)
           rintro e w50 ⟨rfl, hb⟩
           refine ⟨_, rfl, ?_⟩
           replace ah := bB_ ah hb; replace HB := hS_ HB hb
           (try clear hb)
           (try clear hb2)
           (try clear hk)
           (try clear hi)
           refine hK.out _ _ (cl7_ ah) (fun hHeld => ?_)
           clear hK K
           refine norm_ (a' := ?_) ?_ ?_
           rotate_left
           ·show Act.put _ (some 73) _ = _
            simp only [Act.put, List.setIfInBounds_toArray, List.set_cons_zero, List.set_cons_succ, i64_w, i32_w]
            rfl
           refine puU_ 12 75 (tf 14 8191) HT_ ?_; refine puU_ 13 76 (tf 14 16383) HT_ ?_
           refine done_ (done_of HT_.out (by kernel_rfl)) ?_
           try go_wp2
           go_meet
           case rel => exact ⟨_, ((fge aT ai)), rs_, H', ⟨by have := aA.out; have := aY.out; first | omega | exact Nat.le_refl _⟩, ⟨bk_ ah⟩, ⟨hB_ HB⟩⟩
          ·rw [if_neg c46] at H
           exact absurd H (by simp)
         ·rw [if_neg c45] at H
          exact absurd H (by simp)
        ·rw [if_neg c43] at H
         have aB : decide (0 < (l1.length : Int)) = false := decide_eq_false c43
         have cO : decide (0 < l1.length) = false := decide_eq_false (by omega)
         clear c43
         (first | rw [aB] | (simp only [i64_w, i32_w]; rw [aB]) | skip)
         have H' := Aside0.mk H
         clear H
         try go_wp2
         replace ah := Aside0.mk (blk_drew ah.out); replace HB := Aside0.mk (below_drew1 HB.out)
         refine start_ (n := 14) (S := fun w' => True) (ds := []) (tf 14 0) (by kernel_rfl) rfl rfl trivial (fun hHeld => ?_); refine with_tabW lodgerlaw26_GaugeOrder.tab6 lodgerlaw26_GaugeOrder.bits6 (fun HT_ HW_ => ?_)
         generalize wc.drew = w51 at ah HB hHeld ⊢
         refine puU_ 0 63 (tf 14 1) HT_ ?_; refine puU_ 1 64 (tf 14 3) HT_ ?_; refine puU_ 2 65 (tf 14 7) HT_ ?_; refine puU_ 3 66 (tf 14 15) HT_ ?_; refine pnU_ 4 67 (tf 14 31) HT_ ?_; refine pnU_ 5 68 (tf 14 63) HT_ ?_; refine pnU_ 6 69 (tf 14 127) HT_ ?_; refine pnU_ 7 70 (tf 14 255) HT_ ?_; refine pnU_ 8 71 (tf 14 511) HT_ ?_; refine pnU_ 9 72 (tf 14 1023) HT_ ?_; refine pnU_ 10 73 (tf 14 2047) HT_ ?_; refine pnU_ 11 74 (tf 14 4095) HT_ ?_; refine pnU_ 12 75 (tf 14 8191) HT_ ?_; refine puU_ 13 76 (tf 14 16383) HT_ ?_
         refine done_ (done_of HT_.out (by kernel_rfl)) ?_
         try go_wp2
         go_meet
         case rel => exact ⟨_, (false), rs_, H', ⟨by have := aA.out; have := aY.out; first | omega | exact Nat.le_refl _⟩, ⟨bk_ ah⟩, ⟨hB_ HB⟩⟩
       case rest =>
        clear cS
        try clear c1
        try clear c2
        try clear p2
        try clear c3
        try clear c4
        try clear p6
        try clear c7
        try clear c8
        try clear c11
        try clear c14
        try clear c21
        try clear ay
        try clear c22
        try clear cD
        try clear c23
        try clear cE
        try clear c25
        try clear cF
        try clear cG
        try clear cH
        try clear c28
        try clear cI
        try clear cJ
        try clear cN
        try clear c30
        try clear cK
        try clear c41
        try clear c43
        try clear aB
        try clear cO
        try clear c45
        try clear cV
        try clear cW
        try clear c46
        try clear cX
        try clear cY
        try clear aE aF aG aH aI aJ aK
        try clear aZ a0 a1 a4 a5 a6 a7
        try clear a8 a9 ba bb bc bd be
        try clear bf bg bh bi bj bk bl
        try clear bm bn bo bp bq br bs
        try clear bt bu bv bw bx bz bA
        try clear bB bC bD bE bF bG bH
        try clear bI bJ bK bL bM bN bO
        try clear aL aM aN aO aP aQ aR
        try clear bP bQ bR bS bT bU bV
        try clear bW bX bY bZ b0 b1 b2
        try clear b3 b4 b5 b6 b7 b8 b9
        try clear ca cb cc cd ce cf cg
        try clear ch ci cj ck cl cm cn
        try clear co cp cq cr ct cu cv
        try clear cw cx cy cz cA cB cC
        try clear p2
        obtain ⟨kq, aX, rfl, HA, cM, ah, HB⟩ := hcut
        cases kq with
        | zero => exact absurd HA.out (by simp [lodgerlaw26_GaugeOrder.j2])
        | succ kj41 =>
         have H := HA.out; clear HA; simp only [lodgerlaw26_GaugeOrder.j2] at H
         by_cases c52 : aX = true
         ·subst c52
          have H1 : (some false) = some r := pf_ rfl H
          rw [hr_.out] at H1
          exact absurd (Option.some.inj H1) (by decide)
         ·replace c52 := Bool.eq_false_iff.mpr c52
          subst c52
          have H1 : ((gauge_Above.f ab ac aa ad ae af ag l1 a2).bind fun bt201 => ((gauge_Above.f ab ac aa ad ae af ag l1 a3).bind fun bt203 => ((gauge_Least.f kj41 ab ac aa ad ae af ag a2).bind fun bt205 => (if bt201.2 = bt205.2 then (if bt201.2 = 0 then (if (bt201.1 != (decide ((l1.length : Int) ≥ bt205.1))) = true then ((lodgerref26_Usable.f kj41 ab ac aa ad ae af ag).bind fun ax => (lodgerlaw26_GaugeOrder.j3 kj41 l1 a2 a3 ai bt201.1 bt201.2 bt203.1 bt203.2 (decide (ax > 0)) ab ac aa ad ae af ag)) else (lodgerlaw26_GaugeOrder.j3 kj41 l1 a2 a3 ai bt201.1 bt201.2 bt203.1 bt203.2 false ab ac aa ad ae af ag)) else (lodgerlaw26_GaugeOrder.j3 kj41 l1 a2 a3 ai bt201.1 bt201.2 bt203.1 bt203.2 false ab ac aa ad ae af ag)) else (lodgerlaw26_GaugeOrder.j3 kj41 l1 a2 a3 ai bt201.1 bt201.2 bt203.1 bt203.2 true ab ac aa ad ae af ag))))) = some r := nf_ H
          clear H; have H := H1; clear H1; replace H := bi_ H; obtain ⟨⟨am, aj⟩, A530, H⟩ := H
          replace H : ((gauge_Above.f ab ac aa ad ae af ag l1 a3).bind fun bt203 => ((gauge_Least.f kj41 ab ac aa ad ae af ag a2).bind fun bt205 => (if aj = bt205.2 then (if aj = 0 then (if (am != (decide ((l1.length : Int) ≥ bt205.1))) = true then ((lodgerref26_Usable.f kj41 ab ac aa ad ae af ag).bind fun ax => (lodgerlaw26_GaugeOrder.j3 kj41 l1 a2 a3 ai am aj bt203.1 bt203.2 (decide (ax > 0)) ab ac aa ad ae af ag)) else (lodgerlaw26_GaugeOrder.j3 kj41 l1 a2 a3 ai am aj bt203.1 bt203.2 false ab ac aa ad ae af ag)) else (lodgerlaw26_GaugeOrder.j3 kj41 l1 a2 a3 ai am aj bt203.1 bt203.2 false ab ac aa ad ae af ag)) else (lodgerlaw26_GaugeOrder.j3 kj41 l1 a2 a3 ai am aj bt203.1 bt203.2 true ab ac aa ad ae af ag)))) = some r := H
          have A53 := Aside0.mk A530; clear A530; replace H := bi_ H; obtain ⟨⟨av, aq⟩, A540, H⟩ := H
          replace H : ((gauge_Least.f kj41 ab ac aa ad ae af ag a2).bind fun bt205 => (if aj = bt205.2 then (if aj = 0 then (if (am != (decide ((l1.length : Int) ≥ bt205.1))) = true then ((lodgerref26_Usable.f kj41 ab ac aa ad ae af ag).bind fun ax => (lodgerlaw26_GaugeOrder.j3 kj41 l1 a2 a3 ai am aj av aq (decide (ax > 0)) ab ac aa ad ae af ag)) else (lodgerlaw26_GaugeOrder.j3 kj41 l1 a2 a3 ai am aj av aq false ab ac aa ad ae af ag)) else (lodgerlaw26_GaugeOrder.j3 kj41 l1 a2 a3 ai am aj av aq false ab ac aa ad ae af ag)) else (lodgerlaw26_GaugeOrder.j3 kj41 l1 a2 a3 ai am aj av aq true ab ac aa ad ae af ag))) = some r := H
          have A54 := Aside0.mk A540; clear A540; replace H := bi_ H; obtain ⟨⟨az, aU⟩, A550, H⟩ := H
          replace H : (if aj = aU then (if aj = 0 then (if (am != (decide ((l1.length : Int) ≥ az))) = true then ((lodgerref26_Usable.f kj41 ab ac aa ad ae af ag).bind fun ax => (lodgerlaw26_GaugeOrder.j3 kj41 l1 a2 a3 ai am aj av aq (decide (ax > 0)) ab ac aa ad ae af ag)) else (lodgerlaw26_GaugeOrder.j3 kj41 l1 a2 a3 ai am aj av aq false ab ac aa ad ae af ag)) else (lodgerlaw26_GaugeOrder.j3 kj41 l1 a2 a3 ai am aj av aq false ab ac aa ad ae af ag)) else (lodgerlaw26_GaugeOrder.j3 kj41 l1 a2 a3 ai am aj av aq true ab ac aa ad ae af ag)) = some r := H
          have A55 := Aside0.mk A550; clear A550; have cT := Aside0.mk H; clear H; obtain ⟨de, df, dg, dh, di, dj, dk, dI, dJ, dK, dL, dM, dN, dO⟩ := cz7_ (w := wc) ah
          go_upto_region 11 with (first | ((with_reducible refine gate_callee (f := 9) rfl ?_); refine goesL_ (some 81) rfl rfl Try.func9 (by kernel_rfl) rfl #[.agg #[.int .u32 ab, .int .i64 ac, .slice an aa.length ao, .int .i64 ad, .int .i64 ae, .int .i64 af, .int .i64 ag], .slice A1 l1.length c1, .float .f64 a2] rfl am_ ?_; (with_reducible refine (gauge_Above.calls ab ac _ _ aa ad ae af ag _ _ l1 a2 am aj _ ?side1 ?side2 ?side3 ?side4 A53.out).mono ?_); (case side1 => exact cC_ al HB); (case side2 => exact ak.out); (case side3 => exact cC_ au HB); (case side4 => exact ar.out); rintro e w58 ⟨rfl, hb⟩; refine ⟨_, rfl, ?_⟩; replace HB := hS_ HB hb; replace ah := bB_ ah hb; (try clear hb); obtain ⟨dl, dm, dn, dp, dq, dr, dt, dP, dQ, dR, dS, dT, dU, dV⟩ := cz7_ (w := w58) ah) | ((with_reducible refine gate_callee (f := 9) rfl ?_); refine goesL_ (some 88) rfl rfl Try.func9 (by kernel_rfl) rfl #[.agg #[.int .u32 ab, .int .i64 ac, .slice an aa.length ao, .int .i64 ad, .int .i64 ae, .int .i64 af, .int .i64 ag], .slice A1 l1.length c1, .float .f64 a3] rfl am_ ?_; (with_reducible refine (gauge_Above.calls ab ac _ _ aa ad ae af ag _ _ l1 a3 av aq _ ?side1 ?side2 ?side3 ?side4 A54.out).mono ?_); (case side1 => exact cC_ al HB); (case side2 => exact ak.out); (case side3 => exact cC_ au HB); (case side4 => exact ar.out); rintro e w60 ⟨rfl, hb⟩; refine ⟨_, rfl, ?_⟩; replace HB := hS_ HB hb; replace ah := bB_ ah hb; (try clear hb); obtain ⟨du, dv, dw, dx, dy, dz, dA, dW, dX, dY, dZ, d0, d1, d2⟩ := cz7_ (w := w60) ah) | ((with_reducible refine gate_callee (f := 10) rfl ?_); refine goesL_ (some 94) rfl rfl Try.func10 (by kernel_rfl) rfl #[.agg #[.int .u32 ab, .int .i64 ac, .slice an aa.length ao, .int .i64 ad, .int .i64 ae, .int .i64 af, .int .i64 ag], .float .f64 a2] rfl am_ ?_; (with_reducible refine (gauge_Least.calls kj41 ab ac _ _ aa ad ae af ag a2 az aU _ ?side1 ?side2 A55.out).mono ?_); (case side1 => exact cC_ al HB); (case side2 => exact ak.out); rintro e w62 ⟨rfl, hb⟩; refine ⟨_, rfl, ?_⟩; replace HB := hS_ HB hb; replace ah := bB_ ah hb; (try clear hb)))
          (try simp only [Act.put, List.setIfInBounds_toArray, List.set_cons_zero, List.set_cons_succ])
          go_cut [116] (fun v116 wc => ∃ (kq : Nat) (aS : Bool), v116 = .bool aS ∧ Aside0 (lodgerlaw26_GaugeOrder.j3 kq l1 a2 a3 ai am aj av aq aS ab ac aa ad ae af ag = some r) ∧ Aside0 (kq ≤ kj41) ∧ Aside0 (wc.heap[aV]? = some (.cells #[.int .u32 ab, .int .i64 ac, (.slice an aa.length ao), .int .i64 ad, .int .i64 ae, .int .i64 af, .int .i64 ag] 27 (0, 0))) ∧ Aside0 (Below w.heap.size w wc))
          case first =>
           have H := cT.out; clear cT
           by_cases c63 : aj = aU
           ·rw [if_pos c63] at H
            have aD : (aj == aU) = true := beq_iff_eq.mpr c63
            have cZ : (aj != aU) = false := bne_eq_false_iff_eq.mpr c63
            clear c63
            (first | rw [aD] | (simp only [i64_w, i32_w]; rw [aD]) | skip)
            by_cases c64 : aj = 0
            ·rw [if_pos c64] at H
             have c0 : (aj == 0) = true := beq_iff_eq.mpr c64
             have da : (aj != 0) = false := bne_eq_false_iff_eq.mpr c64
             clear c64
             by_cases c65 : (am != (decide ((l1.length : Int) ≥ az))) = true
             ·rw [if_pos c65] at H
              have db : (am != (decide ((l1.length : Int) ≥ az))) = true := c65
              (try (have dc : decide (am = (decide ((l1.length : Int) ≥ az))) = false := by simpa using c65))
              (try (have dd : (am == (decide ((l1.length : Int) ≥ az))) = false := by simpa using c65))
              (try (have gS : ¬ (am = (decide ((l1.length : Int) ≥ az))) := by simpa using c65))
              clear c65; replace H := bi_ H; obtain ⟨ax, A660, H⟩ := H
              replace H : (lodgerlaw26_GaugeOrder.j3 kj41 l1 a2 a3 ai am aj av aq (decide (ax > 0)) ab ac aa ad ae af ag) = some r := H
              have A66 := Aside0.mk A660; clear A660
              have H' := Aside0.mk H
              clear H; obtain ⟨dB, dC, dD, dE, dF, dG, dH, d3, d4, d5, d6, d7, d8, d9⟩ := cz7_ (w := w62) ah
              go_wp2_with (first | (go_at_call 18; (with_reducible refine (lodgerref26_Usable.calls kj41 ab ac _ _ aa ad ae af ag ax _ (cC_ al HB) ak.out A66.out).mono ?_); rintro e w68 ⟨rfl, hb⟩; replace HB := hS_ HB hb; replace ah := bB_ ah hb; (try clear hb)))
              go_meet
              case rel => exact ⟨_, (decide (ax > 0)), rs_, H', ⟨by have := aA.out; have := aY.out; have := cM.out; first | omega | exact Nat.le_refl _⟩, ⟨bk_ ah⟩, ⟨hB_ HB⟩⟩
             ·rw [if_neg c65] at H
              have db : (am != (decide ((l1.length : Int) ≥ az))) = false := by simpa using c65
              (try (have dc : decide (am = (decide ((l1.length : Int) ≥ az))) = true := by simpa using c65))
              (try (have dd : (am == (decide ((l1.length : Int) ≥ az))) = true := by simpa using c65))
              clear c65
              have H' := Aside0.mk H
              clear H
              go_wp2
              go_meet
              case rel => exact ⟨_, (false), rs_, H', ⟨by have := aA.out; have := aY.out; have := cM.out; first | omega | exact Nat.le_refl _⟩, ⟨bk_ ah⟩, ⟨hB_ HB⟩⟩
            ·rw [if_neg c64] at H
             have c0 : (aj == 0) = false := beq_eq_false_iff_ne.mpr c64
             have da : (aj != 0) = true := bne_iff_ne.mpr c64
             have H' := Aside0.mk H
             clear H
             go_wp2
             go_meet
             case rel => exact ⟨_, (false), rs_, H', ⟨by have := aA.out; have := aY.out; have := cM.out; first | omega | exact Nat.le_refl _⟩, ⟨bk_ ah⟩, ⟨hB_ HB⟩⟩
           ·rw [if_neg c63] at H
            have aD : (aj == aU) = false := beq_eq_false_iff_ne.mpr c63
            have cZ : (aj != aU) = true := bne_iff_ne.mpr c63
            (first | rw [aD] | (simp only [i64_w, i32_w]; rw [aD]) | skip)
            have H' := Aside0.mk H
            clear H
            go_wp2
            go_meet
            case rel => exact ⟨_, (true), rs_, H', ⟨by have := aA.out; have := aY.out; have := cM.out; first | omega | exact Nat.le_refl _⟩, ⟨bk_ ah⟩, ⟨hB_ HB⟩⟩
          case rest =>
           clear cT
           try clear c1
           try clear c2
           try clear p2
           try clear c3
           try clear c4
           try clear c5
           try clear c6
           try clear p6
           try clear c7
           try clear c8
           try clear c9
           try clear c10
           try clear c11
           try clear c14
           try clear c21
           try clear ay
           try clear c22
           try clear cD
           try clear c23
           try clear cE
           try clear c25
           try clear cF
           try clear cG
           try clear cH
           try clear c28
           try clear cI
           try clear cJ
           try clear cN
           try clear c30
           try clear cK
           try clear c41
           try clear c43
           try clear aB
           try clear cO
           try clear c45
           try clear cV
           try clear cW
           try clear c46
           try clear cX
           try clear cY
           try clear c52
           try clear c63
           try clear aD
           try clear cZ
           try clear c64
           try clear c0
           try clear da
           try clear p64
           try clear c65
           try clear db
           try clear dc
           try clear dd
           try clear aE aF aG aH aI aJ aK
           try clear aZ a0 a1 a4 a5 a6 a7
           try clear a8 a9 ba bb bc bd be
           try clear bf bg bh bi bj bk bl
           try clear bm bn bo bp bq br bs
           try clear bt bu bv bw bx bz bA
           try clear bB bC bD bE bF bG bH
           try clear bI bJ bK bL bM bN bO
           try clear de df dg dh di dj dk
           try clear dl dm dn dp dq dr dt
           try clear du dv dw dx dy dz dA
           try clear dB dC dD dE dF dG dH
           try clear aL aM aN aO aP aQ aR
           try clear bP bQ bR bS bT bU bV
           try clear bW bX bY bZ b0 b1 b2
           try clear b3 b4 b5 b6 b7 b8 b9
           try clear ca cb cc cd ce cf cg
           try clear ch ci cj ck cl cm cn
           try clear co cp cq cr ct cu cv
           try clear cw cx cy cz cA cB cC
           try clear dI dJ dK dL dM dN dO
           try clear dP dQ dR dS dT dU dV
           try clear dW dX dY dZ d0 d1 d2
           try clear d3 d4 d5 d6 d7 d8 d9
           try clear p2
           try clear p6
           obtain ⟨kq, aS, rfl, HA, gT, ah, HB⟩ := hcut
           cases kq with
           | zero => exact absurd HA.out (by simp [lodgerlaw26_GaugeOrder.j3])
           | succ kj55 =>
            have H := HA.out; clear HA; simp only [lodgerlaw26_GaugeOrder.j3] at H
            by_cases c69 : aS = true
            ·subst c69
             have H1 : (some false) = some r := pf_ rfl H
             rw [hr_.out] at H1
             exact absurd (Option.some.inj H1) (by decide)
            ·replace c69 := Bool.eq_false_iff.mpr c69
             subst c69
             have H1 : (if aj = 0 then (if aq = 0 then (if (fle a2 a3) = true then (if av = true then (if am = true then ((gauge_Above.f ab ac aa ad ae af ag l1 ai).bind fun bt208 => (if bt208.1 = true then (if (fge a2 0) = true then (some ((aj == 0) == (fle a2 4607182418800017408))) else (some ((aj == 0) == false))) else (some false))) else (some false)) else ((gauge_Above.f ab ac aa ad ae af ag l1 ai).bind fun bt210 => (if bt210.1 = true then (if (fge a2 0) = true then (some ((aj == 0) == (fle a2 4607182418800017408))) else (some ((aj == 0) == false))) else (some false)))) else ((gauge_Above.f ab ac aa ad ae af ag l1 ai).bind fun bt212 => (if bt212.1 = true then (if (fge a2 0) = true then (some ((aj == 0) == (fle a2 4607182418800017408))) else (some ((aj == 0) == false))) else (some false)))) else ((gauge_Above.f ab ac aa ad ae af ag l1 ai).bind fun bt214 => (if bt214.1 = true then (if (fge a2 0) = true then (some ((aj == 0) == (fle a2 4607182418800017408))) else (some ((aj == 0) == false))) else (some false)))) else ((gauge_Above.f ab ac aa ad ae af ag l1 ai).bind fun bt216 => (if bt216.1 = true then (if (fge a2 0) = true then (some ((aj == 0) == (fle a2 4607182418800017408))) else (some ((aj == 0) == false))) else (some false)))) = some r := nf_ H
             clear H; have H := H1; clear H1
             by_cases c70 : aj = 0
             ·rw [if_pos c70] at H
              have eo : (aj == 0) = true := beq_iff_eq.mpr c70
              have ep : (aj != 0) = false := bne_eq_false_iff_eq.mpr c70
              clear c70
              by_cases c71 : aq = 0
              ·rw [if_pos c71] at H
               have er : (aq == 0) = true := beq_iff_eq.mpr c71
               have et : (aq != 0) = false := bne_eq_false_iff_eq.mpr c71
               clear c71
               by_cases c72 : (fle a2 a3) = true
               ·rw [if_pos c72] at H
                have eu : (fle a2 a3) = true := c72
                clear c72
                by_cases c73 : av = true
                ·subst c73
                 have H1 : (if am = true then ((gauge_Above.f ab ac aa ad ae af ag l1 ai).bind fun bt208 => (if bt208.1 = true then (if (fge a2 0) = true then (some ((aj == 0) == (fle a2 4607182418800017408))) else (some ((aj == 0) == false))) else (some false))) else (some false)) = some r := pf_ rfl H
                 clear H; have H := H1; clear H1
                 by_cases c74 : am = true
                 ·subst c74
                  have H1 : ((gauge_Above.f ab ac aa ad ae af ag l1 ai).bind fun bt208 => (if bt208.1 = true then (if (fge a2 0) = true then (some ((aj == 0) == (fle a2 4607182418800017408))) else (some ((aj == 0) == false))) else (some false))) = some r := pf_ rfl H
                  clear H; have H := H1; clear H1; replace H := bi_ H; obtain ⟨⟨ed, ee⟩, A750, H⟩ := H
                  replace H : (if ed = true then (if (fge a2 0) = true then (some ((aj == 0) == (fle a2 4607182418800017408))) else (some ((aj == 0) == false))) else (some false)) = some r := H
                  have A75 := Aside0.mk A750; clear A750
                  by_cases c76 : ed = true
                  ·subst c76
                   have H1 : (if (fge a2 0) = true then (some ((aj == 0) == (fle a2 4607182418800017408))) else (some ((aj == 0) == false))) = some r := pf_ rfl H
                   clear H; have H := H1; clear H1
                   by_cases c77 : (fge a2 0) = true
                   ·rw [if_pos c77] at H
                    have ev : (fge a2 0) = true := c77
                    clear c77
                    first | (exfalso; rw [hr_.out] at H; exact absurd (Option.some.inj H) (by decide)) | (try clear hr_)
                    all_goals
                     obtain rfl := Option.some.inj H
                     obtain ⟨fs, ft, fu, fv, fw, fx, fy, f8, f9, ga, gb, gc, gd, gf⟩ := cz7_ (w := wc) ah
                     go_wp2_with (first | ((with_reducible refine gate_callee (f := 9) rfl ?_); refine goesL_ (some 139) rfl rfl Try.func9 (by kernel_rfl) rfl #[.agg #[.int .u32 ab, .int .i64 ac, .slice an aa.length ao, .int .i64 ad, .int .i64 ae, .int .i64 af, .int .i64 ag], .slice A1 l1.length c1, .float .f64 ai] rfl am_ ?_; (with_reducible refine (gauge_Above.calls ab ac _ _ aa ad ae af ag _ _ l1 ai true ee _ ?side1 ?side2 ?side3 ?side4 A75.out).mono ?_); (case side1 => exact cC_ al HB); (case side2 => exact ak.out); (case side3 => exact cC_ au HB); (case side4 => exact ar.out); rintro e w79 ⟨rfl, hb⟩; refine ⟨_, rfl, ?_⟩; replace HB := hS_ HB hb; replace ah := bB_ ah hb; (try clear hb)))
                     go_ret
                     exact ⟨er_, hB_ HB⟩
                   ·rw [if_neg c77] at H
                    have ev : (fge a2 0) = false := by simpa using c77
                    clear c77
                    first | (exfalso; rw [hr_.out] at H; exact absurd (Option.some.inj H) (by decide)) | (try clear hr_)
                    all_goals
                     obtain rfl := Option.some.inj H
                     obtain ⟨fz, fA, fB, fC, fD, fE, fF, gg, gh, gi, gj, gk, gl, gm⟩ := cz7_ (w := wc) ah
                     go_wp2_with (first | ((with_reducible refine gate_callee (f := 9) rfl ?_); refine goesL_ (some 139) rfl rfl Try.func9 (by kernel_rfl) rfl #[.agg #[.int .u32 ab, .int .i64 ac, .slice an aa.length ao, .int .i64 ad, .int .i64 ae, .int .i64 af, .int .i64 ag], .slice A1 l1.length c1, .float .f64 ai] rfl am_ ?_; (with_reducible refine (gauge_Above.calls ab ac _ _ aa ad ae af ag _ _ l1 ai true ee _ ?side1 ?side2 ?side3 ?side4 A75.out).mono ?_); (case side1 => exact cC_ al HB); (case side2 => exact ak.out); (case side3 => exact cC_ au HB); (case side4 => exact ar.out); rintro e w81 ⟨rfl, hb⟩; refine ⟨_, rfl, ?_⟩; replace HB := hS_ HB hb; replace ah := bB_ ah hb; (try clear hb)))
                     go_ret
                     exact ⟨er_, hB_ HB⟩
                  ·replace c76 := Bool.eq_false_iff.mpr c76
                   subst c76
                   have H1 : (some false) = some r := nf_ H
                   rw [hr_.out] at H1
                   exact absurd (Option.some.inj H1) (by decide)
                 ·replace c74 := Bool.eq_false_iff.mpr c74
                  subst c74
                  have H1 : (some false) = some r := nf_ H
                  rw [hr_.out] at H1
                  exact absurd (Option.some.inj H1) (by decide)
                ·replace c73 := Bool.eq_false_iff.mpr c73
                 subst c73
                 have H1 : ((gauge_Above.f ab ac aa ad ae af ag l1 ai).bind fun bt210 => (if bt210.1 = true then (if (fge a2 0) = true then (some ((aj == 0) == (fle a2 4607182418800017408))) else (some ((aj == 0) == false))) else (some false))) = some r := nf_ H
                 clear H; have H := H1; clear H1; replace H := bi_ H; obtain ⟨⟨ef, eg⟩, A840, H⟩ := H
                 replace H : (if ef = true then (if (fge a2 0) = true then (some ((aj == 0) == (fle a2 4607182418800017408))) else (some ((aj == 0) == false))) else (some false)) = some r := H
                 have A84 := Aside0.mk A840; clear A840
                 by_cases c85 : ef = true
                 ·subst c85
                  have H1 : (if (fge a2 0) = true then (some ((aj == 0) == (fle a2 4607182418800017408))) else (some ((aj == 0) == false))) = some r := pf_ rfl H
                  clear H; have H := H1; clear H1
                  by_cases c86 : (fge a2 0) = true
                  ·rw [if_pos c86] at H
                   have ew : (fge a2 0) = true := c86
                   clear c86
                   first | (exfalso; rw [hr_.out] at H; exact absurd (Option.some.inj H) (by decide)) | (try clear hr_)
                   all_goals
                    obtain rfl := Option.some.inj H
                    obtain ⟨fG, fH, fI, fJ, fK, fL, fM, gn, go, gp, gq, gr, gs, gt⟩ := cz7_ (w := wc) ah
                    go_wp2_with (first | ((with_reducible refine gate_callee (f := 9) rfl ?_); refine goesL_ (some 139) rfl rfl Try.func9 (by kernel_rfl) rfl #[.agg #[.int .u32 ab, .int .i64 ac, .slice an aa.length ao, .int .i64 ad, .int .i64 ae, .int .i64 af, .int .i64 ag], .slice A1 l1.length c1, .float .f64 ai] rfl am_ ?_; (with_reducible refine (gauge_Above.calls ab ac _ _ aa ad ae af ag _ _ l1 ai true eg _ ?side1 ?side2 ?side3 ?side4 A84.out).mono ?_); (case side1 => exact cC_ al HB); (case side2 => exact ak.out); (case side3 => exact cC_ au HB); (case side4 => exact ar.out); rintro e w88 ⟨rfl, hb⟩; refine ⟨_, rfl, ?_⟩; replace HB := hS_ HB hb; replace ah := bB_ ah hb; (try clear hb)))
                    go_ret
                    exact ⟨er_, hB_ HB⟩
                  ·rw [if_neg c86] at H
                   have ew : (fge a2 0) = false := by simpa using c86
                   clear c86
                   first | (exfalso; rw [hr_.out] at H; exact absurd (Option.some.inj H) (by decide)) | (try clear hr_)
                   all_goals
                    obtain rfl := Option.some.inj H
                    obtain ⟨fN, fO, fP, fQ, fR, fS, fT, gu, gv, gw, gx, gy, gz, gA⟩ := cz7_ (w := wc) ah
                    go_wp2_with (first | ((with_reducible refine gate_callee (f := 9) rfl ?_); refine goesL_ (some 139) rfl rfl Try.func9 (by kernel_rfl) rfl #[.agg #[.int .u32 ab, .int .i64 ac, .slice an aa.length ao, .int .i64 ad, .int .i64 ae, .int .i64 af, .int .i64 ag], .slice A1 l1.length c1, .float .f64 ai] rfl am_ ?_; (with_reducible refine (gauge_Above.calls ab ac _ _ aa ad ae af ag _ _ l1 ai true eg _ ?side1 ?side2 ?side3 ?side4 A84.out).mono ?_); (case side1 => exact cC_ al HB); (case side2 => exact ak.out); (case side3 => exact cC_ au HB); (case side4 => exact ar.out); rintro e w90 ⟨rfl, hb⟩; refine ⟨_, rfl, ?_⟩; replace HB := hS_ HB hb; replace ah := bB_ ah hb; (try clear hb)))
                    go_ret
                    exact ⟨er_, hB_ HB⟩
                 ·replace c85 := Bool.eq_false_iff.mpr c85
                  subst c85
                  have H1 : (some false) = some r := nf_ H
                  rw [hr_.out] at H1
                  exact absurd (Option.some.inj H1) (by decide)
               ·rw [if_neg c72] at H
                have eu : (fle a2 a3) = false := by simpa using c72
                clear c72; replace H := bi_ H; obtain ⟨⟨eh, ei⟩, A930, H⟩ := H
                replace H : (if eh = true then (if (fge a2 0) = true then (some ((aj == 0) == (fle a2 4607182418800017408))) else (some ((aj == 0) == false))) else (some false)) = some r := H
                have A93 := Aside0.mk A930; clear A930
                by_cases c94 : eh = true
                ·subst c94
                 have H1 : (if (fge a2 0) = true then (some ((aj == 0) == (fle a2 4607182418800017408))) else (some ((aj == 0) == false))) = some r := pf_ rfl H
                 clear H; have H := H1; clear H1
                 by_cases c95 : (fge a2 0) = true
                 ·rw [if_pos c95] at H
                  have ex : (fge a2 0) = true := c95
                  clear c95
                  first | (exfalso; rw [hr_.out] at H; exact absurd (Option.some.inj H) (by decide)) | (try clear hr_)
                  all_goals
                   obtain rfl := Option.some.inj H
                   obtain ⟨fU, fV, fW, fX, fY, fZ, f0, gB, gC, gD, gE, gF, gG, gH⟩ := cz7_ (w := wc) ah
                   go_wp2_with (first | ((with_reducible refine gate_callee (f := 9) rfl ?_); refine goesL_ (some 139) rfl rfl Try.func9 (by kernel_rfl) rfl #[.agg #[.int .u32 ab, .int .i64 ac, .slice an aa.length ao, .int .i64 ad, .int .i64 ae, .int .i64 af, .int .i64 ag], .slice A1 l1.length c1, .float .f64 ai] rfl am_ ?_; (with_reducible refine (gauge_Above.calls ab ac _ _ aa ad ae af ag _ _ l1 ai true ei _ ?side1 ?side2 ?side3 ?side4 A93.out).mono ?_); (case side1 => exact cC_ al HB); (case side2 => exact ak.out); (case side3 => exact cC_ au HB); (case side4 => exact ar.out); rintro e w97 ⟨rfl, hb⟩; refine ⟨_, rfl, ?_⟩; replace HB := hS_ HB hb; replace ah := bB_ ah hb; (try clear hb)))
                   go_ret
                   exact ⟨er_, hB_ HB⟩
                 ·rw [if_neg c95] at H
                  have ex : (fge a2 0) = false := by simpa using c95
                  clear c95
                  first | (exfalso; rw [hr_.out] at H; exact absurd (Option.some.inj H) (by decide)) | (try clear hr_)
                  all_goals
                   obtain rfl := Option.some.inj H
                   obtain ⟨f1, f2, f3, f4, f5, f6, f7, gI, gJ, gK, gL, gM, gN, gO⟩ := cz7_ (w := wc) ah
                   go_wp2_with (first | ((with_reducible refine gate_callee (f := 9) rfl ?_); refine goesL_ (some 139) rfl rfl Try.func9 (by kernel_rfl) rfl #[.agg #[.int .u32 ab, .int .i64 ac, .slice an aa.length ao, .int .i64 ad, .int .i64 ae, .int .i64 af, .int .i64 ag], .slice A1 l1.length c1, .float .f64 ai] rfl am_ ?_; (with_reducible refine (gauge_Above.calls ab ac _ _ aa ad ae af ag _ _ l1 ai true ei _ ?side1 ?side2 ?side3 ?side4 A93.out).mono ?_); (case side1 => exact cC_ al HB); (case side2 => exact ak.out); (case side3 => exact cC_ au HB); (case side4 => exact ar.out); rintro e w99 ⟨rfl, hb⟩; refine ⟨_, rfl, ?_⟩; replace HB := hS_ HB hb; replace ah := bB_ ah hb; (try clear hb)))
                   go_ret
                   exact ⟨er_, hB_ HB⟩
                ·replace c94 := Bool.eq_false_iff.mpr c94
                 subst c94
                 have H1 : (some false) = some r := nf_ H
                 rw [hr_.out] at H1
                 exact absurd (Option.some.inj H1) (by decide)
              ·rw [if_neg c71] at H
               have er : (aq == 0) = false := beq_eq_false_iff_ne.mpr c71
               have et : (aq != 0) = true := bne_iff_ne.mpr c71
               replace H := bi_ H; obtain ⟨⟨ej, ek⟩, A1020, H⟩ := H
               replace H : (if ej = true then (if (fge a2 0) = true then (some ((aj == 0) == (fle a2 4607182418800017408))) else (some ((aj == 0) == false))) else (some false)) = some r := H
               have A102 := Aside0.mk A1020; clear A1020
               by_cases c103 : ej = true
               ·subst c103
                have H1 : (if (fge a2 0) = true then (some ((aj == 0) == (fle a2 4607182418800017408))) else (some ((aj == 0) == false))) = some r := pf_ rfl H
                clear H; have H := H1; clear H1
                by_cases c104 : (fge a2 0) = true
                ·rw [if_pos c104] at H
                 have eb : (fge a2 0) = true := c104
                 clear c104
                 first | (exfalso; rw [hr_.out] at H; exact absurd (Option.some.inj H) (by decide)) | (try clear hr_)
                 all_goals
                  obtain rfl := Option.some.inj H
                  obtain ⟨ey, ez, eA, eB, eC, eD, eE, e0, e1, e2, e3, e4, e5, e6⟩ := cz7_ (w := wc) ah
                  go_wp2_with (first | ((with_reducible refine gate_callee (f := 9) rfl ?_); refine goesL_ (some 139) rfl rfl Try.func9 (by kernel_rfl) rfl #[.agg #[.int .u32 ab, .int .i64 ac, .slice an aa.length ao, .int .i64 ad, .int .i64 ae, .int .i64 af, .int .i64 ag], .slice A1 l1.length c1, .float .f64 ai] rfl am_ ?_; (with_reducible refine (gauge_Above.calls ab ac _ _ aa ad ae af ag _ _ l1 ai true ek _ ?side1 ?side2 ?side3 ?side4 A102.out).mono ?_); (case side1 => exact cC_ al HB); (case side2 => exact ak.out); (case side3 => exact cC_ au HB); (case side4 => exact ar.out); rintro e w106 ⟨rfl, hb⟩; refine ⟨_, rfl, ?_⟩; replace HB := hS_ HB hb; replace ah := bB_ ah hb; (try clear hb)))
                  go_ret
                  exact ⟨er_, hB_ HB⟩
                ·rw [if_neg c104] at H
                 have eb : (fge a2 0) = false := by simpa using c104
                 clear c104
                 first | (exfalso; rw [hr_.out] at H; exact absurd (Option.some.inj H) (by decide)) | (try clear hr_)
                 all_goals
                  obtain rfl := Option.some.inj H
                  obtain ⟨eF, eG, eH, eI, eJ, eK, eL, e7, e8, e9, fa, fb, fc, fd⟩ := cz7_ (w := wc) ah
                  go_wp2_with (first | ((with_reducible refine gate_callee (f := 9) rfl ?_); refine goesL_ (some 139) rfl rfl Try.func9 (by kernel_rfl) rfl #[.agg #[.int .u32 ab, .int .i64 ac, .slice an aa.length ao, .int .i64 ad, .int .i64 ae, .int .i64 af, .int .i64 ag], .slice A1 l1.length c1, .float .f64 ai] rfl am_ ?_; (with_reducible refine (gauge_Above.calls ab ac _ _ aa ad ae af ag _ _ l1 ai true ek _ ?side1 ?side2 ?side3 ?side4 A102.out).mono ?_); (case side1 => exact cC_ al HB); (case side2 => exact ak.out); (case side3 => exact cC_ au HB); (case side4 => exact ar.out); rintro e w108 ⟨rfl, hb⟩; refine ⟨_, rfl, ?_⟩; replace HB := hS_ HB hb; replace ah := bB_ ah hb; (try clear hb)))
                  go_ret
                  exact ⟨er_, hB_ HB⟩
               ·replace c103 := Bool.eq_false_iff.mpr c103
                subst c103
                have H1 : (some false) = some r := nf_ H
                rw [hr_.out] at H1
                exact absurd (Option.some.inj H1) (by decide)
             ·rw [if_neg c70] at H
              have eo : (aj == 0) = false := beq_eq_false_iff_ne.mpr c70
              have ep : (aj != 0) = true := bne_iff_ne.mpr c70
              replace H := bi_ H; obtain ⟨⟨el, em⟩, A1110, H⟩ := H
              replace H : (if el = true then (if (fge a2 0) = true then (some ((aj == 0) == (fle a2 4607182418800017408))) else (some ((aj == 0) == false))) else (some false)) = some r := H
              have A111 := Aside0.mk A1110; clear A1110
              by_cases c112 : el = true
              ·subst c112
               have H1 : (if (fge a2 0) = true then (some ((aj == 0) == (fle a2 4607182418800017408))) else (some ((aj == 0) == false))) = some r := pf_ rfl H
               clear H; have H := H1; clear H1
               by_cases c113 : (fge a2 0) = true
               ·rw [if_pos c113] at H
                have ec : (fge a2 0) = true := c113
                clear c113
                first | (exfalso; rw [hr_.out] at H; exact absurd (Option.some.inj H) (by decide)) | (try clear hr_)
                all_goals
                 obtain rfl := Option.some.inj H
                 obtain ⟨eM, eN, eO, eP, eQ, eR, eS, fe, ff, fg, fh, fi, fj, fk⟩ := cz7_ (w := wc) ah
                 go_wp2_with (first | ((with_reducible refine gate_callee (f := 9) rfl ?_); refine goesL_ (some 139) rfl rfl Try.func9 (by kernel_rfl) rfl #[.agg #[.int .u32 ab, .int .i64 ac, .slice an aa.length ao, .int .i64 ad, .int .i64 ae, .int .i64 af, .int .i64 ag], .slice A1 l1.length c1, .float .f64 ai] rfl am_ ?_; (with_reducible refine (gauge_Above.calls ab ac _ _ aa ad ae af ag _ _ l1 ai true em _ ?side1 ?side2 ?side3 ?side4 A111.out).mono ?_); (case side1 => exact cC_ al HB); (case side2 => exact ak.out); (case side3 => exact cC_ au HB); (case side4 => exact ar.out); rintro e w115 ⟨rfl, hb⟩; refine ⟨_, rfl, ?_⟩; replace HB := hS_ HB hb; replace ah := bB_ ah hb; (try clear hb)))
                 go_ret
                 exact ⟨er_, hB_ HB⟩
               ·rw [if_neg c113] at H
                have ec : (fge a2 0) = false := by simpa using c113
                clear c113
                first | (exfalso; rw [hr_.out] at H; exact absurd (Option.some.inj H) (by decide)) | (try clear hr_)
                all_goals
                 obtain rfl := Option.some.inj H
                 obtain ⟨eT, eU, eV, eW, eX, eY, eZ, fl, fm, fn, fo, fp, fq, fr⟩ := cz7_ (w := wc) ah
                 go_wp2_with (first | ((with_reducible refine gate_callee (f := 9) rfl ?_); refine goesL_ (some 139) rfl rfl Try.func9 (by kernel_rfl) rfl #[.agg #[.int .u32 ab, .int .i64 ac, .slice an aa.length ao, .int .i64 ad, .int .i64 ae, .int .i64 af, .int .i64 ag], .slice A1 l1.length c1, .float .f64 ai] rfl am_ ?_; (with_reducible refine (gauge_Above.calls ab ac _ _ aa ad ae af ag _ _ l1 ai true em _ ?side1 ?side2 ?side3 ?side4 A111.out).mono ?_); (case side1 => exact cC_ al HB); (case side2 => exact ak.out); (case side3 => exact cC_ au HB); (case side4 => exact ar.out); rintro e w117 ⟨rfl, hb⟩; refine ⟨_, rfl, ?_⟩; replace HB := hS_ HB hb; (try clear hb)))
                 go_ret
                 exact ⟨er_, hB_ HB⟩
              ·replace c112 := Bool.eq_false_iff.mpr c112
               subst c112
               have H1 : (some false) = some r := nf_ H
               rw [hr_.out] at H1
               exact absurd (Option.some.inj H1) (by decide)

/-- THE ONE PURE STATEMENT of lodgerlaw26_GaugeOrder: yours. -/
def lodgerlaw26_GaugeOrder.Pure : Prop := ∀ (a0_0 a0_1 : Int) (l0_2 : List Int) (a0_3 a0_4 : Int) (a0_5 a0_6 : Int) (l1 : List Int) (a2 a3 : Nat), (Lit.int .u32 a0_0).wf = true → (Lit.int .i64 a0_1).wf = true → l0_2.length ≤ maxLen → (∀ x ∈ l0_2, (Lit.int .i64 x).wf = true) → (Lit.int .i64 a0_3).wf = true → (Lit.int .i64 a0_4).wf = true → (Lit.int .i64 a0_5).wf = true → (Lit.int .i64 a0_6).wf = true → l1.length ≤ maxLen → l1.length * 8 ≤ 140737488351232 → (∀ x ∈ l1, (Lit.int .i64 x).wf = true) → (Lit.float .f64 a2).wf = true → (Lit.float .f64 a3).wf = true → ∃ k, lodgerlaw26_GaugeOrder.f k a0_0 a0_1 l0_2 a0_3 a0_4 a0_5 a0_6 l1 a2 a3 = some true
theorem lodgerlaw26_GaugeOrder.walk (P : lodgerlaw26_GaugeOrder.Pure) (a0_0 a0_1 : Int) (a0_2 : Option Addr) (len0_2 cap0_2 : Nat) (z0_2 : List Int) (a0_3 a0_4 : Int) (a0_5 a0_6 : Int) (a1 : Option Addr) (len1 cap1 : Nat) (z1 : List Int) (a2 a3 : Nat) (w : World) (w0_0 : (Lit.int .u32 a0_0).wf = true) (w0_1 : (Lit.int .i64 a0_1).wf = true) (w0_2 : (a0_2 = none ∧ len0_2 = 0 ∧ cap0_2 = 0 ∧ z0_2 = []) ∨ ∃ x, a0_2 = some x ∧ len0_2 ≤ cap0_2 ∧ cap0_2 ≤ maxLen ∧ z0_2.length = cap0_2 ∧ (∀ i, i < z0_2.length → w.cell? (x.add i) = some (.int .i64 (z0_2.getD i 0))) ∧ ∀ n ∈ z0_2, (Lit.int .i64 n).wf = true) (w0_3 : (Lit.int .i64 a0_3).wf = true) (w0_4 : (Lit.int .i64 a0_4).wf = true) (w0_5 : (Lit.int .i64 a0_5).wf = true) (w0_6 : (Lit.int .i64 a0_6).wf = true) (w1 : (a1 = none ∧ len1 = 0 ∧ cap1 = 0 ∧ z1 = []) ∨ ∃ x, a1 = some x ∧ len1 ≤ cap1 ∧ cap1 ≤ maxLen ∧ z1.length = cap1 ∧ (∀ i, i < z1.length → w.cell? (x.add i) = some (.int .i64 (z1.getD i 0))) ∧ ∀ n ∈ z1, (Lit.int .i64 n).wf = true) (y1 : len1 * 8 ≤ 140737488351232) (w2 : (Lit.float .f64 a2).wf = true) (w3 : (Lit.float .f64 a3).wf = true) :
  Calls Try.prog 4 #[.agg #[.int .u32 a0_0, .int .i64 a0_1, .slice a0_2 len0_2 cap0_2, .int .i64 a0_3, .int .i64 a0_4, .int .i64 a0_5, .int .i64 a0_6], .slice a1 len1 cap1, .float .f64 a2, .float .f64 a3] w fun e w' => e = .returned (.bool true) ∧ Below w.heap.size w w' := by
 obtain ⟨l0_2, rfl, hr0_2, hm0_2, hw0_2, hc0_2⟩ := ReadsInt.ofRowC w0_2
 obtain ⟨l1, rfl, hr1, hm1, hw1, hc1⟩ := ReadsInt.ofRowC w1
 obtain ⟨k, h⟩ := P a0_0 a0_1 l0_2 a0_3 a0_4 a0_5 a0_6 l1 a2 a3 w0_0 w0_1 hm0_2 hw0_2 w0_3 w0_4 w0_5 w0_6 hm1 y1 hw1 w2 w3
 refine (lodgerlaw26_GaugeOrder.calls k a0_0 a0_1 _ _ l0_2 a0_3 a0_4 a0_5 a0_6 _ _ l1 a2 a3 true w (Kd.C_of_reads (d := (0 : Int)) (h1 := fun _ => rfl) hr0_2) hc0_2 (Kd.C_of_reads (d := (0 : Int)) (h1 := fun _ => rfl) hr1) hc1 rfl h).mono ?_
 rintro e w' ⟨rfl, hd⟩
 exact ⟨rfl, hd⟩

end Go.Proofs.Ytepgjabpoabjnaa.PGaugeOrder
