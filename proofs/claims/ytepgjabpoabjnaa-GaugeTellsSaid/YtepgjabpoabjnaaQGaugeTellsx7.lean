/- The walk of GaugeTells, part of it: what the Go functions answer; no condition. -/
import Derived.Test.YtepgjabpoabjnaaQGaugeTellsx0
import Derived.Test.YtepgjabpoabjnaaQGaugeTellsx1
import Derived.Test.YtepgjabpoabjnaaQGaugeTellsx2
import Derived.Test.YtepgjabpoabjnaaQGaugeTellsx6
namespace Go.Proofs.Ytepgjabpoabjnaa.PGaugeTells
open Go.RowKit Go.Proofs.YtepgjabpoabjnaaW.PrintWords Go.Proofs.YtepgjabpoabjnaaW.PrintLast Go.Proofs.YtepgjabpoabjnaaW.PrintMore
attribute [local go_sem] max2_int min2_int max_two min_two max_three min_three max_four min_four   -- for this text's walks alone
set_option linter.unusedVariables false
set_option linter.unusedSimpArgs false

/-! ### lodgerlaw26_GaugeTells: function 3 -/
mutual
def lodgerlaw26_GaugeTells.j0 : Nat → List Int → Nat → Int → Bool → Int → Int → List Int → Int → Int → Int → Int → Option (Bool)
 | 0, _, _, _, _, _, _, _, _, _, _, _ => none
 | k + 1, x1, x2, x3, x24, x195000, x195001, x195002, x195003, x195004, x195005, x195006 => if x24 = true then ((lodgerlaw26_awake.f k).bind fun t197 => (some t197)) else ((gauge_Above.f x195000 x195001 x195002 x195003 x195004 x195005 x195006 x1 x2).bind fun bt198 => ((gauge_Least.f k x195000 x195001 x195002 x195003 x195004 x195005 x195006 x2).bind fun bt200 => ((gauge_Of.f x195000 x195001 x195002 x195003 x195004 x195005 x195006 x1).bind fun t202 => ((lodgerref26_Part.f k x195000 x195001 x195002 x195003 x195004 x195005 x195006 (x1.length : Int)).bind fun t203 => (if (fne t202 t203) = true then (lodgerlaw26_GaugeTells.j1 k x1 x2 bt198.1 bt198.2 bt200.1 bt200.2 true x195000 x195001 x195002 x195003 x195004 x195005 x195006) else ((gauge_Bar.f k x195000 x195001 x195002 x195003 x195004 x195005 x195006 x1 (wrap64 (x3))).bind fun t204 => ((lodgerref26_Bar.f k x195000 x195001 x195002 x195003 x195004 x195005 x195006 (x1.length : Int) (wrap64 (x3))).bind fun t205 => (lodgerlaw26_GaugeTells.j1 k x1 x2 bt198.1 bt198.2 bt200.1 bt200.2 (t204.toList != t205.toList) x195000 x195001 x195002 x195003 x195004 x195005 x195006))))))))
def lodgerlaw26_GaugeTells.j1 : Nat → List Int → Nat → Bool → Int → Int → Int → Bool → Int → Int → List Int → Int → Int → Int → Int → Option (Bool)
 | 0, _, _, _, _, _, _, _, _, _, _, _, _, _, _ => none
 | k + 1, x1, x2, x9, x10, x11, x12, x60, x195000, x195001, x195002, x195003, x195004, x195005, x195006 => if x60 = true then (some false) else ((lodgerref26_Mark.f x2).bind fun t206 => (if t206 = true then (if x10 = 0 then ((lodgerref26_Part.f k x195000 x195001 x195002 x195003 x195004 x195005 x195006 (x1.length : Int)).bind fun t207 => (if (x9 == (fge t207 x2)) = true then (if x12 = 0 then ((lodgerref26_Least.f k x195000 x195001 x195002 x195003 x195004 x195005 x195006 x2).bind fun t208 => (some (x11 == t208))) else (some false)) else (some false))) else (some false)) else (if x9 = true then (some false) else (if x10 = 1 then (if x11 = 0 then (some (x12 == 1)) else (some false)) else (some false)))))
end
def lodgerlaw26_GaugeTells.f (k : Nat) (a0_0 a0_1 : Int) (l0_2 : List Int) (a0_3 a0_4 : Int) (a0_5 a0_6 : Int) (l1 : List Int) (a2 : Nat) (a3 : Int) : Option (Bool) := (lodgerlaw26_awake.f k).bind fun t195 => (if t195 = true then ((lodgerref11_Fits.f k a0_0 a0_1 l0_2 a0_3 a0_4 a0_5 a0_6 l1).bind fun t196 => (if t196 = true then (lodgerlaw26_GaugeTells.j0 k l1 a2 a3 (decide (a3 > 200)) a0_0 a0_1 l0_2 a0_3 a0_4 a0_5 a0_6) else (lodgerlaw26_GaugeTells.j0 k l1 a2 a3 true a0_0 a0_1 l0_2 a0_3 a0_4 a0_5 a0_6))) else (lodgerlaw26_GaugeTells.j0 k l1 a2 a3 true a0_0 a0_1 l0_2 a0_3 a0_4 a0_5 a0_6))
theorem lodgerlaw26_GaugeTells.mono_l : ∀ k, (∀ y0 y1 y2 y3 y4 y5 y6 y7 y8 y9 y10, LeO (lodgerlaw26_GaugeTells.j0 k y0 y1 y2 y3 y4 y5 y6 y7 y8 y9 y10) (lodgerlaw26_GaugeTells.j0 (k + 1) y0 y1 y2 y3 y4 y5 y6 y7 y8 y9 y10)) ∧ (∀ y0 y1 y2 y3 y4 y5 y6 y7 y8 y9 y10 y11 y12 y13, LeO (lodgerlaw26_GaugeTells.j1 k y0 y1 y2 y3 y4 y5 y6 y7 y8 y9 y10 y11 y12 y13) (lodgerlaw26_GaugeTells.j1 (k + 1) y0 y1 y2 y3 y4 y5 y6 y7 y8 y9 y10 y11 y12 y13))
 | 0 => ⟨fun _ _ _ _ _ _ _ _ _ _ _ r h => by simp [lodgerlaw26_GaugeTells.j0] at h, fun _ _ _ _ _ _ _ _ _ _ _ _ _ _ r h => by simp [lodgerlaw26_GaugeTells.j1] at h⟩
 | k + 1 => by
  obtain ⟨ih0, ih1⟩ := lodgerlaw26_GaugeTells.mono_l k
  refine ⟨?_, ?_⟩
  ·intro y0 y1 y2 y3 y4 y5 y6 y7 y8 y9 y10
   unfold lodgerlaw26_GaugeTells.j0
   repeat' (with_reducible first | apply ih0 | apply ih1 | apply gauge_Bar.mono | apply gauge_Least.mono | apply lodgerlaw26_awake.mono | apply lodgerref11_Fits.mono | apply lodgerref26_Bar.mono | apply lodgerref26_Least.mono | apply lodgerref26_Part.mono | exact LeO.refl _ | exact LeO.none _ | refine LeO.ite ?_ ?_ | refine LeO.bind ?_ (fun _ => ?_))
  ·intro y0 y1 y2 y3 y4 y5 y6 y7 y8 y9 y10 y11 y12 y13
   unfold lodgerlaw26_GaugeTells.j1
   repeat' (with_reducible first | apply ih0 | apply ih1 | apply gauge_Bar.mono | apply gauge_Least.mono | apply lodgerlaw26_awake.mono | apply lodgerref11_Fits.mono | apply lodgerref26_Bar.mono | apply lodgerref26_Least.mono | apply lodgerref26_Part.mono | exact LeO.refl _ | exact LeO.none _ | refine LeO.ite ?_ ?_ | refine LeO.bind ?_ (fun _ => ?_))
theorem lodgerlaw26_GaugeTells.mono : ∀ a0 a1 a2 a3 a4 a5 a6 a7 a8 a9 k, LeO (lodgerlaw26_GaugeTells.f k a0 a1 a2 a3 a4 a5 a6 a7 a8 a9) (lodgerlaw26_GaugeTells.f (k + 1) a0 a1 a2 a3 a4 a5 a6 a7 a8 a9) := by
 intro a0 a1 a2 a3 a4 a5 a6 a7 a8 a9 k
 obtain ⟨ih0, ih1⟩ := lodgerlaw26_GaugeTells.mono_l k
 unfold lodgerlaw26_GaugeTells.f
 repeat' (with_reducible first | apply ih0 | apply ih1 | apply gauge_Bar.mono | apply gauge_Least.mono | apply lodgerlaw26_awake.mono | apply lodgerref11_Fits.mono | apply lodgerref26_Bar.mono | apply lodgerref26_Least.mono | apply lodgerref26_Part.mono | exact LeO.refl _ | exact LeO.none _ | refine LeO.ite ?_ ?_ | refine LeO.bind ?_ (fun _ => ?_))
def lodgerlaw26_GaugeTells.T5 : Bool × List (List Nat × List Nat) := (true, [([], []), ([], []), ([0, 1], [0, 1]), ([], []), ([], []), ([4], [4]), ([3, 5, 2], [3, 5]), ([2, 6], [2, 6]), ([7, 6], [7]), ([8], [8]), ([8], [8]), ([8], [8]), ([11, 8], [8, 11]), ([9, 10, 12, 8, 8], [8, 9, 10, 12]), ([8], [8]), ([8], [8]), ([15, 8], [8, 15]), ([8], [8]), ([17, 8], [8, 17]), ([14, 16, 18, 13, 8], [8, 14, 16, 18]), ([13, 19, 8], [8, 13, 19]), ([8, 20], [8, 20])])
def lodgerlaw26_GaugeTells.B5 : List Nat := [0, 0, 3, 0, 0, 16, 63, 127, 255, 511, 511, 511, 2559, 8191, 511, 511, 33279, 511, 131583, 524287, 1048575, 2097151]
theorem lodgerlaw26_GaugeTells.tab5 : rtab .any (opsOf Try.f3 5) = lodgerlaw26_GaugeTells.T5 := by kernel_rfl
theorem lodgerlaw26_GaugeTells.bits5 : waitsOk lodgerlaw26_GaugeTells.T5.2 lodgerlaw26_GaugeTells.B5 = true := by kernel_rfl
set_option maxHeartbeats 8000000 in
set_option maxRecDepth 100000 in
theorem lodgerlaw26_GaugeTells.calls (k : Nat) (ab ac : Int) (ao : Option Addr) (ap : Nat) (aa : List Int) (ad ae : Int) (af ag : Int) (A1 : Option Addr) (c1 : Nat) (l1 : List Int) (a2 : Nat) (a3 : Int) (r : Bool) (w : World) (hr0_2 : Kd.C (Kd.int .i64) w ao aa.length aa) (hc0_2 : aa.length ≤ ap) (hr1 : Kd.C (Kd.int .i64) w A1 l1.length l1) (hc1 : l1.length ≤ c1) (hr_ : r = true) (h : lodgerlaw26_GaugeTells.f k ab ac aa ad ae af ag l1 a2 a3 = some r) :
  Calls Try.prog 3 #[.agg #[.int .u32 ab, .int .i64 ac, .slice ao aa.length ap, .int .i64 ad, .int .i64 ae, .int .i64 af, .int .i64 ag], .slice A1 l1.length c1, .float .f64 a2, .int .u8 a3] w fun e w' => e = .returned (.bool r) ∧ Below w.heap.size w w' := by
 have hu27 := Try.underlying27
 have an := Aside0.mk hr0_2
 have am := Aside0.mk hc0_2
 clear hr0_2 hc0_2
 have aE := Aside0.mk hr1
 have aD := Aside0.mk hc1
 clear hr1 hc1
 have HB := Aside0.mk (Below.refl w.heap.size w)
 replace hr_ := Aside0.mk hr_
 have H : ((lodgerlaw26_awake.f k).bind fun a9 => (if a9 = true then ((lodgerref11_Fits.f k ab ac aa ad ae af ag l1).bind fun ay => (if ay = true then (lodgerlaw26_GaugeTells.j0 k l1 a2 a3 (decide (a3 > 200)) ab ac aa ad ae af ag) else (lodgerlaw26_GaugeTells.j0 k l1 a2 a3 true ab ac aa ad ae af ag))) else (lodgerlaw26_GaugeTells.j0 k l1 a2 a3 true ab ac aa ad ae af ag))) = some r := h
 clear h
 have bG := Aside0.mk H
 clear H
 go_enter Try.func3, Try.ntmps3
 go_upto_region 1 with (first | ((with_reducible refine gd_ 4 ?_); (try (refine gate_guard (by rfl) ?_; dsimp only)); refine bx_ (N := 4) (cs := #[.int .u32 ab, .int .i64 ac, .slice ao aa.length ap, .int .i64 ad, .int .i64 ae, .int .i64 af, .int .i64 ag]) (t := 27) ?_; intro aB hg w6 ah hb; have cb := gG_ hg HB; have ca := gG_ hg HB; replace HB := hS_ HB hb; clear hb hg))
 (try simp only [Act.put, List.setIfInBounds_toArray, List.set_cons_zero, List.set_cons_succ])
 go_cut [24] (fun v24 wc => ∃ (kq : Nat) (aC : Bool), v24 = .bool aC ∧ Aside0 (lodgerlaw26_GaugeTells.j0 kq l1 a2 a3 aC ab ac aa ad ae af ag = some r) ∧ Aside0 (kq ≤ k) ∧ Aside0 (wc.heap[aB]? = some (.cells #[.int .u32 ab, .int .i64 ac, (.slice ao aa.length ap), .int .i64 ad, .int .i64 ae, .int .i64 af, .int .i64 ag] 27 (0, 0))) ∧ Aside0 (Below w.heap.size w wc))
 case first =>
  have H := bG.out; clear bG; replace H := bi_ H; obtain ⟨a9, A70, H⟩ := H
  replace H : (if a9 = true then ((lodgerref11_Fits.f k ab ac aa ad ae af ag l1).bind fun ay => (if ay = true then (lodgerlaw26_GaugeTells.j0 k l1 a2 a3 (decide (a3 > 200)) ab ac aa ad ae af ag) else (lodgerlaw26_GaugeTells.j0 k l1 a2 a3 true ab ac aa ad ae af ag))) else (lodgerlaw26_GaugeTells.j0 k l1 a2 a3 true ab ac aa ad ae af ag)) = some r := H
  have A7 := Aside0.mk A70; clear A70
  by_cases c8 : a9 = true
  ·subst c8
   have H1 : ((lodgerref11_Fits.f k ab ac aa ad ae af ag l1).bind fun ay => (if ay = true then (lodgerlaw26_GaugeTells.j0 k l1 a2 a3 (decide (a3 > 200)) ab ac aa ad ae af ag) else (lodgerlaw26_GaugeTells.j0 k l1 a2 a3 true ab ac aa ad ae af ag))) = some r := pf_ rfl H
   clear H; have H := H1; clear H1; replace H := bi_ H; obtain ⟨ay, A90, H⟩ := H
   replace H : (if ay = true then (lodgerlaw26_GaugeTells.j0 k l1 a2 a3 (decide (a3 > 200)) ab ac aa ad ae af ag) else (lodgerlaw26_GaugeTells.j0 k l1 a2 a3 true ab ac aa ad ae af ag)) = some r := H
   have A9 := Aside0.mk A90; clear A90
   by_cases c10 : ay = true
   ·subst c10
    have H1 : (lodgerlaw26_GaugeTells.j0 k l1 a2 a3 (decide (a3 > 200)) ab ac aa ad ae af ag) = some r := pf_ rfl H
    clear H; have H := H1; clear H1
    have H' := Aside0.mk H
    clear H
    go_wp2_with (first | ((with_reducible refine gate_callee (f := 7) rfl ?_); refine goesL_ (some 13) rfl rfl Try.func7 (by kernel_rfl) rfl #[] rfl am_ ?_; (with_reducible refine (lodgerlaw26_awake.calls k  true _ A7.out).mono ?_); rintro e w11 ⟨rfl, hb⟩; refine ⟨_, rfl, ?_⟩; replace HB := hS_ HB hb; replace ah := bB_ ah hb; (try clear hb); obtain ⟨aF, aG, aH, aI, aJ, aK, aL, aT, aU, aV, aW, aX, aY, aZ⟩ := cz7_ (w := w11) ah) | (go_at_call 8; (with_reducible refine (lodgerref11_Fits.calls k ab ac _ _ aa ad ae af ag _ _ l1 true _ (cC_ an HB) am.out (cC_ aE HB) aD.out A9.out).mono ?_); rintro e w13 ⟨rfl, hb⟩; replace HB := hS_ HB hb; replace ah := bB_ ah hb; (try clear hb)))
    go_meet
    case rel => exact ⟨_, (decide (a3 > 200)), rs_, H', ⟨by first | omega | exact Nat.le_refl _⟩, ⟨bk_ ah⟩, ⟨hB_ HB⟩⟩
   ·replace c10 := Bool.eq_false_iff.mpr c10
    subst c10
    have H1 : (lodgerlaw26_GaugeTells.j0 k l1 a2 a3 true ab ac aa ad ae af ag) = some r := nf_ H
    clear H; have H := H1; clear H1
    have H' := Aside0.mk H
    clear H
    go_wp2_with (first | ((with_reducible refine gate_callee (f := 7) rfl ?_); refine goesL_ (some 13) rfl rfl Try.func7 (by kernel_rfl) rfl #[] rfl am_ ?_; (with_reducible refine (lodgerlaw26_awake.calls k  true _ A7.out).mono ?_); rintro e w14 ⟨rfl, hb⟩; refine ⟨_, rfl, ?_⟩; replace HB := hS_ HB hb; replace ah := bB_ ah hb; (try clear hb); obtain ⟨aM, aN, aO, aP, aQ, aR, aS, a0, a1, a4, a5, a6, a7, a8⟩ := cz7_ (w := w14) ah) | (go_at_call 8; (with_reducible refine (lodgerref11_Fits.calls k ab ac _ _ aa ad ae af ag _ _ l1 false _ (cC_ an HB) am.out (cC_ aE HB) aD.out A9.out).mono ?_); rintro e w16 ⟨rfl, hb⟩; replace HB := hS_ HB hb; replace ah := bB_ ah hb; (try clear hb)))
    go_meet
    case rel => exact ⟨_, (true), rs_, H', ⟨by first | omega | exact Nat.le_refl _⟩, ⟨bk_ ah⟩, ⟨hB_ HB⟩⟩
  ·replace c8 := Bool.eq_false_iff.mpr c8
   subst c8
   have H1 : (lodgerlaw26_GaugeTells.j0 k l1 a2 a3 true ab ac aa ad ae af ag) = some r := nf_ H
   clear H; have H := H1; clear H1
   have H' := Aside0.mk H
   clear H
   go_wp2_with (first | ((with_reducible refine gate_callee (f := 7) rfl ?_); refine goesL_ (some 13) rfl rfl Try.func7 (by kernel_rfl) rfl #[] rfl am_ ?_; (with_reducible refine (lodgerlaw26_awake.calls k  false _ A7.out).mono ?_); rintro e w17 ⟨rfl, hb⟩; refine ⟨_, rfl, ?_⟩; replace HB := hS_ HB hb; replace ah := bB_ ah hb; (try clear hb)))
   go_meet
   case rel => exact ⟨_, (true), rs_, H', ⟨by first | omega | exact Nat.le_refl _⟩, ⟨bk_ ah⟩, ⟨hB_ HB⟩⟩
 case rest =>
  clear bG
  try clear c1
  try clear p2
  try clear c3
  try clear c7
  try clear c8
  try clear c10
  try clear aF aG aH aI aJ aK aL
  try clear aM aN aO aP aQ aR aS
  try clear aT aU aV aW aX aY aZ
  try clear a0 a1 a4 a5 a6 a7 a8
  obtain ⟨kq, aC, rfl, HA, bH, ah, HB⟩ := hcut
  cases kq with
  | zero => exact absurd HA.out (by simp [lodgerlaw26_GaugeTells.j0])
  | succ kj4 =>
   have H := HA.out; clear HA; simp only [lodgerlaw26_GaugeTells.j0] at H
   by_cases c18 : aC = true
   ·subst c18
    have H1 : ((lodgerlaw26_awake.f kj4).bind fun ba => (some ba)) = some r := pf_ rfl H
    clear H; have H := H1; clear H1; replace H := bi_ H; obtain ⟨ba, A190, H⟩ := H
    replace H : (some ba) = some r := H
    have A19 := Aside0.mk A190; clear A190
    first | (exfalso; rw [hr_.out] at H; exact absurd (Option.some.inj H) (by decide)) | (try clear hr_)
    all_goals
     obtain rfl := Option.some.inj H
     go_wp2_with (first | ((with_reducible refine gate_callee (f := 7) rfl ?_); refine goesL_ (some 25) rfl rfl Try.func7 (by kernel_rfl) rfl #[] rfl am_ ?_; (with_reducible refine (lodgerlaw26_awake.calls kj4  ba _ A19.out).mono ?_); rintro e w20 ⟨rfl, hb⟩; refine ⟨_, rfl, ?_⟩; replace HB := hS_ HB hb; replace ah := bB_ ah hb; (try clear hb)))
     go_ret
     exact ⟨er_, hB_ HB⟩
   ·replace c18 := Bool.eq_false_iff.mpr c18
    subst c18
    have H1 : ((gauge_Above.f ab ac aa ad ae af ag l1 a2).bind fun bt198 => ((gauge_Least.f kj4 ab ac aa ad ae af ag a2).bind fun bt200 => ((gauge_Of.f ab ac aa ad ae af ag l1).bind fun av => ((lodgerref26_Part.f kj4 ab ac aa ad ae af ag (l1.length : Int)).bind fun ar => (if (fne av ar) = true then (lodgerlaw26_GaugeTells.j1 kj4 l1 a2 bt198.1 bt198.2 bt200.1 bt200.2 true ab ac aa ad ae af ag) else ((gauge_Bar.f kj4 ab ac aa ad ae af ag l1 (wrap64 (a3))).bind fun au => ((lodgerref26_Bar.f kj4 ab ac aa ad ae af ag (l1.length : Int) (wrap64 (a3))).bind fun aq => (lodgerlaw26_GaugeTells.j1 kj4 l1 a2 bt198.1 bt198.2 bt200.1 bt200.2 (au.toList != aq.toList) ab ac aa ad ae af ag)))))))) = some r := nf_ H
    clear H; have H := H1; clear H1; replace H := bi_ H; obtain ⟨⟨aj, ai⟩, A210, H⟩ := H
    replace H : ((gauge_Least.f kj4 ab ac aa ad ae af ag a2).bind fun bt200 => ((gauge_Of.f ab ac aa ad ae af ag l1).bind fun av => ((lodgerref26_Part.f kj4 ab ac aa ad ae af ag (l1.length : Int)).bind fun ar => (if (fne av ar) = true then (lodgerlaw26_GaugeTells.j1 kj4 l1 a2 aj ai bt200.1 bt200.2 true ab ac aa ad ae af ag) else ((gauge_Bar.f kj4 ab ac aa ad ae af ag l1 (wrap64 (a3))).bind fun au => ((lodgerref26_Bar.f kj4 ab ac aa ad ae af ag (l1.length : Int) (wrap64 (a3))).bind fun aq => (lodgerlaw26_GaugeTells.j1 kj4 l1 a2 aj ai bt200.1 bt200.2 (au.toList != aq.toList) ab ac aa ad ae af ag))))))) = some r := H
    have A21 := Aside0.mk A210; clear A210; replace H := bi_ H; obtain ⟨⟨ak, al⟩, A220, H⟩ := H
    replace H : ((gauge_Of.f ab ac aa ad ae af ag l1).bind fun av => ((lodgerref26_Part.f kj4 ab ac aa ad ae af ag (l1.length : Int)).bind fun ar => (if (fne av ar) = true then (lodgerlaw26_GaugeTells.j1 kj4 l1 a2 aj ai ak al true ab ac aa ad ae af ag) else ((gauge_Bar.f kj4 ab ac aa ad ae af ag l1 (wrap64 (a3))).bind fun au => ((lodgerref26_Bar.f kj4 ab ac aa ad ae af ag (l1.length : Int) (wrap64 (a3))).bind fun aq => (lodgerlaw26_GaugeTells.j1 kj4 l1 a2 aj ai ak al (au.toList != aq.toList) ab ac aa ad ae af ag)))))) = some r := H
    have A22 := Aside0.mk A220; clear A220; have bc := Aside0.mk H; clear H; obtain ⟨bd, be, bf, bg, bh, bi, bj, br, bs, bt, bu, bv, bw, bx⟩ := cz7_ (w := wc) ah
    go_upto_region 5 with (first | ((with_reducible refine gate_callee (f := 9) rfl ?_); refine goesL_ (some 30) rfl rfl Try.func9 (by kernel_rfl) rfl #[.agg #[.int .u32 ab, .int .i64 ac, .slice ao aa.length ap, .int .i64 ad, .int .i64 ae, .int .i64 af, .int .i64 ag], .slice A1 l1.length c1, .float .f64 a2] rfl am_ ?_; (with_reducible refine (gauge_Above.calls ab ac _ _ aa ad ae af ag _ _ l1 a2 aj ai _ ?side1 ?side2 ?side3 ?side4 A21.out).mono ?_); (case side1 => exact cC_ an HB); (case side2 => exact am.out); (case side3 => exact cC_ aE HB); (case side4 => exact aD.out); rintro e w25 ⟨rfl, hb⟩; refine ⟨_, rfl, ?_⟩; replace HB := hS_ HB hb; replace ah := bB_ ah hb; (try clear hb); obtain ⟨bk, bl, bm, bn, bo, bp, bq, bz, bA, bB, bC, bD, bE, bF⟩ := cz7_ (w := w25) ah) | ((with_reducible refine gate_callee (f := 10) rfl ?_); refine goesL_ (some 36) rfl rfl Try.func10 (by kernel_rfl) rfl #[.agg #[.int .u32 ab, .int .i64 ac, .slice ao aa.length ap, .int .i64 ad, .int .i64 ae, .int .i64 af, .int .i64 ag], .float .f64 a2] rfl am_ ?_; (with_reducible refine (gauge_Least.calls kj4 ab ac _ _ aa ad ae af ag a2 ak al _ ?side1 ?side2 A22.out).mono ?_); (case side1 => exact cC_ an HB); (case side2 => exact am.out); rintro e w27 ⟨rfl, hb⟩; refine ⟨_, rfl, ?_⟩; replace HB := hS_ HB hb; replace ah := bB_ ah hb; (try clear hb)))
    (try simp only [Act.put, List.setIfInBounds_toArray, List.set_cons_zero, List.set_cons_succ])
    go_cut [60] (fun v60 wc => ∃ (kq : Nat) (aA : Bool), v60 = .bool aA ∧ Aside0 (lodgerlaw26_GaugeTells.j1 kq l1 a2 aj ai ak al aA ab ac aa ad ae af ag = some r) ∧ Aside0 (kq ≤ kj4) ∧ Aside0 (wc.heap[aB]? = some (.cells #[.int .u32 ab, .int .i64 ac, (.slice ao aa.length ap), .int .i64 ad, .int .i64 ae, .int .i64 af, .int .i64 ag] 27 (0, 0))) ∧ Aside0 (Below w.heap.size w wc))
    case first =>
     have H := bc.out; clear bc; replace H := bi_ H; obtain ⟨av, A280, H⟩ := H
     replace H : ((lodgerref26_Part.f kj4 ab ac aa ad ae af ag (l1.length : Int)).bind fun ar => (if (fne av ar) = true then (lodgerlaw26_GaugeTells.j1 kj4 l1 a2 aj ai ak al true ab ac aa ad ae af ag) else ((gauge_Bar.f kj4 ab ac aa ad ae af ag l1 (wrap64 (a3))).bind fun au => ((lodgerref26_Bar.f kj4 ab ac aa ad ae af ag (l1.length : Int) (wrap64 (a3))).bind fun aq => (lodgerlaw26_GaugeTells.j1 kj4 l1 a2 aj ai ak al (au.toList != aq.toList) ab ac aa ad ae af ag))))) = some r := H
     have A28 := Aside0.mk A280; clear A280; replace H := bi_ H; obtain ⟨ar, A290, H⟩ := H
     replace H : (if (fne av ar) = true then (lodgerlaw26_GaugeTells.j1 kj4 l1 a2 aj ai ak al true ab ac aa ad ae af ag) else ((gauge_Bar.f kj4 ab ac aa ad ae af ag l1 (wrap64 (a3))).bind fun au => ((lodgerref26_Bar.f kj4 ab ac aa ad ae af ag (l1.length : Int) (wrap64 (a3))).bind fun aq => (lodgerlaw26_GaugeTells.j1 kj4 l1 a2 aj ai ak al (au.toList != aq.toList) ab ac aa ad ae af ag)))) = some r := H
     have A29 := Aside0.mk A290; clear A290
     by_cases c30 : (fne av ar) = true
     ·rw [if_pos c30] at H
      have az : (fne av ar) = true := c30
      clear c30
      (first | rw [az] | (simp only [i64_w, i32_w]; rw [az]) | skip)
      have H' := Aside0.mk H
      clear H
      try go_wp2
      replace ah := Aside0.mk (blk_drew ah.out); replace HB := Aside0.mk (below_drew1 HB.out)
      refine start_ (n := 22) (S := fun w' => L7_ w' aB (.int .u32 ab) (.int .i64 ac) (.slice ao aa.length ap) (.int .i64 ad) (.int .i64 ae) (.int .i64 af) (.int .i64 ag)) (ds := []) (tf 22 0) (by kernel_rfl) rfl rfl (cl7_ ah) (fun hHeld => ?_); refine with_tabW lodgerlaw26_GaugeTells.tab5 lodgerlaw26_GaugeTells.bits5 (fun HT_ HW_ => ?_)
      generalize w27.drew = w31 at ah HB hHeld ⊢
      refine puU_ 1 40 (tf 22 2) HT_ ?_; refine puU_ 4 43 (tf 22 18) HT_ ?_; refine puU_ 5 44 (tf 22 50) HT_ ?_; refine tkU_ 0 39 (tf 22 51) rfl rfl HT_ HW_ hHeld (by rintro w' ⟨s0, s1, s2, s3, s4, s5, s6⟩; go_simp; with_reducible rfl) ?_; refine tkU_ 3 42 (tf 22 59) rfl rfl HT_ HW_ hHeld (by rintro w' ⟨s0, s1, s2, s3, s4, s5, s6⟩; go_simp; with_reducible rfl) ?_
      refine on_ (i := 2) (N := some 41) (tf 22 63) HT_ (fun K hK => ?_)
      refine goes_ Try.func11 (by kernel_rfl) rfl #[.agg #[.int .u32 ab, .int .i64 ac, .slice ao aa.length ap, .int .i64 ad, .int .i64 ae, .int .i64 af, .int .i64 ag], .slice A1 l1.length c1] (by rfl) rfl rfl am_ ?_
      with_reducible refine (gauge_Of.calls ab ac _ _ aa ad ae af ag _ _ l1 av _ ?side1 ?side2 ?side3 ?side4 A28.out).mono ?_
      (case side1 => exact cC_ an HB)
      (case side2 => exact am.out)
      (case side3 => exact cC_ aE HB)
      (case side4 => exact aD.out)
      rintro e w32 ⟨rfl, hb⟩
      refine ⟨_, rfl, ?_⟩
      replace ah := bB_ ah hb; replace HB := hS_ HB hb
      (try clear hb)
      (try clear hb2)
      (try clear hk)
      (try clear hi)
      refine hK.out _ _ (cl7_ ah) (fun hHeld => ?_)
      clear hK K
      refine norm_ (a' := ?_) ?_ ?_
      rotate_left
      ·show Act.put _ (some 41) _ = _
       simp only [Act.put, List.setIfInBounds_toArray, List.set_cons_zero, List.set_cons_succ, i64_w, i32_w]
       rfl
      refine on_ (i := 6) (N := some 45) (tf 22 127) HT_ (fun K hK => ?_)
      refine goes_ Try.func12 (by kernel_rfl) rfl #[.agg #[.int .u32 ab, .int .i64 ac, .slice ao aa.length ap, .int .i64 ad, .int .i64 ae, .int .i64 af, .int .i64 ag], .int .i64 (l1.length : Int)] (by rfl) rfl rfl am_ ?_
      with_reducible refine (lodgerref26_Part.calls kj4 ab ac _ _ aa ad ae af ag (l1.length : Int) ar _ ?side1 ?side2 A29.out).mono ?_
      (case side1 => exact cC_ an HB)
      (case side2 => exact am.out)
      rintro e w33 ⟨rfl, hb⟩
      refine ⟨_, rfl, ?_⟩
      replace ah := bB_ ah hb; replace HB := hS_ HB hb
      (try clear hb)
      (try clear hb2)
      (try clear hk)
      (try clear hi)
      refine hK.out _ _ (cl7_ ah) (fun hHeld => ?_)
      clear hK K
      refine norm_ (a' := ?_) ?_ ?_
      rotate_left
      ·show Act.put _ (some 45) _ = _
       simp only [Act.put, List.setIfInBounds_toArray, List.set_cons_zero, List.set_cons_succ, i64_w, i32_w]
       rfl
      refine puU_ 7 46 (tf 22 255) HT_ ?_; refine puU_ 8 47 (tf 22 511) HT_ ?_; refine pnU_ 9 48 (tf 22 1023) HT_ ?_; refine pnU_ 10 49 (tf 22 2047) HT_ ?_; refine pnU_ 11 50 (tf 22 4095) HT_ ?_; refine pnU_ 12 51 (tf 22 8191) HT_ ?_; refine pnU_ 13 52 (tf 22 16383) HT_ ?_; refine pnU_ 14 53 (tf 22 32767) HT_ ?_; refine pnU_ 15 54 (tf 22 65535) HT_ ?_; refine pnU_ 16 55 (tf 22 131071) HT_ ?_; refine pnU_ 17 56 (tf 22 262143) HT_ ?_; refine pnU_ 18 57 (tf 22 524287) HT_ ?_; refine pnU_ 19 58 (tf 22 1048575) HT_ ?_; refine pnU_ 20 59 (tf 22 2097151) HT_ ?_; refine puU_ 21 60 (tf 22 4194303) HT_ ?_
      refine done_ (done_of HT_.out (by kernel_rfl)) ?_
      try go_wp2
      go_meet
      case rel => exact ⟨_, (true), rs_, H', ⟨by have := bH.out; first | omega | exact Nat.le_refl _⟩, ⟨bk_ ah⟩, ⟨hB_ HB⟩⟩
     ·rw [if_neg c30] at H
      have az : (fne av ar) = false := by simpa using c30
      clear c30
      (first | rw [az] | (simp only [i64_w, i32_w]; rw [az]) | skip)
      replace H := bi_ H; obtain ⟨au, A340, H⟩ := H
      replace H : ((lodgerref26_Bar.f kj4 ab ac aa ad ae af ag (l1.length : Int) (wrap64 (a3))).bind fun aq => (lodgerlaw26_GaugeTells.j1 kj4 l1 a2 aj ai ak al (au.toList != aq.toList) ab ac aa ad ae af ag)) = some r := H
      have A34 := Aside0.mk A340; clear A340; replace H := bi_ H; obtain ⟨aq, A350, H⟩ := H
      replace H : (lodgerlaw26_GaugeTells.j1 kj4 l1 a2 aj ai ak al (au.toList != aq.toList) ab ac aa ad ae af ag) = some r := H
      have A35 := Aside0.mk A350; clear A350
      have H' := Aside0.mk H
      clear H
      try go_wp2
      replace ah := Aside0.mk (blk_drew ah.out); replace HB := Aside0.mk (below_drew1 HB.out)
      refine start_ (n := 22) (S := fun w' => L7_ w' aB (.int .u32 ab) (.int .i64 ac) (.slice ao aa.length ap) (.int .i64 ad) (.int .i64 ae) (.int .i64 af) (.int .i64 ag)) (ds := []) (tf 22 0) (by kernel_rfl) rfl rfl (cl7_ ah) (fun hHeld => ?_); refine with_tabW lodgerlaw26_GaugeTells.tab5 lodgerlaw26_GaugeTells.bits5 (fun HT_ HW_ => ?_)
      generalize w27.drew = w36 at ah HB hHeld ⊢
      refine puU_ 1 40 (tf 22 2) HT_ ?_; refine puU_ 4 43 (tf 22 18) HT_ ?_; refine puU_ 5 44 (tf 22 50) HT_ ?_; refine tkU_ 0 39 (tf 22 51) rfl rfl HT_ HW_ hHeld (by rintro w' ⟨s0, s1, s2, s3, s4, s5, s6⟩; go_simp; with_reducible rfl) ?_; refine tkU_ 3 42 (tf 22 59) rfl rfl HT_ HW_ hHeld (by rintro w' ⟨s0, s1, s2, s3, s4, s5, s6⟩; go_simp; with_reducible rfl) ?_
      refine on_ (i := 2) (N := some 41) (tf 22 63) HT_ (fun K hK => ?_)
      refine goes_ Try.func11 (by kernel_rfl) rfl #[.agg #[.int .u32 ab, .int .i64 ac, .slice ao aa.length ap, .int .i64 ad, .int .i64 ae, .int .i64 af, .int .i64 ag], .slice A1 l1.length c1] (by rfl) rfl rfl am_ ?_
      with_reducible refine (gauge_Of.calls ab ac _ _ aa ad ae af ag _ _ l1 av _ ?side1 ?side2 ?side3 ?side4 A28.out).mono ?_
      (case side1 => exact cC_ an HB)
      (case side2 => exact am.out)
      (case side3 => exact cC_ aE HB)
      (case side4 => exact aD.out)
      rintro e w37 ⟨rfl, hb⟩
      refine ⟨_, rfl, ?_⟩
      replace ah := bB_ ah hb; replace HB := hS_ HB hb
      (try clear hb)
      (try clear hb2)
      (try clear hk)
      (try clear hi)
      refine hK.out _ _ (cl7_ ah) (fun hHeld => ?_)
      clear hK K
      refine norm_ (a' := ?_) ?_ ?_
      rotate_left
      ·show Act.put _ (some 41) _ = _
       simp only [Act.put, List.setIfInBounds_toArray, List.set_cons_zero, List.set_cons_succ, i64_w, i32_w]
       rfl
      refine on_ (i := 6) (N := some 45) (tf 22 127) HT_ (fun K hK => ?_)
      refine goes_ Try.func12 (by kernel_rfl) rfl #[.agg #[.int .u32 ab, .int .i64 ac, .slice ao aa.length ap, .int .i64 ad, .int .i64 ae, .int .i64 af, .int .i64 ag], .int .i64 (l1.length : Int)] (by rfl) rfl rfl am_ ?_
      with_reducible refine (lodgerref26_Part.calls kj4 ab ac _ _ aa ad ae af ag (l1.length : Int) ar _ ?side1 ?side2 A29.out).mono ?_
      (case side1 => exact cC_ an HB)
      (case side2 => exact am.out)
      rintro e w38 ⟨rfl, hb⟩
      refine ⟨_, rfl, ?_⟩
      replace ah := bB_ ah hb; replace HB := hS_ HB hb
      (try clear hb)
      (try clear hb2)
      (try clear hk)
      (try clear hi)
      refine hK.out _ _ (cl7_ ah) (fun hHeld => ?_)
      clear hK K
      refine norm_ (a' := ?_) ?_ ?_
      rotate_left
      ·show Act.put _ (some 45) _ = _
       simp only [Act.put, List.setIfInBounds_toArray, List.set_cons_zero, List.set_cons_succ, i64_w, i32_w]
       rfl
      refine puU_ 7 46 (tf 22 255) HT_ ?_; refine puU_ 8 47 (tf 22 511) HT_ ?_; refine puU_ 10 49 (tf 22 1535) HT_ ?_; refine puU_ 11 50 (tf 22 3583) HT_ ?_; refine puU_ 12 51 (tf 22 7679) HT_ ?_; refine puU_ 15 54 (tf 22 40447) HT_ ?_; refine puU_ 16 55 (tf 22 105983) HT_ ?_; refine puU_ 17 56 (tf 22 237055) HT_ ?_; refine puU_ 18 57 (tf 22 499199) HT_ ?_; refine tkU_ 9 48 (tf 22 499711) rfl rfl HT_ HW_ hHeld (by rintro w' ⟨s0, s1, s2, s3, s4, s5, s6⟩; go_simp; with_reducible rfl) ?_; refine tkU_ 14 53 (tf 22 516095) rfl rfl HT_ HW_ hHeld (by rintro w' ⟨s0, s1, s2, s3, s4, s5, s6⟩; go_simp; with_reducible rfl) ?_
      refine on_ (i := 13) (N := some 52) (tf 22 524287) HT_ (fun K hK => ?_)
      refine goes_ Try.func13 (by kernel_rfl) rfl #[.agg #[.int .u32 ab, .int .i64 ac, .slice ao aa.length ap, .int .i64 ad, .int .i64 ae, .int .i64 af, .int .i64 ag], .slice A1 l1.length c1, .int .i64 (wrap64 (a3))] (by rfl) rfl rfl am_ ?_
      with_reducible refine (gauge_Bar.calls kj4 ab ac _ _ aa ad ae af ag _ _ l1 (wrap64 (a3)) au _ ?side1 ?side2 ?side3 ?side4 A34.out).mono ?_
      (case side1 => exact cC_ an HB)
      (case side2 => exact am.out)
      (case side3 => exact cC_ aE HB)
      (case side4 => exact aD.out)
      rintro e w39 ⟨rfl, hb⟩
      refine ⟨_, rfl, ?_⟩
      replace ah := bB_ ah hb; replace HB := hS_ HB hb
      (try clear hb)
      (try clear hb2)
      (try clear hk)
      (try clear hi)
      refine hK.out _ _ (cl7_ ah) (fun hHeld => ?_)
      clear hK K
      refine norm_ (a' := ?_) ?_ ?_
      rotate_left
      ·show Act.put _ (some 52) _ = _
       simp only [Act.put, List.setIfInBounds_toArray, List.set_cons_zero, List.set_cons_succ, i64_w, i32_w]
       rfl
      refine on_ (i := 19) (N := some 58) (tf 22 1048575) HT_ (fun K hK => ?_)
      refine goes_ Try.func14 (by kernel_rfl) rfl #[.agg #[.int .u32 ab, .int .i64 ac, .slice ao aa.length ap, .int .i64 ad, .int .i64 ae, .int .i64 af, .int .i64 ag], .int .i64 (l1.length : Int), .int .i64 (wrap64 (a3))] (by rfl) rfl rfl am_ ?_
      with_reducible refine (lodgerref26_Bar.calls kj4 ab ac _ _ aa ad ae af ag (l1.length : Int) (wrap64 (a3)) aq _ ?side1 ?side2 A35.out).mono ?_
      (case side1 => exact cC_ an HB)
      (case side2 => exact am.out)
      rintro e w40 ⟨rfl, hb⟩
      refine ⟨_, rfl, ?_⟩
      replace ah := bB_ ah hb; replace HB := hS_ HB hb
      (try clear hb)
      (try clear hb2)
      (try clear hk)
      (try clear hi)
      refine hK.out _ _ (cl7_ ah) (fun hHeld => ?_)
      clear hK K
      refine norm_ (a' := ?_) ?_ ?_
      rotate_left
      ·show Act.put _ (some 58) _ = _
       simp only [Act.put, List.setIfInBounds_toArray, List.set_cons_zero, List.set_cons_succ, i64_w, i32_w]
       rfl
      refine puU_ 20 59 (tf 22 2097151) HT_ ?_; refine puU_ 21 60 (tf 22 4194303) HT_ ?_
      refine done_ (done_of HT_.out (by kernel_rfl)) ?_
      try go_wp2
      go_meet
      case rel => exact ⟨_, ((au.toList != aq.toList)), rs_, H', ⟨by have := bH.out; first | omega | exact Nat.le_refl _⟩, ⟨bk_ ah⟩, ⟨hB_ HB⟩⟩
    case rest =>
     clear bc
     try clear c1
     try clear p2
     try clear c3
     try clear p6
     try clear c7
     try clear c8
     try clear c9
     try clear c10
     try clear c11
     try clear c12
     try clear c13
     try clear c14
     try clear c18
     try clear c30
     try clear az
     try clear aF aG aH aI aJ aK aL
     try clear aM aN aO aP aQ aR aS
     try clear bd be bf bg bh bi bj
     try clear bk bl bm bn bo bp bq
     try clear aT aU aV aW aX aY aZ
     try clear a0 a1 a4 a5 a6 a7 a8
     try clear br bs bt bu bv bw bx
     try clear bz bA bB bC bD bE bF
     try clear p2
     obtain ⟨kq, aA, rfl, HA, cn, ah, HB⟩ := hcut
     cases kq with
     | zero => exact absurd HA.out (by simp [lodgerlaw26_GaugeTells.j1])
     | succ kj22 =>
      have H := HA.out; clear HA; simp only [lodgerlaw26_GaugeTells.j1] at H
      by_cases c41 : aA = true
      ·subst c41
       have H1 : (some false) = some r := pf_ rfl H
       rw [hr_.out] at H1
       exact absurd (Option.some.inj H1) (by decide)
      ·replace c41 := Bool.eq_false_iff.mpr c41
       subst c41
       have H1 : ((lodgerref26_Mark.f a2).bind fun bb => (if bb = true then (if ai = 0 then ((lodgerref26_Part.f kj22 ab ac aa ad ae af ag (l1.length : Int)).bind fun aw => (if (aj == (fge aw a2)) = true then (if al = 0 then ((lodgerref26_Least.f kj22 ab ac aa ad ae af ag a2).bind fun ax => (some (ak == ax))) else (some false)) else (some false))) else (some false)) else (if aj = true then (some false) else (if ai = 1 then (if ak = 0 then (some (al == 1)) else (some false)) else (some false))))) = some r := nf_ H
       clear H; have H := H1; clear H1; replace H := bi_ H; obtain ⟨bb, A420, H⟩ := H
       replace H : (if bb = true then (if ai = 0 then ((lodgerref26_Part.f kj22 ab ac aa ad ae af ag (l1.length : Int)).bind fun aw => (if (aj == (fge aw a2)) = true then (if al = 0 then ((lodgerref26_Least.f kj22 ab ac aa ad ae af ag a2).bind fun ax => (some (ak == ax))) else (some false)) else (some false))) else (some false)) else (if aj = true then (some false) else (if ai = 1 then (if ak = 0 then (some (al == 1)) else (some false)) else (some false)))) = some r := H
       have A42 := Aside0.mk A420; clear A420
       by_cases c43 : bb = true
       ·subst c43
        have H1 : (if ai = 0 then ((lodgerref26_Part.f kj22 ab ac aa ad ae af ag (l1.length : Int)).bind fun aw => (if (aj == (fge aw a2)) = true then (if al = 0 then ((lodgerref26_Least.f kj22 ab ac aa ad ae af ag a2).bind fun ax => (some (ak == ax))) else (some false)) else (some false))) else (some false)) = some r := pf_ rfl H
        clear H; have H := H1; clear H1
        by_cases c44 : ai = 0
        ·rw [if_pos c44] at H
         have cc : (ai == 0) = true := beq_iff_eq.mpr c44
         have cd : (ai != 0) = false := bne_eq_false_iff_eq.mpr c44
         clear c44; replace H := bi_ H; obtain ⟨aw, A450, H⟩ := H
         replace H : (if (aj == (fge aw a2)) = true then (if al = 0 then ((lodgerref26_Least.f kj22 ab ac aa ad ae af ag a2).bind fun ax => (some (ak == ax))) else (some false)) else (some false)) = some r := H
         have A45 := Aside0.mk A450; clear A450
         by_cases c46 : (aj == (fge aw a2)) = true
         ·rw [if_pos c46] at H
          have ce : (aj == (fge aw a2)) = true := c46
          (try (have cf : decide (aj = (fge aw a2)) = true := by simpa using c46))
          (try (have cg : (aj == (fge aw a2)) = true := by simpa using c46))
          clear c46
          by_cases c47 : al = 0
          ·rw [if_pos c47] at H
           have ch : (al == 0) = true := beq_iff_eq.mpr c47
           have ci : (al != 0) = false := bne_eq_false_iff_eq.mpr c47
           clear c47; replace H := bi_ H; obtain ⟨ax, A480, H⟩ := H
           replace H : (some (ak == ax)) = some r := H
           have A48 := Aside0.mk A480; clear A480
           first | (exfalso; rw [hr_.out] at H; exact absurd (Option.some.inj H) (by decide)) | (try clear hr_)
           all_goals
            obtain rfl := Option.some.inj H
            go_wp2_with (first | ((with_reducible refine gate_callee (f := 15) rfl ?_); refine goesL_ (some 62) rfl rfl Try.func15 (by kernel_rfl) rfl #[.float .f64 a2] rfl am_ ?_; (with_reducible refine (lodgerref26_Mark.calls a2 true _ A42.out).mono ?_); rintro e w' ⟨rfl, ⟨nd, rfl⟩⟩; refine ⟨_, rfl, ?_⟩; obtain ⟨bI, bJ, bK, bL, bM, bN, bO, bW, bX, bY, bZ, b0, b1, b2⟩ := cz7_ (w := wc) ah) | (go_at_call 12; (with_reducible refine (lodgerref26_Part.calls kj22 ab ac _ _ aa ad ae af ag (l1.length : Int) aw _ (cD_ (Kd.C_below an.out (hB_ HB))) am.out A45.out).mono ?_); rintro e w50 ⟨rfl, hb⟩; replace HB := hS_ HB hb; replace ah := bB_ ah hb; (try clear hb); obtain ⟨bP, bQ, bR, bS, bT, bU, bV, b3, b4, b5, b6, b7, b8, b9⟩ := cz7_ (w := w50) ah) | (go_at_call 16; (with_reducible refine (lodgerref26_Least.calls kj22 ab ac _ _ aa ad ae af ag a2 ax _ (cC_ an HB) am.out A48.out).mono ?_); rintro e w52 ⟨rfl, hb⟩; replace HB := hS_ HB hb; (try clear hb)))
            go_ret
            exact ⟨er_, hB_ HB⟩
          ·rw [if_neg c47] at H
           rw [hr_.out] at H
           exact absurd (Option.some.inj H) (by decide)
         ·rw [if_neg c46] at H
          rw [hr_.out] at H
          exact absurd (Option.some.inj H) (by decide)
        ·rw [if_neg c44] at H
         rw [hr_.out] at H
         exact absurd (Option.some.inj H) (by decide)
       ·replace c43 := Bool.eq_false_iff.mpr c43
        subst c43
        have H1 : (if aj = true then (some false) else (if ai = 1 then (if ak = 0 then (some (al == 1)) else (some false)) else (some false))) = some r := nf_ H
        clear H; have H := H1; clear H1
        by_cases c57 : aj = true
        ·subst c57
         have H1 : (some false) = some r := pf_ rfl H
         rw [hr_.out] at H1
         exact absurd (Option.some.inj H1) (by decide)
        ·replace c57 := Bool.eq_false_iff.mpr c57
         subst c57
         have H1 : (if ai = 1 then (if ak = 0 then (some (al == 1)) else (some false)) else (some false)) = some r := nf_ H
         clear H; have H := H1; clear H1
         by_cases c58 : ai = 1
         ·rw [if_pos c58] at H
          have cj : (ai == 1) = true := beq_iff_eq.mpr c58
          have ck : (ai != 1) = false := bne_eq_false_iff_eq.mpr c58
          clear c58
          by_cases c59 : ak = 0
          ·rw [if_pos c59] at H
           have cl : (ak == 0) = true := beq_iff_eq.mpr c59
           have cm : (ak != 0) = false := bne_eq_false_iff_eq.mpr c59
           clear c59
           first | (exfalso; rw [hr_.out] at H; exact absurd (Option.some.inj H) (by decide)) | (try clear hr_)
           all_goals
            obtain rfl := Option.some.inj H
            go_wp2_with (first | ((with_reducible refine gate_callee (f := 15) rfl ?_); refine goesL_ (some 62) rfl rfl Try.func15 (by kernel_rfl) rfl #[.float .f64 a2] rfl am_ ?_; (with_reducible refine (lodgerref26_Mark.calls a2 false _ A42.out).mono ?_); rintro e w' ⟨rfl, ⟨nd, rfl⟩⟩; refine ⟨_, rfl, ?_⟩) | (go_at_call 15; (with_reducible refine (lodgerref26_Mark.calls a2 false _ A42.out).mono ?_); rintro e w' ⟨rfl, ⟨nd, rfl⟩⟩))
            go_ret
            exact ⟨er_, hB_ HB⟩
          ·rw [if_neg c59] at H
           rw [hr_.out] at H
           exact absurd (Option.some.inj H) (by decide)
         ·rw [if_neg c58] at H
          rw [hr_.out] at H
          exact absurd (Option.some.inj H) (by decide)

/-- THE ONE PURE STATEMENT of lodgerlaw26_GaugeTells: yours. -/
def lodgerlaw26_GaugeTells.Pure : Prop := ∀ (a0_0 a0_1 : Int) (l0_2 : List Int) (a0_3 a0_4 : Int) (a0_5 a0_6 : Int) (l1 : List Int) (a2 : Nat) (a3 : Int), (Lit.int .u32 a0_0).wf = true → (Lit.int .i64 a0_1).wf = true → l0_2.length ≤ maxLen → (∀ x ∈ l0_2, (Lit.int .i64 x).wf = true) → (Lit.int .i64 a0_3).wf = true → (Lit.int .i64 a0_4).wf = true → (Lit.int .i64 a0_5).wf = true → (Lit.int .i64 a0_6).wf = true → l1.length ≤ maxLen → l1.length * 8 ≤ 140737488351232 → (∀ x ∈ l1, (Lit.int .i64 x).wf = true) → (Lit.float .f64 a2).wf = true → (Lit.int .u8 a3).wf = true → ∃ k, lodgerlaw26_GaugeTells.f k a0_0 a0_1 l0_2 a0_3 a0_4 a0_5 a0_6 l1 a2 a3 = some true
theorem lodgerlaw26_GaugeTells.walk (P : lodgerlaw26_GaugeTells.Pure) (a0_0 a0_1 : Int) (a0_2 : Option Addr) (len0_2 cap0_2 : Nat) (z0_2 : List Int) (a0_3 a0_4 : Int) (a0_5 a0_6 : Int) (a1 : Option Addr) (len1 cap1 : Nat) (z1 : List Int) (a2 : Nat) (a3 : Int) (w : World) (w0_0 : (Lit.int .u32 a0_0).wf = true) (w0_1 : (Lit.int .i64 a0_1).wf = true) (w0_2 : (a0_2 = none ∧ len0_2 = 0 ∧ cap0_2 = 0 ∧ z0_2 = []) ∨ ∃ x, a0_2 = some x ∧ len0_2 ≤ cap0_2 ∧ cap0_2 ≤ maxLen ∧ z0_2.length = cap0_2 ∧ (∀ i, i < z0_2.length → w.cell? (x.add i) = some (.int .i64 (z0_2.getD i 0))) ∧ ∀ n ∈ z0_2, (Lit.int .i64 n).wf = true) (w0_3 : (Lit.int .i64 a0_3).wf = true) (w0_4 : (Lit.int .i64 a0_4).wf = true) (w0_5 : (Lit.int .i64 a0_5).wf = true) (w0_6 : (Lit.int .i64 a0_6).wf = true) (w1 : (a1 = none ∧ len1 = 0 ∧ cap1 = 0 ∧ z1 = []) ∨ ∃ x, a1 = some x ∧ len1 ≤ cap1 ∧ cap1 ≤ maxLen ∧ z1.length = cap1 ∧ (∀ i, i < z1.length → w.cell? (x.add i) = some (.int .i64 (z1.getD i 0))) ∧ ∀ n ∈ z1, (Lit.int .i64 n).wf = true) (y1 : len1 * 8 ≤ 140737488351232) (w2 : (Lit.float .f64 a2).wf = true) (w3 : (Lit.int .u8 a3).wf = true) :
  Calls Try.prog 3 #[.agg #[.int .u32 a0_0, .int .i64 a0_1, .slice a0_2 len0_2 cap0_2, .int .i64 a0_3, .int .i64 a0_4, .int .i64 a0_5, .int .i64 a0_6], .slice a1 len1 cap1, .float .f64 a2, .int .u8 a3] w fun e w' => e = .returned (.bool true) ∧ Below w.heap.size w w' := by
 obtain ⟨l0_2, rfl, hr0_2, hm0_2, hw0_2, hc0_2⟩ := ReadsInt.ofRowC w0_2
 obtain ⟨l1, rfl, hr1, hm1, hw1, hc1⟩ := ReadsInt.ofRowC w1
 obtain ⟨k, h⟩ := P a0_0 a0_1 l0_2 a0_3 a0_4 a0_5 a0_6 l1 a2 a3 w0_0 w0_1 hm0_2 hw0_2 w0_3 w0_4 w0_5 w0_6 hm1 y1 hw1 w2 w3
 refine (lodgerlaw26_GaugeTells.calls k a0_0 a0_1 _ _ l0_2 a0_3 a0_4 a0_5 a0_6 _ _ l1 a2 a3 true w (Kd.C_of_reads (d := (0 : Int)) (h1 := fun _ => rfl) hr0_2) hc0_2 (Kd.C_of_reads (d := (0 : Int)) (h1 := fun _ => rfl) hr1) hc1 rfl h).mono ?_
 rintro e w' ⟨rfl, hd⟩
 exact ⟨rfl, hd⟩

end Go.Proofs.Ytepgjabpoabjnaa.PGaugeTells
