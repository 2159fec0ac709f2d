/- The walk of GaugeOrder, part of it: what the Go functions answer; no condition. -/
import Derived.Test.YtepgjabpoabjnaaQGaugeOrderx0
import Derived.Test.YtepgjabpoabjnaaQGaugeOrderx2
import Derived.Test.YtepgjabpoabjnaaQGaugeOrderx3
import Derived.Test.YtepgjabpoabjnaaQGaugeOrderx4
import Derived.Test.YtepgjabpoabjnaaQGaugeOrderx5
namespace Go.Proofs.Ytepgjabpoabjnaa.PGaugeOrder
open Go.RowKit Go.Proofs.YtepgjabpoabjnaaW.PrintWords Go.Proofs.YtepgjabpoabjnaaW.PrintLast Go.Proofs.YtepgjabpoabjnaaW.PrintMore
attribute [local go_sem] max2_int min2_int max_two min_two max_three min_three max_four min_four   -- for this text's walks alone
set_option linter.unusedVariables false
set_option linter.unusedSimpArgs false

/-! ### lodgerref11_Fits: function 8 -/
def lodgerref11_Fits.f (k : Nat) (a0_0 a0_1 : Int) (l0_2 : List Int) (a0_3 a0_4 : Int) (a0_5 a0_6 : Int) (l1 : List Int) : Option (Bool) := (lodgerref05_May.f k a0_0 a0_1 l0_2 a0_3 a0_4 a0_5 a0_6).bind fun t182 => (if t182 = true then ((lodgerref05_Many.f k a0_0 a0_1).bind fun t183 => (if t183 ≤ 256 then (if (l1.length : Int) ≤ 300 then ((lodgerref09_May.f k a0_0 a0_1 l0_2 a0_3 a0_4 a0_5 a0_6 l1).bind fun t184 => (some t184)) else (some false)) else (some false))) else (some false))
theorem lodgerref11_Fits.mono : ∀ a0 a1 a2 a3 a4 a5 a6 a7 k, LeO (lodgerref11_Fits.f k a0 a1 a2 a3 a4 a5 a6 a7) (lodgerref11_Fits.f (k + 1) a0 a1 a2 a3 a4 a5 a6 a7) := by
 intro a0 a1 a2 a3 a4 a5 a6 a7 k
 unfold lodgerref11_Fits.f
 repeat' (with_reducible first | apply lodgerref05_Many.mono | apply lodgerref05_May.mono | apply lodgerref09_May.mono | exact LeO.refl _ | exact LeO.none _ | refine LeO.ite ?_ ?_ | refine LeO.bind ?_ (fun _ => ?_))
set_option maxHeartbeats 8000000 in
set_option maxRecDepth 100000 in
theorem lodgerref11_Fits.calls (k : Nat) (ab ac : Int) (aj : Option Addr) (ak : Nat) (ad : List Int) (ae af : Int) (ag ah : Int) (A1 : Option Addr) (c1 : Nat) (l1 : List Int) (r : Bool) (w : World) (hr0_2 : Kd.C (Kd.int .i64) w aj ad.length ad) (hc0_2 : ad.length ≤ ak) (hr1 : Kd.C (Kd.int .i64) w A1 l1.length l1) (hc1 : l1.length ≤ c1) (h : lodgerref11_Fits.f k ab ac ad ae af ag ah l1 = some r) :
  Calls Try.prog 8 #[.agg #[.int .u32 ab, .int .i64 ac, .slice aj ad.length ak, .int .i64 ae, .int .i64 af, .int .i64 ag, .int .i64 ah], .slice A1 l1.length c1] w fun e w' => e = .returned (.bool r) ∧ Below w.heap.size w w' := by
 have hu27 := Try.underlying27
 have hu24 := Try.underlying24
 have an := Aside0.mk hr0_2
 have am := Aside0.mk hc0_2
 clear hr0_2 hc0_2
 have cn := Aside0.mk hr1
 have cm := Aside0.mk hc1
 clear hr1 hc1
 have HB := Aside0.mk (Below.refl w.heap.size w)
 have H : ((lodgerref05_May.f k ab ac ad ae af ag ah).bind fun ar => (if ar = true then ((lodgerref05_Many.f k ab ac).bind fun ai => (if ai ≤ 256 then (if (l1.length : Int) ≤ 300 then ((lodgerref09_May.f k ab ac ad ae af ag ah l1).bind fun al => (some al)) else (some false)) else (some false))) else (some false))) = some r := h
 clear h
 replace H := bi_ H
 obtain ⟨ar, A30, H⟩ := H
 replace H : (if ar = true then ((lodgerref05_Many.f k ab ac).bind fun ai => (if ai ≤ 256 then (if (l1.length : Int) ≤ 300 then ((lodgerref09_May.f k ab ac ad ae af ag ah l1).bind fun al => (some al)) else (some false)) else (some false))) else (some false)) = some r := H
 have A3 := Aside0.mk A30
 clear A30
 by_cases c4 : ar = true
 ·subst c4
  have H1 : ((lodgerref05_Many.f k ab ac).bind fun ai => (if ai ≤ 256 then (if (l1.length : Int) ≤ 300 then ((lodgerref09_May.f k ab ac ad ae af ag ah l1).bind fun al => (some al)) else (some false)) else (some false))) = some r := pf_ rfl H
  clear H; have H := H1; clear H1; replace H := bi_ H; obtain ⟨ai, A50, H⟩ := H
  replace H : (if ai ≤ 256 then (if (l1.length : Int) ≤ 300 then ((lodgerref09_May.f k ab ac ad ae af ag ah l1).bind fun al => (some al)) else (some false)) else (some false)) = some r := H
  have A5 := Aside0.mk A50; clear A50
  by_cases c6 : ai ≤ 256
  ·rw [if_pos c6] at H
   have au : decide (ai ≤ 256) = true := decide_eq_true c6
   clear c6
   by_cases c7 : (l1.length : Int) ≤ 300
   ·rw [if_pos c7] at H
    have av : decide ((l1.length : Int) ≤ 300) = true := decide_eq_true c7
    have aw : decide (l1.length ≤ 300) = true := decide_eq_true (by omega)
    clear c7; replace H := bi_ H; obtain ⟨al, A80, H⟩ := H
    replace H : (some al) = some r := H
    have A8 := Aside0.mk A80; clear A80
    obtain rfl := Option.some.inj H
    go_enter Try.func8, Try.ntmps8
    go_wp2_with (first | ((with_reducible refine gd_ 2 ?_); (try (refine gate_guard (by rfl) ?_; dsimp only)); refine bx_ (N := 2) (cs := #[.int .u32 ab, .int .i64 ac, .slice aj ad.length ak, .int .i64 ae, .int .i64 af, .int .i64 ag, .int .i64 ah]) (t := 27) ?_; intro aq hg w9 aa hb; have ap := gG_ hg HB; have ao := gG_ hg HB; replace HB := hS_ HB hb; clear hb hg; obtain ⟨ax, ay, az, aA, aB, aC, aD, br, bs, bt, bu, bv, bw, bx⟩ := cz7_ (w := w9) aa) | ((with_reducible refine gate_callee (f := 19) rfl ?_); refine goesL_ (some 6) rfl rfl Try.func19 (by kernel_rfl) rfl #[.agg #[.int .u32 ab, .int .i64 ac, .slice aj ad.length ak, .int .i64 ae, .int .i64 af, .int .i64 ag, .int .i64 ah]] rfl am_ ?_; (with_reducible refine (lodgerref05_May.calls k ab ac _ _ ad ae af ag ah true _ ?side1 ?side2 A3.out).mono ?_); (case side1 => exact cC_ an HB); (case side2 => exact am.out); rintro e w11 ⟨rfl, hb⟩; refine ⟨_, rfl, ?_⟩; replace HB := hS_ HB hb; replace aa := bB_ aa hb; (try clear hb); obtain ⟨aE, aF, aG, aH, aI, aJ, aK, bz, bA, bB, bC, bD, bE, bF⟩ := cz7_ (w := w11) aa) | (go_at_call 20; (with_reducible refine (lodgerref05_Many.calls k ab ac ai _ A5.out).mono ?_); rintro e w13 ⟨rfl, hb⟩; replace HB := hS_ HB hb; replace aa := bB_ aa hb; (try clear hb); obtain ⟨aL, aM, aN, aO, aP, aQ, aR, bG, bH, bI, bJ, bK, bL, bM⟩ := cz7_ (w := w13) aa) | (go_at_call 21; (with_reducible refine (lodgerref09_May.calls k ab ac _ _ ad ae af ag ah _ _ l1 al _ (cC_ an HB) am.out (cC_ cn HB) cm.out A8.out).mono ?_); rintro e w15 ⟨rfl, hb⟩; replace HB := hS_ HB hb; replace aa := bB_ aa hb; (try clear hb)))
    go_ret
    exact ⟨er_, hB_ HB⟩
   ·rw [if_neg c7] at H
    have av : decide ((l1.length : Int) ≤ 300) = false := decide_eq_false c7
    have aw : decide (l1.length ≤ 300) = false := decide_eq_false (by omega)
    clear c7
    obtain rfl := Option.some.inj H
    go_enter Try.func8, Try.ntmps8
    go_wp2_with (first | ((with_reducible refine gd_ 2 ?_); (try (refine gate_guard (by rfl) ?_; dsimp only)); refine bx_ (N := 2) (cs := #[.int .u32 ab, .int .i64 ac, .slice aj ad.length ak, .int .i64 ae, .int .i64 af, .int .i64 ag, .int .i64 ah]) (t := 27) ?_; intro aq hg w16 aa hb; have ap := gG_ hg HB; have ao := gG_ hg HB; replace HB := hS_ HB hb; clear hb hg; obtain ⟨aS, aT, aU, aV, aW, aX, aY, bN, bO, bP, bQ, bR, bS, bT⟩ := cz7_ (w := w16) aa) | ((with_reducible refine gate_callee (f := 19) rfl ?_); refine goesL_ (some 6) rfl rfl Try.func19 (by kernel_rfl) rfl #[.agg #[.int .u32 ab, .int .i64 ac, .slice aj ad.length ak, .int .i64 ae, .int .i64 af, .int .i64 ag, .int .i64 ah]] rfl am_ ?_; (with_reducible refine (lodgerref05_May.calls k ab ac _ _ ad ae af ag ah true _ ?side1 ?side2 A3.out).mono ?_); (case side1 => exact cC_ an HB); (case side2 => exact am.out); rintro e w18 ⟨rfl, hb⟩; refine ⟨_, rfl, ?_⟩; replace HB := hS_ HB hb; replace aa := bB_ aa hb; (try clear hb); obtain ⟨aZ, a0, a1, a2, a3, a4, a5, bU, bV, bW, bX, bY, bZ, b0⟩ := cz7_ (w := w18) aa) | (go_at_call 20; (with_reducible refine (lodgerref05_Many.calls k ab ac ai _ A5.out).mono ?_); rintro e w20 ⟨rfl, hb⟩; replace HB := hS_ HB hb; replace aa := bB_ aa hb; (try clear hb)))
    go_ret
    exact ⟨er_, hB_ HB⟩
  ·rw [if_neg c6] at H
   have au : decide (ai ≤ 256) = false := decide_eq_false c6
   clear c6
   obtain rfl := Option.some.inj H
   go_enter Try.func8, Try.ntmps8
   go_wp2_with (first | ((with_reducible refine gd_ 2 ?_); (try (refine gate_guard (by rfl) ?_; dsimp only)); refine bx_ (N := 2) (cs := #[.int .u32 ab, .int .i64 ac, .slice aj ad.length ak, .int .i64 ae, .int .i64 af, .int .i64 ag, .int .i64 ah]) (t := 27) ?_; intro aq hg w21 aa hb; have ap := gG_ hg HB; have ao := gG_ hg HB; replace HB := hS_ HB hb; clear hb hg; obtain ⟨a6, a7, a8, a9, ba, bb, bc, b1, b2, b3, b4, b5, b6, b7⟩ := cz7_ (w := w21) aa) | ((with_reducible refine gate_callee (f := 19) rfl ?_); refine goesL_ (some 6) rfl rfl Try.func19 (by kernel_rfl) rfl #[.agg #[.int .u32 ab, .int .i64 ac, .slice aj ad.length ak, .int .i64 ae, .int .i64 af, .int .i64 ag, .int .i64 ah]] rfl am_ ?_; (with_reducible refine (lodgerref05_May.calls k ab ac _ _ ad ae af ag ah true _ ?side1 ?side2 A3.out).mono ?_); (case side1 => exact cC_ an HB); (case side2 => exact am.out); rintro e w23 ⟨rfl, hb⟩; refine ⟨_, rfl, ?_⟩; replace HB := hS_ HB hb; replace aa := bB_ aa hb; (try clear hb); obtain ⟨bd, be, bf, bg, bh, bi, bj, b8, b9, ca, cb, cc, cd, ce⟩ := cz7_ (w := w23) aa) | (go_at_call 20; (with_reducible refine (lodgerref05_Many.calls k ab ac ai _ A5.out).mono ?_); rintro e w25 ⟨rfl, hb⟩; replace HB := hS_ HB hb; replace aa := bB_ aa hb; (try clear hb)))
   go_ret
   exact ⟨er_, hB_ HB⟩
 ·replace c4 := Bool.eq_false_iff.mpr c4
  subst c4
  have H1 : (some false) = some r := nf_ H
  clear H; have H := H1; clear H1
  obtain rfl := Option.some.inj H
  go_enter Try.func8, Try.ntmps8
  go_wp2_with (first | ((with_reducible refine gd_ 2 ?_); (try (refine gate_guard (by rfl) ?_; dsimp only)); refine bx_ (N := 2) (cs := #[.int .u32 ab, .int .i64 ac, .slice aj ad.length ak, .int .i64 ae, .int .i64 af, .int .i64 ag, .int .i64 ah]) (t := 27) ?_; intro aq hg w26 aa hb; have ap := gG_ hg HB; have ao := gG_ hg HB; replace HB := hS_ HB hb; clear hb hg; obtain ⟨bk, bl, bm, bn, bo, bp, bq, cf, cg, ch, ci, cj, ck, cl⟩ := cz7_ (w := w26) aa) | ((with_reducible refine gate_callee (f := 19) rfl ?_); refine goesL_ (some 6) rfl rfl Try.func19 (by kernel_rfl) rfl #[.agg #[.int .u32 ab, .int .i64 ac, .slice aj ad.length ak, .int .i64 ae, .int .i64 af, .int .i64 ag, .int .i64 ah]] rfl am_ ?_; (with_reducible refine (lodgerref05_May.calls k ab ac _ _ ad ae af ag ah false _ ?side1 ?side2 A3.out).mono ?_); (case side1 => exact cC_ an HB); (case side2 => exact am.out); rintro e w28 ⟨rfl, hb⟩; refine ⟨_, rfl, ?_⟩; replace HB := hS_ HB hb; (try clear hb)))
  go_ret
  exact ⟨er_, hB_ HB⟩

/-! ### lodgerref09_Has: function 26 -/
def lodgerref09_Has.l0 : Nat → List Int → Int → Int → Option (Bool)
 | 0, _, _, _ => none
 | k + 1, x0, x1, x5 => if x5 < (x0.length : Int) then (if 0 ≤ x5 then (if (rd x0 x5) = x1 then (some true) else (lodgerref09_Has.l0 k x0 x1 (wrap64 (x5 + 1)))) else (none)) else (some false)
def lodgerref09_Has.f (k : Nat) (l0 : List Int) (a1 : Int) : Option (Bool) := lodgerref09_Has.l0 k l0 a1 0
theorem lodgerref09_Has.mono_l : ∀ k, (∀ y0 y1 y2, LeO (lodgerref09_Has.l0 k y0 y1 y2) (lodgerref09_Has.l0 (k + 1) y0 y1 y2))
 | 0 => fun _ _ _ r h => by simp [lodgerref09_Has.l0] at h
 | k + 1 => by
  have ih0 := lodgerref09_Has.mono_l k
  ·intro y0 y1 y2
   unfold lodgerref09_Has.l0
   repeat' (with_reducible first | apply ih0 | exact LeO.refl _ | exact LeO.none _ | refine LeO.ite ?_ ?_ | refine LeO.bind ?_ (fun _ => ?_))
theorem lodgerref09_Has.mono : ∀ a0 a1 k, LeO (lodgerref09_Has.f k a0 a1) (lodgerref09_Has.f (k + 1) a0 a1) := by
 intro a0 a1 k
 have ih0 := lodgerref09_Has.mono_l k
 unfold lodgerref09_Has.f
 repeat' (with_reducible first | apply ih0 | exact LeO.refl _ | exact LeO.none _ | refine LeO.ite ?_ ?_ | refine LeO.bind ?_ (fun _ => ?_))
set_option maxHeartbeats 8000000 in
set_option maxRecDepth 100000 in
theorem lodgerref09_Has.calls (k : Nat) (A0 : Option Addr) (c0 : Nat) (l0 : List Int) (a1 : Int) (r : Bool) (w : World) (hr0 : Kd.C (Kd.int .i64) w A0 l0.length l0) (hc0 : l0.length ≤ c0) (h : lodgerref09_Has.f k l0 a1 = some r) :
  Calls Try.prog 26 #[.slice A0 l0.length c0, .int .i64 a1] w fun e w' => e = .returned (.bool r) ∧ Drawn0 w w' := by
 have ab := Aside0.mk hr0
 have ag := Aside0.mk hc0
 clear hr0 hc0
 have H : (lodgerref09_Has.l0 k l0 a1 0) = some r := h
 clear h
 have H' := Aside0.mk H
 clear H
 go_enter Try.func26, Try.ntmps26
 go_wp2
 go_loopg [5] k (fun kq v5 w' => ∃ (aa : Int), v5 = .int .i64 aa ∧ Aside0 (lodgerref09_Has.l0 kq l0 a1 aa = some r) ∧ Aside0 (kq ≤ k) ∧ Drawn0 w w')
 case atStart => exact ⟨(0), rs_, H', ⟨Nat.le_refl _⟩, dn_⟩
 case round =>
  clear H'
  try clear c2
  try clear p2
  obtain ⟨aa, rfl, HA, HK1, ⟨m1, rfl⟩⟩ := hrel
  cases gk with
  | zero => exact absurd HA.out (by simp [lodgerref09_Has.l0])
  | succ k1 =>
   have H := HA.out; clear HA; simp only [lodgerref09_Has.l0] at H
   by_cases c3 : aa < (l0.length : Int)
   ·rw [if_pos c3] at H
    have ac : decide (aa < (l0.length : Int)) = true := decide_eq_true c3
    clear c3
    by_cases c4 : 0 ≤ aa
    ·rw [if_pos c4] at H
     have af : decide (0 ≤ aa) = true := decide_eq_true c4
     clear c4
     by_cases c5 : (rd l0 aa) = a1
     ·rw [if_pos c5] at H
      have ad : ((rd l0 aa) == a1) = true := beq_iff_eq.mpr c5
      have ae : ((rd l0 aa) != a1) = false := bne_eq_false_iff_eq.mpr c5
      clear c5
      obtain rfl := Option.some.inj H
      have p185 : 0 ≤ (aa : Int) := od_
      have q185 : aa < (l0.length : Int) := od_
      obtain ⟨ad185, e185, hx185_0⟩ := Kd.at_int ab.out aa p185 q185
      cases e185
      replace p185 := eq_true p185; replace q185 := eq_true q185
      go_wp2
      go_ret
      exact ⟨rs_, dn_⟩
     ·rw [if_neg c5] at H
      have ad : ((rd l0 aa) == a1) = false := beq_eq_false_iff_ne.mpr c5
      have ae : ((rd l0 aa) != a1) = true := bne_iff_ne.mpr c5
      have H' := Aside0.mk H
      clear H
      have p185 : 0 ≤ (aa : Int) := od_
      have q185 : aa < (l0.length : Int) := od_
      obtain ⟨ad185, e185, hx185_0⟩ := Kd.at_int ab.out aa p185 q185
      cases e185
      replace p185 := eq_true p185; replace q185 := eq_true q185
      go_wp2
      go_roundg k1
      case measure => have := HK1.out; omega
      case rel => exact ⟨(wrap64 (aa + 1)), rs_, H', ⟨om_ HK1⟩, dn_⟩
    ·rw [if_neg c4] at H
     exact absurd H (by simp)
   ·rw [if_neg c3] at H
    have ac : decide (aa < (l0.length : Int)) = false := decide_eq_false c3
    clear c3
    obtain rfl := Option.some.inj H
    go_wp2
    go_ret
    exact ⟨rs_, dn_⟩

/-! ### lodgerref09_Full: function 17 -/
def lodgerref09_Full.l0 : Nat → List Int → Int → Int → Int → List Int → Int → Int → Int → Int → Option (Bool)
 | 0, _, _, _, _, _, _, _, _, _ => none
 | k + 1, x1, x5, x187000, x187001, x187002, x187003, x187004, x187005, x187006 => (lodgerref05_Many.f k x187000 x187001).bind fun t187 => (if x5 < t187 then ((lodgerref05_Held.f k x187000 x187001 x187002 x187003 x187004 x187005 x187006 x5).bind fun t188 => (if t188 = true then (lodgerref09_Full.l0 k x1 (wrap64 (x5 + 1)) x187000 x187001 x187002 x187003 x187004 x187005 x187006) else ((lodgerref09_Has.f k x1 x5).bind fun t189 => (if t189 = true then (lodgerref09_Full.l0 k x1 (wrap64 (x5 + 1)) x187000 x187001 x187002 x187003 x187004 x187005 x187006) else (some false))))) else (some true))
def lodgerref09_Full.f (k : Nat) (a0_0 a0_1 : Int) (l0_2 : List Int) (a0_3 a0_4 : Int) (a0_5 a0_6 : Int) (l1 : List Int) : Option (Bool) := lodgerref09_Full.l0 k l1 0 a0_0 a0_1 l0_2 a0_3 a0_4 a0_5 a0_6
theorem lodgerref09_Full.mono_l : ∀ k, (∀ y0 y1 y2 y3 y4 y5 y6 y7 y8, LeO (lodgerref09_Full.l0 k y0 y1 y2 y3 y4 y5 y6 y7 y8) (lodgerref09_Full.l0 (k + 1) y0 y1 y2 y3 y4 y5 y6 y7 y8))
 | 0 => fun _ _ _ _ _ _ _ _ _ r h => by simp [lodgerref09_Full.l0] at h
 | k + 1 => by
  have ih0 := lodgerref09_Full.mono_l k
  ·intro y0 y1 y2 y3 y4 y5 y6 y7 y8
   unfold lodgerref09_Full.l0
   repeat' (with_reducible first | apply ih0 | apply lodgerref05_Held.mono | apply lodgerref05_Many.mono | apply lodgerref09_Has.mono | exact LeO.refl _ | exact LeO.none _ | refine LeO.ite ?_ ?_ | refine LeO.bind ?_ (fun _ => ?_))
theorem lodgerref09_Full.mono : ∀ a0 a1 a2 a3 a4 a5 a6 a7 k, LeO (lodgerref09_Full.f k a0 a1 a2 a3 a4 a5 a6 a7) (lodgerref09_Full.f (k + 1) a0 a1 a2 a3 a4 a5 a6 a7) := by
 intro a0 a1 a2 a3 a4 a5 a6 a7 k
 have ih0 := lodgerref09_Full.mono_l k
 unfold lodgerref09_Full.f
 repeat' (with_reducible first | apply ih0 | apply lodgerref05_Held.mono | apply lodgerref05_Many.mono | apply lodgerref09_Has.mono | exact LeO.refl _ | exact LeO.none _ | refine LeO.ite ?_ ?_ | refine LeO.bind ?_ (fun _ => ?_))
set_option maxHeartbeats 8000000 in
set_option maxRecDepth 100000 in
theorem lodgerref09_Full.calls (k : Nat) (ab ac : Int) (al : Option Addr) (am : Nat) (ae : List Int) (af ag : Int) (ah ai : Int) (A1 : Option Addr) (c1 : Nat) (l1 : List Int) (r : Bool) (w : World) (hr0_2 : Kd.C (Kd.int .i64) w al ae.length ae) (hc0_2 : ae.length ≤ am) (hr1 : Kd.C (Kd.int .i64) w A1 l1.length l1) (hc1 : l1.length ≤ c1) (h : lodgerref09_Full.f k ab ac ae af ag ah ai l1 = some r) :
  Calls Try.prog 17 #[.agg #[.int .u32 ab, .int .i64 ac, .slice al ae.length am, .int .i64 af, .int .i64 ag, .int .i64 ah, .int .i64 ai], .slice A1 l1.length c1] w fun e w' => e = .returned (.bool r) ∧ Below w.heap.size w w' := by
 have hu27 := Try.underlying27
 have hu24 := Try.underlying24
 have ao := Aside0.mk hr0_2
 have an := Aside0.mk hc0_2
 clear hr0_2 hc0_2
 have au := Aside0.mk hr1
 have ar := Aside0.mk hc1
 clear hr1 hc1
 have HB := Aside0.mk (Below.refl w.heap.size w)
 have H : (lodgerref09_Full.l0 k l1 0 ab ac ae af ag ah ai) = some r := h
 clear h
 have H' := Aside0.mk H
 clear H
 go_enter Try.func17, Try.ntmps17
 go_wp2_with (first | ((with_reducible refine gd_ 2 ?_); refine bx_ (N := 2) (cs := #[.int .u32 ab, .int .i64 ac, .slice al ae.length am, .int .i64 af, .int .i64 ag, .int .i64 ah, .int .i64 ai]) (t := 27) ?_; intro aq hg w3 aa hb; have b8 := gG_ hg HB; have b7 := gG_ hg HB; replace HB := hS_ HB hb; clear hb hg))
 go_loopg [5] k (fun kq v5 w' => ∃ (ad : Int), v5 = .int .i64 ad ∧ Aside0 (lodgerref09_Full.l0 kq l1 ad ab ac ae af ag ah ai = some r) ∧ Aside0 (kq ≤ k) ∧ Aside0 (w'.heap[aq]? = some (.cells #[.int .u32 ab, .int .i64 ac, (.slice al ae.length am), .int .i64 af, .int .i64 ag, .int .i64 ah, .int .i64 ai] 27 (0, 0))) ∧ Aside0 (Below w.heap.size w w'))
 case atStart => exact ⟨(0), rs_, H', ⟨Nat.le_refl _⟩, ⟨bk_ aa⟩, ⟨hB_ HB⟩⟩
 case round =>
  clear H'
  try clear c1
  try clear p2
  obtain ⟨ad, rfl, HA, HK1, aa, HB⟩ := hrel
  cases gk with
  | zero => exact absurd HA.out (by simp [lodgerref09_Full.l0])
  | succ k1 =>
   have H := HA.out; clear HA; simp only [lodgerref09_Full.l0] at H; replace H := bi_ H; obtain ⟨aj, A40, H⟩ := H
   replace H : (if ad < aj then ((lodgerref05_Held.f k1 ab ac ae af ag ah ai ad).bind fun ap => (if ap = true then (lodgerref09_Full.l0 k1 l1 (wrap64 (ad + 1)) ab ac ae af ag ah ai) else ((lodgerref09_Has.f k1 l1 ad).bind fun ak => (if ak = true then (lodgerref09_Full.l0 k1 l1 (wrap64 (ad + 1)) ab ac ae af ag ah ai) else (some false))))) else (some true)) = some r := H
   have A4 := Aside0.mk A40; clear A40
   by_cases c5 : ad < aj
   ·rw [if_pos c5] at H
    have av : decide (ad < aj) = true := decide_eq_true c5
    clear c5; replace H := bi_ H; obtain ⟨ap, A60, H⟩ := H
    replace H : (if ap = true then (lodgerref09_Full.l0 k1 l1 (wrap64 (ad + 1)) ab ac ae af ag ah ai) else ((lodgerref09_Has.f k1 l1 ad).bind fun ak => (if ak = true then (lodgerref09_Full.l0 k1 l1 (wrap64 (ad + 1)) ab ac ae af ag ah ai) else (some false)))) = some r := H
    have A6 := Aside0.mk A60; clear A60
    by_cases c7 : ap = true
    ·subst c7
     have H1 : (lodgerref09_Full.l0 k1 l1 (wrap64 (ad + 1)) ab ac ae af ag ah ai) = some r := pf_ rfl H
     clear H; have H := H1; clear H1
     have H' := Aside0.mk H
     clear H; obtain ⟨bT, bU, bV, bW, bX, bY, bZ, b0, b1, b2, b3, b4, b5, b6⟩ := cz7_ (w := wr) aa
     go_wp2_with (first | ((with_reducible refine gate_callee (f := 20) rfl ?_); refine goesL_ (some 9) rfl rfl Try.func20 (by kernel_rfl) rfl #[.agg #[.int .u32 ab, .int .i64 ac]] rfl am_ ?_; (with_reducible refine (lodgerref05_Many.calls k1 ab ac aj _ A4.out).mono ?_); rintro e w9 ⟨rfl, hb⟩; refine ⟨_, rfl, ?_⟩; replace HB := hS_ HB hb; replace aa := bB_ aa hb; (try clear hb); obtain ⟨aw, ax, ay, az, aA, aB, aC, bc, bd, be, bf, bg, bh, bi⟩ := cz7_ (w := w9) aa) | ((with_reducible refine gate_callee (f := 25) rfl ?_); refine goesL_ (some 15) rfl rfl Try.func25 (by kernel_rfl) rfl #[.agg #[.int .u32 ab, .int .i64 ac, .slice al ae.length am, .int .i64 af, .int .i64 ag, .int .i64 ah, .int .i64 ai], .int .i64 ad] rfl am_ ?_; (with_reducible refine (lodgerref05_Held.calls k1 ab ac _ _ ae af ag ah ai ad true _ ?side1 ?side2 A6.out).mono ?_); (case side1 => exact cC_ ao HB); (case side2 => exact an.out); rintro e w11 ⟨rfl, hb⟩; refine ⟨_, rfl, ?_⟩; replace HB := hS_ HB hb; replace aa := bB_ aa hb; (try clear hb)))
     go_roundg k1
     case measure => have := HK1.out; omega
     case rel => exact ⟨(wrap64 (ad + 1)), rs_, H', ⟨om_ HK1⟩, ⟨bk_ aa⟩, ⟨hB_ HB⟩⟩
    ·replace c7 := Bool.eq_false_iff.mpr c7
     subst c7
     have H1 : ((lodgerref09_Has.f k1 l1 ad).bind fun ak => (if ak = true then (lodgerref09_Full.l0 k1 l1 (wrap64 (ad + 1)) ab ac ae af ag ah ai) else (some false))) = some r := nf_ H
     clear H; have H := H1; clear H1; replace H := bi_ H; obtain ⟨ak, A120, H⟩ := H
     replace H : (if ak = true then (lodgerref09_Full.l0 k1 l1 (wrap64 (ad + 1)) ab ac ae af ag ah ai) else (some false)) = some r := H
     have A12 := Aside0.mk A120; clear A120
     by_cases c13 : ak = true
     ·subst c13
      have H1 : (lodgerref09_Full.l0 k1 l1 (wrap64 (ad + 1)) ab ac ae af ag ah ai) = some r := pf_ rfl H
      clear H; have H := H1; clear H1
      have H' := Aside0.mk H
      clear H; obtain ⟨aD, aE, aF, aG, aH, aI, aJ, bj, bk, bl, bm, bn, bo, bp⟩ := cz7_ (w := wr) aa
      go_wp2_with (first | ((with_reducible refine gate_callee (f := 20) rfl ?_); refine goesL_ (some 9) rfl rfl Try.func20 (by kernel_rfl) rfl #[.agg #[.int .u32 ab, .int .i64 ac]] rfl am_ ?_; (with_reducible refine (lodgerref05_Many.calls k1 ab ac aj _ A4.out).mono ?_); rintro e w15 ⟨rfl, hb⟩; refine ⟨_, rfl, ?_⟩; replace HB := hS_ HB hb; replace aa := bB_ aa hb; (try clear hb); obtain ⟨aK, aL, aM, aN, aO, aP, aQ, bq, br, bs, bt, bu, bv, bw⟩ := cz7_ (w := w15) aa) | ((with_reducible refine gate_callee (f := 25) rfl ?_); refine goesL_ (some 15) rfl rfl Try.func25 (by kernel_rfl) rfl #[.agg #[.int .u32 ab, .int .i64 ac, .slice al ae.length am, .int .i64 af, .int .i64 ag, .int .i64 ah, .int .i64 ai], .int .i64 ad] rfl am_ ?_; (with_reducible refine (lodgerref05_Held.calls k1 ab ac _ _ ae af ag ah ai ad false _ ?side1 ?side2 A6.out).mono ?_); (case side1 => exact cC_ ao HB); (case side2 => exact an.out); rintro e w17 ⟨rfl, hb⟩; refine ⟨_, rfl, ?_⟩; replace HB := hS_ HB hb; replace aa := bB_ aa hb; (try clear hb)) | (go_at_call 26; (with_reducible refine (lodgerref09_Has.calls k1 _ _ l1 ad true _ (cC_ au HB) ar.out A12.out).mono ?_); rintro e w' ⟨rfl, ⟨nd, rfl⟩⟩))
      go_roundg k1
      case measure => have := HK1.out; omega
      case rel => exact ⟨(wrap64 (ad + 1)), rs_, H', ⟨om_ HK1⟩, ⟨bk_ aa⟩, ⟨hB_ HB⟩⟩
     ·replace c13 := Bool.eq_false_iff.mpr c13
      subst c13
      have H1 : (some false) = some r := nf_ H
      clear H; have H := H1; clear H1
      obtain rfl := Option.some.inj H
      obtain ⟨aR, aS, aT, aU, aV, aW, aX, bx, bz, bA, bB, bC, bD, bE⟩ := cz7_ (w := wr) aa
      go_wp2_with (first | ((with_reducible refine gate_callee (f := 20) rfl ?_); refine goesL_ (some 9) rfl rfl Try.func20 (by kernel_rfl) rfl #[.agg #[.int .u32 ab, .int .i64 ac]] rfl am_ ?_; (with_reducible refine (lodgerref05_Many.calls k1 ab ac aj _ A4.out).mono ?_); rintro e w19 ⟨rfl, hb⟩; refine ⟨_, rfl, ?_⟩; replace HB := hS_ HB hb; replace aa := bB_ aa hb; (try clear hb); obtain ⟨aY, aZ, a0, a1, a2, a3, a4, bF, bG, bH, bI, bJ, bK, bL⟩ := cz7_ (w := w19) aa) | ((with_reducible refine gate_callee (f := 25) rfl ?_); refine goesL_ (some 15) rfl rfl Try.func25 (by kernel_rfl) rfl #[.agg #[.int .u32 ab, .int .i64 ac, .slice al ae.length am, .int .i64 af, .int .i64 ag, .int .i64 ah, .int .i64 ai], .int .i64 ad] rfl am_ ?_; (with_reducible refine (lodgerref05_Held.calls k1 ab ac _ _ ae af ag ah ai ad false _ ?side1 ?side2 A6.out).mono ?_); (case side1 => exact cC_ ao HB); (case side2 => exact an.out); rintro e w21 ⟨rfl, hb⟩; refine ⟨_, rfl, ?_⟩; replace HB := hS_ HB hb; replace aa := bB_ aa hb; (try clear hb)) | (go_at_call 26; (with_reducible refine (lodgerref09_Has.calls k1 _ _ l1 ad false _ (cC_ au HB) ar.out A12.out).mono ?_); rintro e w' ⟨rfl, ⟨nd, rfl⟩⟩))
      go_ret
      exact ⟨er_, hB_ HB⟩
   ·rw [if_neg c5] at H
    have av : decide (ad < aj) = false := decide_eq_false c5
    clear c5
    obtain rfl := Option.some.inj H
    obtain ⟨a5, a6, a7, a8, a9, ba, bb, bM, bN, bO, bP, bQ, bR, bS⟩ := cz7_ (w := wr) aa
    go_wp2_with (first | ((with_reducible refine gate_callee (f := 20) rfl ?_); refine goesL_ (some 9) rfl rfl Try.func20 (by kernel_rfl) rfl #[.agg #[.int .u32 ab, .int .i64 ac]] rfl am_ ?_; (with_reducible refine (lodgerref05_Many.calls k1 ab ac aj _ A4.out).mono ?_); rintro e w23 ⟨rfl, hb⟩; refine ⟨_, rfl, ?_⟩; replace HB := hS_ HB hb; (try clear hb)))
    go_ret
    exact ⟨er_, hB_ HB⟩

/-! ### lodgerref26_Usable: function 18 -/
def lodgerref26_Usable.f (k : Nat) (a0_0 a0_1 : Int) (l0_2 : List Int) (a0_3 a0_4 : Int) (a0_5 a0_6 : Int) : Option (Int) := (lodgerref05_Many.f k a0_0 a0_1).bind fun t191 => (some (wrap64 (t191 - (l0_2.length : Int))))
theorem lodgerref26_Usable.mono : ∀ a0 a1 a2 a3 a4 a5 a6 k, LeO (lodgerref26_Usable.f k a0 a1 a2 a3 a4 a5 a6) (lodgerref26_Usable.f (k + 1) a0 a1 a2 a3 a4 a5 a6) := by
 intro a0 a1 a2 a3 a4 a5 a6 k
 unfold lodgerref26_Usable.f
 repeat' (with_reducible first | apply lodgerref05_Many.mono | exact LeO.refl _ | exact LeO.none _ | refine LeO.ite ?_ ?_ | refine LeO.bind ?_ (fun _ => ?_))
def lodgerref26_Usable.T1 : Bool × List (List Nat × List Nat) := (true, [([], []), ([0], [0]), ([1], [1]), ([], []), ([3], [3]), ([4], [4]), ([2, 5], [2, 5]), ([6, 2, 0, 1, 2, 3, 4, 5, 6], [6])])
def lodgerref26_Usable.B1 : List Nat := [0, 1, 3, 0, 8, 24, 63, 127]
theorem lodgerref26_Usable.tab1 : rtab .any (opsOf Try.f18 1) = lodgerref26_Usable.T1 := by kernel_rfl
theorem lodgerref26_Usable.bits1 : waitsOk lodgerref26_Usable.T1.2 lodgerref26_Usable.B1 = true := by kernel_rfl
set_option maxHeartbeats 8000000 in
set_option maxRecDepth 100000 in
theorem lodgerref26_Usable.calls (k : Nat) (ad ae : Int) (af : Option Addr) (ak : Nat) (ac : List Int) (ag ah : Int) (ai aj r : Int) (w : World) (hr0_2 : Kd.C (Kd.int .i64) w af ac.length ac) (hc0_2 : ac.length ≤ ak) (h : lodgerref26_Usable.f k ad ae ac ag ah ai aj = some r) :
  Calls Try.prog 18 #[.agg #[.int .u32 ad, .int .i64 ae, .slice af ac.length ak, .int .i64 ag, .int .i64 ah, .int .i64 ai, .int .i64 aj]] w fun e w' => e = .returned (.int .i64 r) ∧ Below w.heap.size w w' := by
 have hu27 := Try.underlying27
 have hu24 := Try.underlying24
 have ap := Aside0.mk hr0_2
 have ao := Aside0.mk hc0_2
 clear hr0_2 hc0_2
 have HB := Aside0.mk (Below.refl w.heap.size w)
 have H : ((lodgerref05_Many.f k ad ae).bind fun al => (some (wrap64 (al - (ac.length : Int))))) = some r := h
 clear h
 replace H := bi_ H
 obtain ⟨al, A20, H⟩ := H
 replace H : (some (wrap64 (al - (ac.length : Int)))) = some r := H
 have A2 := Aside0.mk A20
 clear A20
 obtain rfl := Option.some.inj H
 go_enter Try.func18, Try.ntmps18
 try go_wp2_with (first | ((with_reducible refine gd_ 1 ?_); refine bx_ (N := 1) (cs := #[.int .u32 ad, .int .i64 ae, .slice af ac.length ak, .int .i64 ag, .int .i64 ah, .int .i64 ai, .int .i64 aj]) (t := 27) ?_; intro ab hg w3 aa hb; have an := gG_ hg HB; have am := gG_ hg HB; replace HB := hS_ HB hb; clear hb hg))
 have n0_ := Aside0.mk (blk_drew aa.out)
 have n1_ := Aside0.mk (below_drew1 HB.out)
 clear aa
 clear HB
 have aa := n0_
 have HB := n1_
 clear n0_ n1_
 refine start_ (n := 8) (S := fun w' => w'.cell? ⟨ab, 0, none⟩ = some (.int .u32 ad) ∧ w'.cell? ⟨ab, 1, none⟩ = some (.int .i64 ae) ∧ w'.cell? ⟨ab, 2, none⟩ = some (.slice af ac.length ak) ∧ w'.cell? ⟨ab, 3, none⟩ = some (.int .i64 ag) ∧ w'.cell? ⟨ab, 4, none⟩ = some (.int .i64 ah) ∧ w'.cell? ⟨ab, 5, none⟩ = some (.int .i64 ai) ∧ w'.cell? ⟨ab, 6, none⟩ = some (.int .i64 aj)) (ds := []) (tf 8 0) (by kernel_rfl) rfl rfl ⟨(blk_cell aa.out 0).trans rfl, (blk_cell aa.out 1).trans rfl, (blk_cell aa.out 2).trans rfl, (blk_cell aa.out 3).trans rfl, (blk_cell aa.out 4).trans rfl, (blk_cell aa.out 5).trans rfl, (blk_cell aa.out 6).trans rfl⟩ (fun hHeld => ?_); refine with_tabW lodgerref26_Usable.tab1 lodgerref26_Usable.bits1 (fun HT_ HW_ => ?_)
 generalize w3.drew = w4 at aa HB hHeld ⊢
 refine puU_ 0 3 (tf 8 1) HT_ ?_
 refine puU_ 3 6 (tf 8 9) HT_ ?_
 refine tkU_ 1 4 (tf 8 11) rfl rfl HT_ HW_ hHeld (by rintro w' ⟨s0, s1, s2, s3, s4, s5, s6⟩; go_simp; with_reducible rfl) ?_
 refine tkU_ 4 7 (tf 8 27) rfl rfl HT_ HW_ hHeld (by rintro w' ⟨s0, s1, s2, s3, s4, s5, s6⟩; go_simp; with_reducible rfl) ?_
 refine puU_ 5 8 (tf 8 59) HT_ ?_
 refine on_ (i := 2) (N := some 5) (tf 8 63) HT_ (fun K hK => ?_)
 refine goes_ Try.func20 (by kernel_rfl) rfl #[.agg #[.int .u32 ad, .int .i64 ae]] (by rfl) rfl rfl am_ ?_
 with_reducible refine (lodgerref05_Many.calls k ad ae al _ A2.out).mono ?_
 rintro e w5 ⟨rfl, hb⟩
 refine ⟨_, rfl, ?_⟩
 have n0_ := bB_ aa hb
 have n1_ := Aside0.mk (below_step (hB_ HB) hb)
 clear aa
 clear HB
 have aa := n0_
 have HB := n1_
 clear n0_ n1_
 (try clear hb)
 (try clear hb2)
 (try clear hk)
 (try clear hi)
 refine hK.out _ _ (cl7_ aa) (fun hHeld => ?_)
 clear hK K
 refine norm_ (a' := ?_) ?_ ?_
 rotate_left
 ·show Act.put _ (some 5) _ = _
  simp only [Act.put, List.setIfInBounds_toArray, List.set_cons_zero, List.set_cons_succ, i64_w, i32_w]
  rfl
 refine puU_ 6 9 (tf 8 127) HT_ ?_
 refine puU_ 7 2 (tf 8 255) HT_ ?_
 refine done_ (done_of HT_.out (by kernel_rfl)) ?_
 try go_wp2
 go_ret
 exact ⟨er_, hB_ HB⟩

end Go.Proofs.Ytepgjabpoabjnaa.PGaugeOrder
