/- The walk of SpecTells, part of it: what the Go functions answer; no condition. -/
import Derived.Test.YtkiimboedgnoiaaDoorQSpecTellsx0
import Derived.Test.YtkiimboedgnoiaaDoorQSpecTellsx7
import Derived.Test.YtkiimboedgnoiaaDoorQSpecTellsx8
import Derived.Test.YtkiimboedgnoiaaDoorQSpecTellsx9
import Derived.Test.YtkiimboedgnoiaaDoorQSpecTellsx11
namespace Go.Proofs.YtkiimboedgnoiaaDoor.PSpecTells
open Go.RowKit Go.Proofs.YtkiimboedgnoiaaDoorW.PrintWords Go.Proofs.YtkiimboedgnoiaaDoorW.PrintLast Go.Proofs.YtkiimboedgnoiaaDoorW.PrintMore
attribute [local go_sem] max2_int min2_int max_two min_two max_three min_three max_four min_four   -- for this text's walks alone
set_option linter.unusedVariables false
set_option linter.unusedSimpArgs false

/-! ### lodgerref11_Fits: function 10 -/
def lodgerref11_Fits.f (k : Nat) (a0_0 a0_1 : Int) (l0_2 : List Int) (a0_3 a0_4 : Int) (a0_5 a0_6 : Int) (l1 : List Int) : Option (Bool) := (lodgerref05_May.f k a0_0 a0_1 l0_2 a0_3 a0_4 a0_5 a0_6).bind fun t513 => (if t513 = true then ((lodgerref05_Many.f k a0_0 a0_1).bind fun t514 => (if t514 ≤ 256 then (if (l1.length : Int) ≤ 300 then ((lodgerref09_May.f k a0_0 a0_1 l0_2 a0_3 a0_4 a0_5 a0_6 l1).bind fun t515 => (some t515)) else (some false)) else (some false))) else (some false))
theorem lodgerref11_Fits.mono : ∀ a0 a1 a2 a3 a4 a5 a6 a7 k, LeO (lodgerref11_Fits.f k a0 a1 a2 a3 a4 a5 a6 a7) (lodgerref11_Fits.f (k + 1) a0 a1 a2 a3 a4 a5 a6 a7) := by
 intro a0 a1 a2 a3 a4 a5 a6 a7 k
 unfold lodgerref11_Fits.f
 repeat' (with_reducible first | apply lodgerref05_Many.mono | apply lodgerref05_May.mono | apply lodgerref09_May.mono | exact LeO.refl _ | exact LeO.none _ | refine LeO.ite ?_ ?_ | refine LeO.bind ?_ (fun _ => ?_))
set_option maxHeartbeats 8000000 in
set_option maxRecDepth 100000 in
theorem lodgerref11_Fits.calls (k : Nat) (ab ac : Int) (am : Option Addr) (an : Nat) (ad : List Int) (ae af : Int) (ag ah : Int) (A1 : Option Addr) (c1 : Nat) (l1 : List Int) (r : Bool) (w : World) (hr0_2 : Kd.C (Kd.int .i64) w am ad.length ad) (hc0_2 : ad.length ≤ an) (hr1 : Kd.C (Kd.int .i64) w A1 l1.length l1) (hc1 : l1.length ≤ c1) (h : lodgerref11_Fits.f k ab ac ad ae af ag ah l1 = some r) :
  Calls Tryd.prog 10 #[.agg #[.int .u32 ab, .int .i64 ac, .slice am ad.length an, .int .i64 ae, .int .i64 af, .int .i64 ag, .int .i64 ah], .slice A1 l1.length c1] w fun e w' => e = .returned (.bool r) ∧ Below w.heap.size w w' := by
 have hu27 := Tryd.underlying27
 have hu24 := Tryd.underlying24
 have al := Aside0.mk hr0_2
 have ak := Aside0.mk hc0_2
 clear hr0_2 hc0_2
 have cn := Aside0.mk hr1
 have cm := Aside0.mk hc1
 clear hr1 hc1
 have HB := Aside0.mk (Below.refl w.heap.size w)
 have H : ((lodgerref05_May.f k ab ac ad ae af ag ah).bind fun ar => (if ar = true then ((lodgerref05_Many.f k ab ac).bind fun ai => (if ai ≤ 256 then (if (l1.length : Int) ≤ 300 then ((lodgerref09_May.f k ab ac ad ae af ag ah l1).bind fun aj => (some aj)) else (some false)) else (some false))) else (some false))) = some r := h
 clear h
 replace H := bi_ H
 obtain ⟨ar, A30, H⟩ := H
 replace H : (if ar = true then ((lodgerref05_Many.f k ab ac).bind fun ai => (if ai ≤ 256 then (if (l1.length : Int) ≤ 300 then ((lodgerref09_May.f k ab ac ad ae af ag ah l1).bind fun aj => (some aj)) else (some false)) else (some false))) else (some false)) = some r := H
 have A3 := Aside0.mk A30
 clear A30
 by_cases c4 : ar = true
 ·subst c4
  have H1 : ((lodgerref05_Many.f k ab ac).bind fun ai => (if ai ≤ 256 then (if (l1.length : Int) ≤ 300 then ((lodgerref09_May.f k ab ac ad ae af ag ah l1).bind fun aj => (some aj)) else (some false)) else (some false))) = some r := pf_ rfl H
  clear H; have H := H1; clear H1; replace H := bi_ H; obtain ⟨ai, A50, H⟩ := H
  replace H : (if ai ≤ 256 then (if (l1.length : Int) ≤ 300 then ((lodgerref09_May.f k ab ac ad ae af ag ah l1).bind fun aj => (some aj)) else (some false)) else (some false)) = some r := H
  have A5 := Aside0.mk A50; clear A50
  by_cases c6 : ai ≤ 256
  ·rw [if_pos c6] at H
   have au : decide (ai ≤ 256) = true := decide_eq_true c6
   clear c6
   by_cases c7 : (l1.length : Int) ≤ 300
   ·rw [if_pos c7] at H
    have av : decide ((l1.length : Int) ≤ 300) = true := decide_eq_true c7
    have aw : decide (l1.length ≤ 300) = true := decide_eq_true (by omega)
    clear c7; replace H := bi_ H; obtain ⟨aj, A80, H⟩ := H
    replace H : (some aj) = some r := H
    have A8 := Aside0.mk A80; clear A80
    obtain rfl := Option.some.inj H
    go_enter Tryd.func10, Tryd.ntmps10
    go_wp2_with (first | ((with_reducible refine gd_ 2 ?_); (try (refine gate_guard (by rfl) ?_; dsimp only)); refine bx_ (N := 2) (cs := #[.int .u32 ab, .int .i64 ac, .slice am ad.length an, .int .i64 ae, .int .i64 af, .int .i64 ag, .int .i64 ah]) (t := 27) ?_; intro aq hg w9 aa hb; have ap := gG_ hg HB; have ao := gG_ hg HB; replace HB := hS_ HB hb; clear hb hg; obtain ⟨ax, ay, az, aA, aB, aC, aD, br, bs, bt, bu, bv, bw, bx⟩ := cz7_ (w := w9) aa) | ((with_reducible refine gate_callee (f := 29) rfl ?_); refine gM_ (some 6) Tryd.func29 (lodgerref05_May.calls k ab ac _ _ ad ae af ag ah true _ (cC_ al HB) ak.out A3.out) ?_; rintro e w11 ⟨rfl, hb⟩; refine ⟨_, rfl, ?_⟩; replace HB := hS_ HB hb; replace aa := bB_ aa hb; (try clear hb); obtain ⟨aE, aF, aG, aH, aI, aJ, aK, bz, bA, bB, bC, bD, bE, bF⟩ := cz7_ (w := w11) aa) | (go_at_call 30; (with_reducible refine (lodgerref05_Many.calls k ab ac ai _ A5.out).mono ?_); rintro e w13 ⟨rfl, hb⟩; replace HB := hS_ HB hb; replace aa := bB_ aa hb; (try clear hb); obtain ⟨aL, aM, aN, aO, aP, aQ, aR, bG, bH, bI, bJ, bK, bL, bM⟩ := cz7_ (w := w13) aa) | (go_at_call 20; (with_reducible refine (lodgerref09_May.calls k ab ac _ _ ad ae af ag ah _ _ l1 aj _ (cC_ al HB) ak.out (cC_ cn HB) cm.out A8.out).mono ?_); rintro e w15 ⟨rfl, hb⟩; replace HB := hS_ HB hb; replace aa := bB_ aa hb; (try clear hb)))
    go_ret
    exact ⟨er_, hB_ HB⟩
   ·rw [if_neg c7] at H
    have av : decide ((l1.length : Int) ≤ 300) = false := decide_eq_false c7
    have aw : decide (l1.length ≤ 300) = false := decide_eq_false (by omega)
    clear c7
    obtain rfl := Option.some.inj H
    go_enter Tryd.func10, Tryd.ntmps10
    go_wp2_with (first | ((with_reducible refine gd_ 2 ?_); (try (refine gate_guard (by rfl) ?_; dsimp only)); refine bx_ (N := 2) (cs := #[.int .u32 ab, .int .i64 ac, .slice am ad.length an, .int .i64 ae, .int .i64 af, .int .i64 ag, .int .i64 ah]) (t := 27) ?_; intro aq hg w16 aa hb; have ap := gG_ hg HB; have ao := gG_ hg HB; replace HB := hS_ HB hb; clear hb hg; obtain ⟨aS, aT, aU, aV, aW, aX, aY, bN, bO, bP, bQ, bR, bS, bT⟩ := cz7_ (w := w16) aa) | ((with_reducible refine gate_callee (f := 29) rfl ?_); refine gM_ (some 6) Tryd.func29 (lodgerref05_May.calls k ab ac _ _ ad ae af ag ah true _ (cC_ al HB) ak.out A3.out) ?_; rintro e w18 ⟨rfl, hb⟩; refine ⟨_, rfl, ?_⟩; replace HB := hS_ HB hb; replace aa := bB_ aa hb; (try clear hb); obtain ⟨aZ, a0, a1, a2, a3, a4, a5, bU, bV, bW, bX, bY, bZ, b0⟩ := cz7_ (w := w18) aa) | (go_at_call 30; (with_reducible refine (lodgerref05_Many.calls k ab ac ai _ A5.out).mono ?_); rintro e w20 ⟨rfl, hb⟩; replace HB := hS_ HB hb; replace aa := bB_ aa hb; (try clear hb)))
    go_ret
    exact ⟨er_, hB_ HB⟩
  ·rw [if_neg c6] at H
   have au : decide (ai ≤ 256) = false := decide_eq_false c6
   clear c6
   obtain rfl := Option.some.inj H
   go_enter Tryd.func10, Tryd.ntmps10
   go_wp2_with (first | ((with_reducible refine gd_ 2 ?_); (try (refine gate_guard (by rfl) ?_; dsimp only)); refine bx_ (N := 2) (cs := #[.int .u32 ab, .int .i64 ac, .slice am ad.length an, .int .i64 ae, .int .i64 af, .int .i64 ag, .int .i64 ah]) (t := 27) ?_; intro aq hg w21 aa hb; have ap := gG_ hg HB; have ao := gG_ hg HB; replace HB := hS_ HB hb; clear hb hg; obtain ⟨a6, a7, a8, a9, ba, bb, bc, b1, b2, b3, b4, b5, b6, b7⟩ := cz7_ (w := w21) aa) | ((with_reducible refine gate_callee (f := 29) rfl ?_); refine gM_ (some 6) Tryd.func29 (lodgerref05_May.calls k ab ac _ _ ad ae af ag ah true _ (cC_ al HB) ak.out A3.out) ?_; rintro e w23 ⟨rfl, hb⟩; refine ⟨_, rfl, ?_⟩; replace HB := hS_ HB hb; replace aa := bB_ aa hb; (try clear hb); obtain ⟨bd, be, bf, bg, bh, bi, bj, b8, b9, ca, cb, cc, cd, ce⟩ := cz7_ (w := w23) aa) | (go_at_call 30; (with_reducible refine (lodgerref05_Many.calls k ab ac ai _ A5.out).mono ?_); rintro e w25 ⟨rfl, hb⟩; replace HB := hS_ HB hb; replace aa := bB_ aa hb; (try clear hb)))
   go_ret
   exact ⟨er_, hB_ HB⟩
 ·replace c4 := Bool.eq_false_iff.mpr c4
  subst c4
  have H1 : (some false) = some r := nf_ H
  clear H; have H := H1; clear H1
  obtain rfl := Option.some.inj H
  go_enter Tryd.func10, Tryd.ntmps10
  go_wp2_with (first | ((with_reducible refine gd_ 2 ?_); (try (refine gate_guard (by rfl) ?_; dsimp only)); refine bx_ (N := 2) (cs := #[.int .u32 ab, .int .i64 ac, .slice am ad.length an, .int .i64 ae, .int .i64 af, .int .i64 ag, .int .i64 ah]) (t := 27) ?_; intro aq hg w26 aa hb; have ap := gG_ hg HB; have ao := gG_ hg HB; replace HB := hS_ HB hb; clear hb hg; obtain ⟨bk, bl, bm, bn, bo, bp, bq, cf, cg, ch, ci, cj, ck, cl⟩ := cz7_ (w := w26) aa) | ((with_reducible refine gate_callee (f := 29) rfl ?_); refine gM_ (some 6) Tryd.func29 (lodgerref05_May.calls k ab ac _ _ ad ae af ag ah false _ (cC_ al HB) ak.out A3.out) ?_; rintro e w28 ⟨rfl, hb⟩; refine ⟨_, rfl, ?_⟩; replace HB := hS_ HB hb; (try clear hb)))
  go_ret
  exact ⟨er_, hB_ HB⟩

/-! ### lodgerref10_Few: function 11 -/
def lodgerref10_Few.f (a0_0 a0_1 : Int) (l0_2 : List Int) : Option (Bool) := some (decide ((l0_2.length : Int) ≤ 100))
set_option maxHeartbeats 8000000 in
set_option maxRecDepth 100000 in
theorem lodgerref10_Few.calls (ac ad : Int) (ab : Option Addr) (ae : Nat) (aa : List Int) (r : Bool) (w : World) (hr0_2 : Kd.C (Kd.int .u32) w ab aa.length aa) (hc0_2 : aa.length ≤ ae) (h : lodgerref10_Few.f ac ad aa = some r) :
  Calls Tryd.prog 11 #[.agg #[.int .i64 ac, .int .u32 ad, .slice ab aa.length ae]] w fun e w' => e = .returned (.bool r) ∧ Below w.heap.size w w' := by
 have hu30 := Tryd.underlying30
 have ap := Aside0.mk hr0_2
 have ao := Aside0.mk hc0_2
 clear hr0_2 hc0_2
 have HB := Aside0.mk (Below.refl w.heap.size w)
 have H : (some (decide ((aa.length : Int) ≤ 100))) = some r := h
 clear h
 obtain rfl := Option.some.inj H
 go_enter Tryd.func11, Tryd.ntmps11
 go_wp2_with (first | ((with_reducible refine gd_ 1 ?_); refine bx_ (N := 1) (cs := #[.int .i64 ac, .int .u32 ad, .slice ab aa.length ae]) (t := 30) ?_; intro aq hg w2 af hb; have an := gG_ hg HB; have am := gG_ hg HB; replace HB := hS_ HB hb; clear hb hg; obtain ⟨ag, ah, ai, aj, ak, al⟩ := cz3_ (w := w2) af))
 go_ret
 exact ⟨er_, hB_ HB⟩

/-! ### lodgerref11_Few: function 12 -/
def lodgerref11_Few.f (a0_0 a0_1 : Int) (a0_2 : Bool) (l0_3 l0_4 : List Int) : Option (Bool) := if (l0_3.length : Int) ≤ 300 then (some (decide ((l0_4.length : Int) ≤ 300))) else (some false)
set_option maxHeartbeats 8000000 in
set_option maxRecDepth 100000 in
theorem lodgerref11_Few.calls (af ag : Int) (ah : Bool) (ac : Option Addr) (ai : Nat) (aa : List Int) (ad : Option Addr) (aj : Nat) (ab : List Int) (r : Bool) (w : World) (hr0_3 : Kd.C (Kd.int .u32) w ac aa.length aa) (hc0_3 : aa.length ≤ ai) (hr0_4 : Kd.C (Kd.int .i64) w ad ab.length ab) (hc0_4 : ab.length ≤ aj) (h : lodgerref11_Few.f af ag ah aa ab = some r) :
  Calls Tryd.prog 12 #[.agg #[.int .i64 af, .int .u32 ag, .bool ah, .slice ac aa.length ai, .slice ad ab.length aj]] w fun e w' => e = .returned (.bool r) ∧ Below w.heap.size w w' := by
 have hu34 := Tryd.underlying34
 have aN := Aside0.mk hr0_3
 have aL := Aside0.mk hc0_3
 clear hr0_3 hc0_3
 have aO := Aside0.mk hr0_4
 have aM := Aside0.mk hc0_4
 clear hr0_4 hc0_4
 have HB := Aside0.mk (Below.refl w.heap.size w)
 have H : (if (aa.length : Int) ≤ 300 then (some (decide ((ab.length : Int) ≤ 300))) else (some false)) = some r := h
 clear h
 by_cases c2 : (aa.length : Int) ≤ 300
 ·rw [if_pos c2] at H
  have an : decide ((aa.length : Int) ≤ 300) = true := decide_eq_true c2
  have ao : decide (aa.length ≤ 300) = true := decide_eq_true (by omega)
  clear c2
  obtain rfl := Option.some.inj H
  go_enter Tryd.func12, Tryd.ntmps12
  go_wp2_with (first | ((with_reducible refine gd_ 1 ?_); (try (refine gate_guard (by rfl) ?_; dsimp only)); refine bx_ (N := 1) (cs := #[.int .i64 af, .int .u32 ag, .bool ah, .slice ac aa.length ai, .slice ad ab.length aj]) (t := 34) ?_; intro am hg w3 ae hb; have al := gG_ hg HB; have ak := gG_ hg HB; replace HB := hS_ HB hb; clear hb hg; obtain ⟨ap, aq, ar, au, av, aB, aC, aD, aE, aF⟩ := cz5_ (w := w3) ae))
  go_ret
  exact ⟨er_, hB_ HB⟩
 ·rw [if_neg c2] at H
  have an : decide ((aa.length : Int) ≤ 300) = false := decide_eq_false c2
  have ao : decide (aa.length ≤ 300) = false := decide_eq_false (by omega)
  clear c2
  obtain rfl := Option.some.inj H
  go_enter Tryd.func12, Tryd.ntmps12
  go_wp2_with (first | ((with_reducible refine gd_ 1 ?_); (try (refine gate_guard (by rfl) ?_; dsimp only)); refine bx_ (N := 1) (cs := #[.int .i64 af, .int .u32 ag, .bool ah, .slice ac aa.length ai, .slice ad ab.length aj]) (t := 34) ?_; intro am hg w5 ae hb; have al := gG_ hg HB; have ak := gG_ hg HB; replace HB := hS_ HB hb; clear hb hg; obtain ⟨aw, ax, ay, az, aA, aG, aH, aI, aJ, aK⟩ := cz5_ (w := w5) ae))
  go_ret
  exact ⟨er_, hB_ HB⟩

/-! ### lodgerref08_Addrs: function 40 -/
def lodgerref08_Addrs.l0 : Nat → List Int → List Int → Int → Option (Bool)
 | 0, _, _, _ => none
 | k + 1, x0, x1, x5 => if x5 < (x0.length : Int) then (if 0 ≤ x5 then (if x5 < (x1.length : Int) then (if (rd x0 x5) = (rd x1 x5) then (lodgerref08_Addrs.l0 k x0 x1 (wrap64 (x5 + 1))) else (some false)) else (none)) else (none)) else (some true)
def lodgerref08_Addrs.f (k : Nat) (l0 l1 : List Int) : Option (Bool) := if (l0.length : Int) = (l1.length : Int) then (lodgerref08_Addrs.l0 k l0 l1 0) else (some false)
theorem lodgerref08_Addrs.mono_l : ∀ k, (∀ y0 y1 y2, LeO (lodgerref08_Addrs.l0 k y0 y1 y2) (lodgerref08_Addrs.l0 (k + 1) y0 y1 y2))
 | 0 => fun _ _ _ r h => by simp [lodgerref08_Addrs.l0] at h
 | k + 1 => by
  have ih0 := lodgerref08_Addrs.mono_l k
  ·intro y0 y1 y2
   unfold lodgerref08_Addrs.l0
   repeat' (with_reducible first | apply ih0 | exact LeO.refl _ | exact LeO.none _ | refine LeO.ite ?_ ?_ | refine LeO.bind ?_ (fun _ => ?_))
theorem lodgerref08_Addrs.mono : ∀ a0 a1 k, LeO (lodgerref08_Addrs.f k a0 a1) (lodgerref08_Addrs.f (k + 1) a0 a1) := by
 intro a0 a1 k
 have ih0 := lodgerref08_Addrs.mono_l k
 unfold lodgerref08_Addrs.f
 repeat' (with_reducible first | apply ih0 | exact LeO.refl _ | exact LeO.none _ | refine LeO.ite ?_ ?_ | refine LeO.bind ?_ (fun _ => ?_))
set_option maxHeartbeats 8000000 in
set_option maxRecDepth 100000 in
theorem lodgerref08_Addrs.calls (k : Nat) (A0 : Option Addr) (c0 : Nat) (l0 : List Int) (A1 : Option Addr) (c1 : Nat) (l1 : List Int) (r : Bool) (w : World) (hr0 : Kd.C (Kd.int .u32) w A0 l0.length l0) (hc0 : l0.length ≤ c0) (hr1 : Kd.C (Kd.int .u32) w A1 l1.length l1) (hc1 : l1.length ≤ c1) (h : lodgerref08_Addrs.f k l0 l1 = some r) :
  Calls Tryd.prog 40 #[.slice A0 l0.length c0, .slice A1 l1.length c1] w fun e w' => e = .returned (.bool r) ∧ Drawn0 w w' := by
 have ae := Aside0.mk hr0
 have al := Aside0.mk hc0
 clear hr0 hc0
 have af := Aside0.mk hr1
 have am := Aside0.mk hc1
 clear hr1 hc1
 have H : (if (l0.length : Int) = (l1.length : Int) then (lodgerref08_Addrs.l0 k l0 l1 0) else (some false)) = some r := h
 clear h
 by_cases c3 : (l0.length : Int) = (l1.length : Int)
 ·rw [if_pos c3] at H
  have ab : ((l0.length : Int) == (l1.length : Int)) = true := beq_iff_eq.mpr c3
  have ac : ((l0.length : Int) != (l1.length : Int)) = false := bne_eq_false_iff_eq.mpr c3
  have ad : (l0.length == l1.length) = true := by first | simpa using c3 | (simp at c3 ⊢; omega)
  clear c3
  have H' := Aside0.mk H
  clear H
  go_enter Tryd.func40, Tryd.ntmps40
  go_wp2
  repeat (go_quiet (fail); try go_wp2)
  go_loopg [5] k (fun kq v5 w' => ∃ (aa : Int), v5 = .int .i64 aa ∧ Aside0 (lodgerref08_Addrs.l0 kq l0 l1 aa = some r) ∧ Aside0 (kq ≤ k) ∧ Drawn0 w w')
  case atStart => exact ⟨(0), rs_, H', ⟨Nat.le_refl _⟩, dn_⟩
  case round =>
   clear H'
   try clear c1
   try clear p2
   try clear c3
   try clear ab
   try clear ac
   try clear ad
   obtain ⟨aa, rfl, HA, HK1, ⟨m1, rfl⟩⟩ := hrel
   cases gk with
   | zero => exact absurd HA.out (by simp [lodgerref08_Addrs.l0])
   | succ k1 =>
    have H := HA.out; clear HA; simp only [lodgerref08_Addrs.l0] at H
    by_cases c4 : aa < (l0.length : Int)
    ·rw [if_pos c4] at H
     have ag : decide (aa < (l0.length : Int)) = true := decide_eq_true c4
     clear c4
     by_cases c5 : 0 ≤ aa
     ·rw [if_pos c5] at H
      have aj : decide (0 ≤ aa) = true := decide_eq_true c5
      clear c5
      by_cases c6 : aa < (l1.length : Int)
      ·rw [if_pos c6] at H
       have ak : decide (aa < (l1.length : Int)) = true := decide_eq_true c6
       clear c6
       by_cases c7 : (rd l0 aa) = (rd l1 aa)
       ·rw [if_pos c7] at H
        have ah : ((rd l0 aa) == (rd l1 aa)) = true := beq_iff_eq.mpr c7
        have ai : ((rd l0 aa) != (rd l1 aa)) = false := bne_eq_false_iff_eq.mpr c7
        clear c7
        have H' := Aside0.mk H
        clear H
        have p518 : 0 ≤ (aa : Int) := od_
        have q518 : aa < (l0.length : Int) := od_
        obtain ⟨ad518, e518, hx518_0⟩ := Kd.at_int ae.out aa p518 q518
        cases e518
        replace p518 := eq_true p518; replace q518 := eq_true q518
        have p519 : 0 ≤ (aa : Int) := od_
        have q519 : aa < (l1.length : Int) := od_
        obtain ⟨ad519, e519, hx519_0⟩ := Kd.at_int af.out aa p519 q519
        cases e519
        replace p519 := eq_true p519; replace q519 := eq_true q519
        go_wp2
        repeat (go_quiet (fail); try go_wp2)
        go_roundg k1
        case measure => have := HK1.out; omega
        case rel => exact ⟨(wrap64 (aa + 1)), rs_, H', ⟨om_ HK1⟩, dn_⟩
       ·rw [if_neg c7] at H
        have ah : ((rd l0 aa) == (rd l1 aa)) = false := beq_eq_false_iff_ne.mpr c7
        have ai : ((rd l0 aa) != (rd l1 aa)) = true := bne_iff_ne.mpr c7
        obtain rfl := Option.some.inj H
        have p518 : 0 ≤ (aa : Int) := od_
        have q518 : aa < (l0.length : Int) := od_
        obtain ⟨ad518, e518, hx518_0⟩ := Kd.at_int ae.out aa p518 q518
        cases e518
        replace p518 := eq_true p518; replace q518 := eq_true q518
        have p519 : 0 ≤ (aa : Int) := od_
        have q519 : aa < (l1.length : Int) := od_
        obtain ⟨ad519, e519, hx519_0⟩ := Kd.at_int af.out aa p519 q519
        cases e519
        replace p519 := eq_true p519; replace q519 := eq_true q519
        go_wp2
        repeat (go_quiet (fail); try go_wp2)
        go_ret
        exact ⟨rs_, dn_⟩
      ·rw [if_neg c6] at H
       exact absurd H (by simp)
     ·rw [if_neg c5] at H
      exact absurd H (by simp)
    ·rw [if_neg c4] at H
     have ag : decide (aa < (l0.length : Int)) = false := decide_eq_false c4
     clear c4
     obtain rfl := Option.some.inj H
     go_wp2
     repeat (go_quiet (fail); try go_wp2)
     go_ret
     exact ⟨rs_, dn_⟩
 ·rw [if_neg c3] at H
  have ab : ((l0.length : Int) == (l1.length : Int)) = false := beq_eq_false_iff_ne.mpr c3
  have ac : ((l0.length : Int) != (l1.length : Int)) = true := bne_iff_ne.mpr c3
  have ad : (l0.length == l1.length) = false := by first | simpa using c3 | (simp at c3 ⊢; omega)
  obtain rfl := Option.some.inj H
  go_enter Tryd.func40, Tryd.ntmps40
  go_wp2
  repeat (go_quiet (fail); try go_wp2)
  go_ret
  exact ⟨rs_, dn_⟩

/-! ### lodgerref08_Answers: function 18 -/
def lodgerref08_Answers.f (k : Nat) (a0_0 a0_1 : Int) (a0_2 : Bool) (l0_3 l0_4 : List Int) (a1_0 a1_1 : Int) (a1_2 : Bool) (l1_3 l1_4 : List Int) : Option (Bool) := if a0_0 = a1_0 then (if a0_1 = a1_1 then (if (a0_2 == a1_2) = true then ((lodgerref08_Addrs.f k l0_3 l1_3).bind fun t522 => (if t522 = true then ((lodgerref08_Errs.f k l0_4 l1_4).bind fun t523 => (some t523)) else (some false))) else (some false)) else (some false)) else (some false)
theorem lodgerref08_Answers.mono : ∀ a0 a1 a2 a3 a4 a5 a6 a7 a8 a9 k, LeO (lodgerref08_Answers.f k a0 a1 a2 a3 a4 a5 a6 a7 a8 a9) (lodgerref08_Answers.f (k + 1) a0 a1 a2 a3 a4 a5 a6 a7 a8 a9) := by
 intro a0 a1 a2 a3 a4 a5 a6 a7 a8 a9 k
 unfold lodgerref08_Answers.f
 repeat' (with_reducible first | apply lodgerref08_Addrs.mono | apply lodgerref08_Errs.mono | exact LeO.refl _ | exact LeO.none _ | refine LeO.ite ?_ ?_ | refine LeO.bind ?_ (fun _ => ?_))
set_option maxHeartbeats 8000000 in
set_option maxRecDepth 100000 in
theorem lodgerref08_Answers.calls (k : Nat) (ah ai : Int) (ad : Bool) (ap : Option Addr) (av : Nat) (al : List Int) (aq : Option Addr) (aw : Nat) (af : List Int) (aj ak : Int) (ae : Bool) (ar : Option Addr) (ax : Nat) (am : List Int) (au : Option Addr) (ay : Nat) (ag : List Int) (r : Bool) (w : World) (hr0_3 : Kd.C (Kd.int .u32) w ap al.length al) (hc0_3 : al.length ≤ av) (hr0_4 : Kd.C (Kd.int .i64) w aq af.length af) (hc0_4 : af.length ≤ aw) (hr1_3 : Kd.C (Kd.int .u32) w ar am.length am) (hc1_3 : am.length ≤ ax) (hr1_4 : Kd.C (Kd.int .i64) w au ag.length ag) (hc1_4 : ag.length ≤ ay) (h : lodgerref08_Answers.f k ah ai ad al af aj ak ae am ag = some r) :
  Calls Tryd.prog 18 #[.agg #[.int .i64 ah, .int .u32 ai, .bool ad, .slice ap al.length av, .slice aq af.length aw], .agg #[.int .i64 aj, .int .u32 ak, .bool ae, .slice ar am.length ax, .slice au ag.length ay]] w fun e w' => e = .returned (.bool r) ∧ Below w.heap.size w w' := by
 have hu34 := Tryd.underlying34
 have aI := Aside0.mk hr0_3
 have aG := Aside0.mk hc0_3
 clear hr0_3 hc0_3
 have aM := Aside0.mk hr0_4
 have aK := Aside0.mk hc0_4
 clear hr0_4 hc0_4
 have aJ := Aside0.mk hr1_3
 have aH := Aside0.mk hc1_3
 clear hr1_3 hc1_3
 have aN := Aside0.mk hr1_4
 have aL := Aside0.mk hc1_4
 clear hr1_4 hc1_4
 have HB := Aside0.mk (Below.refl w.heap.size w)
 have H : (if ah = aj then (if ai = ak then (if (ad == ae) = true then ((lodgerref08_Addrs.f k al am).bind fun aF => (if aF = true then ((lodgerref08_Errs.f k af ag).bind fun ao => (some ao)) else (some false))) else (some false)) else (some false)) else (some false)) = some r := h
 clear h
 by_cases c3 : ah = aj
 ·rw [if_pos c3] at H
  have aO : (ah == aj) = true := beq_iff_eq.mpr c3
  have aP : (ah != aj) = false := bne_eq_false_iff_eq.mpr c3
  clear c3
  by_cases c4 : ai = ak
  ·rw [if_pos c4] at H
   have aQ : (ai == ak) = true := beq_iff_eq.mpr c4
   have aR : (ai != ak) = false := bne_eq_false_iff_eq.mpr c4
   clear c4
   by_cases c5 : (ad == ae) = true
   ·rw [if_pos c5] at H
    have aS : (ad == ae) = true := c5
    (try (have aT : decide (ad = ae) = true := by simpa using c5))
    (try (have aU : (ad == ae) = true := by simpa using c5))
    clear c5; replace H := bi_ H; obtain ⟨aF, A60, H⟩ := H
    replace H : (if aF = true then ((lodgerref08_Errs.f k af ag).bind fun ao => (some ao)) else (some false)) = some r := H
    have A6 := Aside0.mk A60; clear A60
    by_cases c7 : aF = true
    ·subst c7
     have H1 : ((lodgerref08_Errs.f k af ag).bind fun ao => (some ao)) = some r := pf_ rfl H
     clear H; have H := H1; clear H1; replace H := bi_ H; obtain ⟨ao, A80, H⟩ := H
     replace H : (some ao) = some r := H
     have A8 := Aside0.mk A80; clear A80
     obtain rfl := Option.some.inj H
     go_enter Tryd.func18, Tryd.ntmps18
     go_wp2_with (first | ((with_reducible refine gd_ 2 ?_); refine bx_ (N := 2) (cs := #[.int .i64 ah, .int .u32 ai, .bool ad, .slice ap al.length av, .slice aq af.length aw]) (t := 34) ?_; intro aD hg w9 aa hb; have aB := gG_ hg HB; have az := gG_ hg HB; replace HB := hS_ HB hb; clear hb hg) | ((with_reducible refine gd_ 3 ?_); refine bx_ (N := 3) (cs := #[.int .i64 aj, .int .u32 ak, .bool ae, .slice ar am.length ax, .slice au ag.length ay]) (t := 34) ?_; intro aE hg w10 an hb; have aC := gG_ hg HB; have aA := gG_ hg HB; replace HB := hS_ HB hb; have ab := nL_ hg aa; have ac := nG_ hg aa; replace aa := bB_ aa hb; clear hb hg; have cz := ab.out; have cE := ac.out; obtain ⟨aV, aW, aX, aY, aZ, bK, bL, bM, bN, bO⟩ := cz5_ (w := w10) aa; obtain ⟨a0, a1, a2, a3, a4, bP, bQ, bR, bS, bT⟩ := cz5_ (w := w10) an) | (go_at_call 40; (with_reducible refine (lodgerref08_Addrs.calls k _ _ al _ _ am true _ (cC_ aI HB) aG.out (cC_ aJ HB) aH.out A6.out).mono ?_); rintro e w' ⟨rfl, ⟨nd, rfl⟩⟩) | (go_at_call 28; (with_reducible refine (lodgerref08_Errs.calls k _ _ af _ _ ag ao _ (cD_ (Kd.C_below aM.out (hB_ HB))) aK.out (cD_ (Kd.C_below aN.out (hB_ HB))) aL.out A8.out).mono ?_); rintro e w' ⟨rfl, ⟨nd, rfl⟩⟩))
     go_ret
     exact ⟨er_, hB_ HB⟩
    ·replace c7 := Bool.eq_false_iff.mpr c7
     subst c7
     have H1 : (some false) = some r := nf_ H
     clear H; have H := H1; clear H1
     obtain rfl := Option.some.inj H
     go_enter Tryd.func18, Tryd.ntmps18
     go_wp2_with (first | ((with_reducible refine gd_ 2 ?_); refine bx_ (N := 2) (cs := #[.int .i64 ah, .int .u32 ai, .bool ad, .slice ap al.length av, .slice aq af.length aw]) (t := 34) ?_; intro aD hg w14 aa hb; have aB := gG_ hg HB; have az := gG_ hg HB; replace HB := hS_ HB hb; clear hb hg) | ((with_reducible refine gd_ 3 ?_); refine bx_ (N := 3) (cs := #[.int .i64 aj, .int .u32 ak, .bool ae, .slice ar am.length ax, .slice au ag.length ay]) (t := 34) ?_; intro aE hg w15 an hb; have aC := gG_ hg HB; have aA := gG_ hg HB; replace HB := hS_ HB hb; have ab := nL_ hg aa; have ac := nG_ hg aa; replace aa := bB_ aa hb; clear hb hg; have cA := ab.out; have cF := ac.out; obtain ⟨a5, a6, a7, a8, a9, bU, bV, bW, bX, bY⟩ := cz5_ (w := w15) aa; obtain ⟨ba, bb, bc, bd, be, bZ, b0, b1, b2, b3⟩ := cz5_ (w := w15) an) | (go_at_call 40; (with_reducible refine (lodgerref08_Addrs.calls k _ _ al _ _ am false _ (cC_ aI HB) aG.out (cC_ aJ HB) aH.out A6.out).mono ?_); rintro e w' ⟨rfl, ⟨nd, rfl⟩⟩))
     go_ret
     exact ⟨er_, hB_ HB⟩
   ·rw [if_neg c5] at H
    have aS : (ad == ae) = false := by simpa using c5
    (try (have aT : decide (ad = ae) = false := by simpa using c5))
    (try (have aU : (ad == ae) = false := by simpa using c5))
    (try (have cJ : ¬ (ad = ae) := by simpa using c5))
    clear c5
    obtain rfl := Option.some.inj H
    go_enter Tryd.func18, Tryd.ntmps18
    go_wp2_with (first | ((with_reducible refine gd_ 2 ?_); refine bx_ (N := 2) (cs := #[.int .i64 ah, .int .u32 ai, .bool ad, .slice ap al.length av, .slice aq af.length aw]) (t := 34) ?_; intro aD hg w19 aa hb; have aB := gG_ hg HB; have az := gG_ hg HB; replace HB := hS_ HB hb; clear hb hg) | ((with_reducible refine gd_ 3 ?_); refine bx_ (N := 3) (cs := #[.int .i64 aj, .int .u32 ak, .bool ae, .slice ar am.length ax, .slice au ag.length ay]) (t := 34) ?_; intro aE hg w20 an hb; have aC := gG_ hg HB; have aA := gG_ hg HB; replace HB := hS_ HB hb; have ab := nL_ hg aa; have ac := nG_ hg aa; replace aa := bB_ aa hb; clear hb hg; have cB := ab.out; have cG := ac.out; obtain ⟨bf, bg, bh, bi, bj, b4, b5, b6, b7, b8⟩ := cz5_ (w := w20) aa; obtain ⟨bk, bl, bm, bn, bo, b9, ca, cb, cc, cd⟩ := cz5_ (w := w20) an))
    go_ret
    exact ⟨er_, hB_ HB⟩
  ·rw [if_neg c4] at H
   have aQ : (ai == ak) = false := beq_eq_false_iff_ne.mpr c4
   have aR : (ai != ak) = true := bne_iff_ne.mpr c4
   obtain rfl := Option.some.inj H
   go_enter Tryd.func18, Tryd.ntmps18
   go_wp2_with (first | ((with_reducible refine gd_ 2 ?_); refine bx_ (N := 2) (cs := #[.int .i64 ah, .int .u32 ai, .bool ad, .slice ap al.length av, .slice aq af.length aw]) (t := 34) ?_; intro aD hg w24 aa hb; have aB := gG_ hg HB; have az := gG_ hg HB; replace HB := hS_ HB hb; clear hb hg) | ((with_reducible refine gd_ 3 ?_); refine bx_ (N := 3) (cs := #[.int .i64 aj, .int .u32 ak, .bool ae, .slice ar am.length ax, .slice au ag.length ay]) (t := 34) ?_; intro aE hg w25 an hb; have aC := gG_ hg HB; have aA := gG_ hg HB; replace HB := hS_ HB hb; have ab := nL_ hg aa; have ac := nG_ hg aa; replace aa := bB_ aa hb; clear hb hg; have cC := ab.out; have cH := ac.out; obtain ⟨bp, bq, br, bs, bt, ce, cf, cg, ch, ci⟩ := cz5_ (w := w25) aa; obtain ⟨bu, bv, bw, bx, bz, cj, ck, cl, cm, cn⟩ := cz5_ (w := w25) an))
   go_ret
   exact ⟨er_, hB_ HB⟩
 ·rw [if_neg c3] at H
  have aO : (ah == aj) = false := beq_eq_false_iff_ne.mpr c3
  have aP : (ah != aj) = true := bne_iff_ne.mpr c3
  obtain rfl := Option.some.inj H
  go_enter Tryd.func18, Tryd.ntmps18
  go_wp2_with (first | ((with_reducible refine gd_ 2 ?_); refine bx_ (N := 2) (cs := #[.int .i64 ah, .int .u32 ai, .bool ad, .slice ap al.length av, .slice aq af.length aw]) (t := 34) ?_; intro aD hg w29 aa hb; have aB := gG_ hg HB; have az := gG_ hg HB; replace HB := hS_ HB hb; clear hb hg) | ((with_reducible refine gd_ 3 ?_); refine bx_ (N := 3) (cs := #[.int .i64 aj, .int .u32 ak, .bool ae, .slice ar am.length ax, .slice au ag.length ay]) (t := 34) ?_; intro aE hg w30 an hb; have aC := gG_ hg HB; have aA := gG_ hg HB; replace HB := hS_ HB hb; have ab := nL_ hg aa; have ac := nG_ hg aa; replace aa := bB_ aa hb; clear hb hg; have cD := ab.out; have cI := ac.out; obtain ⟨bA, bB, bC, bD, bE, co, cp, cq, cr, ct⟩ := cz5_ (w := w30) aa; obtain ⟨bF, bG, bH, bI, bJ, cu, cv, cw, cx, cy⟩ := cz5_ (w := w30) an))
  go_ret
  exact ⟨er_, hB_ HB⟩

/-! ### lodgerref09_Has: function 21 -/
def lodgerref09_Has.l0 : Nat → List Int → Int → Int → Option (Bool)
 | 0, _, _, _ => none
 | k + 1, x0, x1, x5 => if x5 < (x0.length : Int) then (if 0 ≤ x5 then (if (rd x0 x5) = x1 then (some true) else (lodgerref09_Has.l0 k x0 x1 (wrap64 (x5 + 1)))) else (none)) else (some false)
def lodgerref09_Has.f (k : Nat) (l0 : List Int) (a1 : Int) : Option (Bool) := lodgerref09_Has.l0 k l0 a1 0
theorem lodgerref09_Has.mono_l : ∀ k, (∀ y0 y1 y2, LeO (lodgerref09_Has.l0 k y0 y1 y2) (lodgerref09_Has.l0 (k + 1) y0 y1 y2))
 | 0 => fun _ _ _ r h => by simp [lodgerref09_Has.l0] at h
 | k + 1 => by
  have ih0 := lodgerref09_Has.mono_l k
  ·intro y0 y1 y2
   unfold lodgerref09_Has.l0
   repeat' (with_reducible first | apply ih0 | exact LeO.refl _ | exact LeO.none _ | refine LeO.ite ?_ ?_ | refine LeO.bind ?_ (fun _ => ?_))
theorem lodgerref09_Has.mono : ∀ a0 a1 k, LeO (lodgerref09_Has.f k a0 a1) (lodgerref09_Has.f (k + 1) a0 a1) := by
 intro a0 a1 k
 have ih0 := lodgerref09_Has.mono_l k
 unfold lodgerref09_Has.f
 repeat' (with_reducible first | apply ih0 | exact LeO.refl _ | exact LeO.none _ | refine LeO.ite ?_ ?_ | refine LeO.bind ?_ (fun _ => ?_))
set_option maxHeartbeats 8000000 in
set_option maxRecDepth 100000 in
theorem lodgerref09_Has.calls (k : Nat) (A0 : Option Addr) (c0 : Nat) (l0 : List Int) (a1 : Int) (r : Bool) (w : World) (hr0 : Kd.C (Kd.int .i64) w A0 l0.length l0) (hc0 : l0.length ≤ c0) (h : lodgerref09_Has.f k l0 a1 = some r) :
  Calls Tryd.prog 21 #[.slice A0 l0.length c0, .int .i64 a1] w fun e w' => e = .returned (.bool r) ∧ Drawn0 w w' := by
 have ab := Aside0.mk hr0
 have ag := Aside0.mk hc0
 clear hr0 hc0
 have H : (lodgerref09_Has.l0 k l0 a1 0) = some r := h
 clear h
 have H' := Aside0.mk H
 clear H
 go_enter Tryd.func21, Tryd.ntmps21
 go_wp2
 go_loopg [5] k (fun kq v5 w' => ∃ (aa : Int), v5 = .int .i64 aa ∧ Aside0 (lodgerref09_Has.l0 kq l0 a1 aa = some r) ∧ Aside0 (kq ≤ k) ∧ Drawn0 w w')
 case atStart => exact ⟨(0), rs_, H', ⟨Nat.le_refl _⟩, dn_⟩
 case round =>
  clear H'
  try clear c2
  try clear p2
  obtain ⟨aa, rfl, HA, HK1, ⟨m1, rfl⟩⟩ := hrel
  cases gk with
  | zero => exact absurd HA.out (by simp [lodgerref09_Has.l0])
  | succ k1 =>
   have H := HA.out; clear HA; simp only [lodgerref09_Has.l0] at H
   by_cases c3 : aa < (l0.length : Int)
   ·rw [if_pos c3] at H
    have ac : decide (aa < (l0.length : Int)) = true := decide_eq_true c3
    clear c3
    by_cases c4 : 0 ≤ aa
    ·rw [if_pos c4] at H
     have af : decide (0 ≤ aa) = true := decide_eq_true c4
     clear c4
     by_cases c5 : (rd l0 aa) = a1
     ·rw [if_pos c5] at H
      have ad : ((rd l0 aa) == a1) = true := beq_iff_eq.mpr c5
      have ae : ((rd l0 aa) != a1) = false := bne_eq_false_iff_eq.mpr c5
      clear c5
      obtain rfl := Option.some.inj H
      have p524 : 0 ≤ (aa : Int) := od_
      have q524 : aa < (l0.length : Int) := od_
      obtain ⟨ad524, e524, hx524_0⟩ := Kd.at_int ab.out aa p524 q524
      cases e524
      replace p524 := eq_true p524; replace q524 := eq_true q524
      go_wp2
      go_ret
      exact ⟨rs_, dn_⟩
     ·rw [if_neg c5] at H
      have ad : ((rd l0 aa) == a1) = false := beq_eq_false_iff_ne.mpr c5
      have ae : ((rd l0 aa) != a1) = true := bne_iff_ne.mpr c5
      have H' := Aside0.mk H
      clear H
      have p524 : 0 ≤ (aa : Int) := od_
      have q524 : aa < (l0.length : Int) := od_
      obtain ⟨ad524, e524, hx524_0⟩ := Kd.at_int ab.out aa p524 q524
      cases e524
      replace p524 := eq_true p524; replace q524 := eq_true q524
      go_wp2
      go_roundg k1
      case measure => have := HK1.out; omega
      case rel => exact ⟨(wrap64 (aa + 1)), rs_, H', ⟨om_ HK1⟩, dn_⟩
    ·rw [if_neg c4] at H
     exact absurd H (by simp)
   ·rw [if_neg c3] at H
    have ac : decide (aa < (l0.length : Int)) = false := decide_eq_false c3
    clear c3
    obtain rfl := Option.some.inj H
    go_wp2
    go_ret
    exact ⟨rs_, dn_⟩

/-! ### lodgerref09_With: function 23 -/
mutual
def lodgerref09_With.l0 : Nat → List Int → Int → List Int → Bool → Int → Option (List Int)
 | 0, _, _, _, _, _ => none
 | k + 1, x0, x1, x5, x6, x7 => if x7 < (x0.length : Int) then (if x6 = true then (lodgerref09_With.j1 k x0 x1 x5 x6 x7 false) else (if 0 ≤ x7 then (lodgerref09_With.j1 k x0 x1 x5 x6 x7 (decide ((rd x0 x7) ≥ x1))) else (none))) else (if x6 = true then (some x5) else (if x5.length < 17592186044416 then (some (x5 ++ [x1])) else (none)))
def lodgerref09_With.j1 : Nat → List Int → Int → List Int → Bool → Int → Bool → Option (List Int)
 | 0, _, _, _, _, _, _ => none
 | k + 1, x0, x1, x5, x6, x7, x23 => if x23 = true then (if 0 ≤ x7 then (if x7 < (x0.length : Int) then (if (rd x0 x7) > x1 then (if x5.length < 17592186044416 then ((some (x5 ++ [x1] : List Int)).bind fun y530 => (if y530.length < 17592186044416 then (lodgerref09_With.l0 k x0 x1 (y530 ++ [rd x0 x7]) true (wrap64 (x7 + 1))) else (none))) else (none)) else (if x5.length < 17592186044416 then (lodgerref09_With.l0 k x0 x1 (x5 ++ [rd x0 x7]) true (wrap64 (x7 + 1))) else (none))) else (none)) else (none)) else (if 0 ≤ x7 then (if x7 < (x0.length : Int) then (if x5.length < 17592186044416 then (lodgerref09_With.l0 k x0 x1 (x5 ++ [rd x0 x7]) x6 (wrap64 (x7 + 1))) else (none)) else (none)) else (none))
end
def lodgerref09_With.f (k : Nat) (l0 : List Int) (a1 : Int) : Option (List Int) := lodgerref09_With.l0 k l0 a1 ([] : List Int) false 0
theorem lodgerref09_With.mono_l : ∀ k, (∀ y0 y1 y2 y3 y4, LeO (lodgerref09_With.l0 k y0 y1 y2 y3 y4) (lodgerref09_With.l0 (k + 1) y0 y1 y2 y3 y4)) ∧ (∀ y0 y1 y2 y3 y4 y5, LeO (lodgerref09_With.j1 k y0 y1 y2 y3 y4 y5) (lodgerref09_With.j1 (k + 1) y0 y1 y2 y3 y4 y5))
 | 0 => ⟨fun _ _ _ _ _ r h => by simp [lodgerref09_With.l0] at h, fun _ _ _ _ _ _ r h => by simp [lodgerref09_With.j1] at h⟩
 | k + 1 => by
  obtain ⟨ih0, ih1⟩ := lodgerref09_With.mono_l k
  refine ⟨?_, ?_⟩
  ·intro y0 y1 y2 y3 y4
   unfold lodgerref09_With.l0
   repeat' (with_reducible first | apply ih0 | apply ih1 | exact LeO.refl _ | exact LeO.none _ | refine LeO.ite ?_ ?_ | refine LeO.bind ?_ (fun _ => ?_))
  ·intro y0 y1 y2 y3 y4 y5
   unfold lodgerref09_With.j1
   repeat' (with_reducible first | apply ih0 | apply ih1 | exact LeO.refl _ | exact LeO.none _ | refine LeO.ite ?_ ?_ | refine LeO.bind ?_ (fun _ => ?_))
theorem lodgerref09_With.mono : ∀ a0 a1 k, LeO (lodgerref09_With.f k a0 a1) (lodgerref09_With.f (k + 1) a0 a1) := by
 intro a0 a1 k
 obtain ⟨ih0, ih1⟩ := lodgerref09_With.mono_l k
 unfold lodgerref09_With.f
 repeat' (with_reducible first | apply ih0 | apply ih1 | exact LeO.refl _ | exact LeO.none _ | refine LeO.ite ?_ ?_ | refine LeO.bind ?_ (fun _ => ?_))
set_option maxHeartbeats 8000000 in
set_option maxRecDepth 100000 in
theorem lodgerref09_With.calls (k : Nat) (A0 : Option Addr) (c0 : Nat) (l0 : List Int) (a1 : Int) (r : List Int) (w : World) (hr0 : Kd.C (Kd.int .i64) w A0 l0.length l0) (hc0 : l0.length ≤ c0) (h : lodgerref09_With.f k l0 a1 = some r) :
  Calls Tryd.prog 23 #[.slice A0 l0.length c0, .int .i64 a1] w fun e w' => ∃ v0_ : Value, e = .returned (v0_) ∧ Kd.R (Kd.int .i64) 3 w' w.heap.size (fun _ => True) v0_ r ∧ Below w.heap.size w w' := by
 have ah := Aside0.mk hr0
 have aC := Aside0.mk hc0
 clear hr0 hc0
 have HB := Aside0.mk (Below.refl w.heap.size w)
 have H : (lodgerref09_With.l0 k l0 a1 ([] : List Int) false 0) = some r := h
 clear h
 have H' := Aside0.mk H
 clear H
 go_enter Tryd.func23, Tryd.ntmps23
 go_wp2
 go_loopg [5, 6, 7] k (fun kq v5 v6 v7 w' => ∃ (ab : List Int) (ad : Bool) (aa : Int), v6 = .bool ad ∧ v7 = .int .i64 aa ∧ Aside0 (lodgerref09_With.l0 kq l0 a1 ab ad aa = some r) ∧ Aside0 (kq ≤ k) ∧ Aside0 (Kd.R (Kd.int .i64) 3 w' w.heap.size (fun _ => True) v5 ab) ∧ Aside0 (Below w.heap.size w w'))
 case atStart => exact ⟨(([] : List Int)), (false), (0), rs_, rs_, H', ⟨Nat.le_refl _⟩, ⟨nl_⟩, ⟨hB_ HB⟩⟩
 case round =>
  clear H'
  try clear c2
  try clear p2
  obtain ⟨ab, ad, aa, rfl, rfl, HA, HK1, ac, HB⟩ := hrel
  cases gk with
  | zero => exact absurd HA.out (by simp [lodgerref09_With.l0])
  | succ k1 =>
   have H := HA.out; clear HA; simp only [lodgerref09_With.l0] at H
   by_cases c3 : aa < (l0.length : Int)
   ·rw [if_pos c3] at H
    have al : decide (aa < (l0.length : Int)) = true := decide_eq_true c3
    clear c3; have ak := Aside0.mk H; clear H
    go_upto_region 6 with (fail)
    go_cut [23] (fun v23 wc => ∃ (kq : Nat) (af : Bool), v23 = .bool af ∧ Aside0 (lodgerref09_With.j1 kq l0 a1 ab ad aa af = some r) ∧ Aside0 (kq ≤ k1) ∧ Aside0 (Kd.R (Kd.int .i64) 3 wc w.heap.size (fun _ => True) u5 ab) ∧ Aside0 (Below w.heap.size w wc))
    case first =>
     have H := ak.out; clear ak
     by_cases c5 : ad = true
     ·subst c5
      have H1 : (lodgerref09_With.j1 k1 l0 a1 ab true aa false) = some r := pf_ rfl H
      clear H; have H := H1; clear H1
      have H' := Aside0.mk H
      clear H
      go_wp2
      go_meet
      case rel => exact ⟨_, (false), rs_, H', ⟨by have := HK1.out; first | omega | exact Nat.le_refl _⟩, ⟨rR_ ac⟩, ⟨hB_ HB⟩⟩
     ·replace c5 := Bool.eq_false_iff.mpr c5
      subst c5
      have H1 : (if 0 ≤ aa then (lodgerref09_With.j1 k1 l0 a1 ab false aa (decide ((rd l0 aa) ≥ a1))) else (none)) = some r := nf_ H
      clear H; have H := H1; clear H1
      by_cases c6 : 0 ≤ aa
      ·rw [if_pos c6] at H
       have ai : decide (0 ≤ aa) = true := decide_eq_true c6
       clear c6
       (first | rw [ai] | (simp only [i64_w, i32_w]; rw [ai]) | skip)
       have H' := Aside0.mk H
       clear H
       have p528 : 0 ≤ (aa : Int) := od_
       have q528 : aa < (l0.length : Int) := od_
       obtain ⟨ad528, e528, hx528_0⟩ := Kd.at_int ah.out aa p528 q528
       cases e528
       replace hx528_0 := (HB.out.cell (World.block_lt_of_cell? w _ hx528_0)).trans hx528_0; replace p528 := eq_true p528; replace q528 := eq_true q528
       go_wp2
       go_meet
       case rel => exact ⟨_, (decide ((rd l0 aa) ≥ a1)), rs_, H', ⟨by have := HK1.out; first | omega | exact Nat.le_refl _⟩, ⟨rR_ ac⟩, ⟨hB_ HB⟩⟩
      ·rw [if_neg c6] at H
       exact absurd H (by simp)
    case rest =>
     clear ak
     try clear c2
     try clear p2
     try clear c3
     try clear al
     try clear c5
     try clear p5
     try clear q5
     try clear hx5
     try clear c6
     try clear ai
     try clear hx528_0
     try clear p2
     try clear p528
     try clear q528
     obtain ⟨kq, af, rfl, HA, ag, ac, HB⟩ := hcut
     cases kq with
     | zero => exact absurd HA.out (by simp [lodgerref09_With.j1])
     | succ kj3 =>
      have H := HA.out; clear HA; simp only [lodgerref09_With.j1] at H
      by_cases c7 : af = true
      ·subst c7
       have H1 : (if 0 ≤ aa then (if aa < (l0.length : Int) then (if (rd l0 aa) > a1 then (if ab.length < 17592186044416 then ((some (ab ++ [a1] : List Int)).bind fun ae => (if ae.length < 17592186044416 then (lodgerref09_With.l0 kj3 l0 a1 (ae ++ [rd l0 aa]) true (wrap64 (aa + 1))) else (none))) else (none)) else (if ab.length < 17592186044416 then (lodgerref09_With.l0 kj3 l0 a1 (ab ++ [rd l0 aa]) true (wrap64 (aa + 1))) else (none))) else (none)) else (none)) = some r := pf_ rfl H
       clear H; have H := H1; clear H1
       by_cases c8 : 0 ≤ aa
       ·rw [if_pos c8] at H
        have az : decide (0 ≤ aa) = true := decide_eq_true c8
        clear c8
        by_cases c9 : aa < (l0.length : Int)
        ·rw [if_pos c9] at H
         have aA : decide (aa < (l0.length : Int)) = true := decide_eq_true c9
         clear c9
         by_cases c10 : (rd l0 aa) > a1
         ·rw [if_pos c10] at H
          have av : decide (a1 < (rd l0 aa)) = true := decide_eq_true c10
          clear c10
          by_cases c11 : ab.length < 17592186044416
          ·rw [if_pos c11] at H
           have LMc11 := Aside0.mk c11; clear c11; obtain ⟨ae, hy530⟩ : ∃ y_ : List Int, y_ = (ab ++ [a1]) := ⟨_, rfl⟩
           replace H : (if ae.length < 17592186044416 then (lodgerref09_With.l0 kj3 l0 a1 (ae ++ [rd l0 aa]) true (wrap64 (aa + 1))) else (none)) = some r := rp_ hy530 H
           have Ny530 := Aside0.mk hy530; clear hy530
           by_cases c12 : ae.length < 17592186044416
           ·rw [if_pos c12] at H
            have LMc12 := Aside0.mk c12; clear c12; obtain ⟨am, hy534⟩ : ∃ y_ : List Int, y_ = (ae ++ [rd l0 aa]) := ⟨_, rfl⟩
            replace H : (lodgerref09_With.l0 kj3 l0 a1 am true (wrap64 (aa + 1))) = some r := rp_ hy534 H
            have Ny534 := Aside0.mk hy534; clear hy534
            have H' := Aside0.mk H
            clear H
            have p529 : 0 ≤ (aa : Int) := od_
            have q529 : aa < (l0.length : Int) := od_
            obtain ⟨ad529, e529, hx529_0⟩ := Kd.at_int ah.out aa p529 q529
            cases e529
            replace hx529_0 := (HB.out.cell (World.block_lt_of_cell? w _ hx529_0)).trans hx529_0; replace p529 := eq_true p529; replace q529 := eq_true q529
            go_wp2_with (first | ((with_reducible refine gate_builtin (b := .append) (xs := #[.tmp 30, .tmp 32]) rfl ?_); at_builtin; refine Kd.R_append (Kd.int .i64) (w0 := w) w.heap.size rfl (.tmp 30) (.tmp 32) 25 3 (.int .i64 0) 8 rfl Tryd.underlying25 info3 rfl (by decide) (by omega) u5 ab a1 [.int .i64 a1] (fun _ => True) (fun _ => False) rfl rfl ?aP (fun _ hk => hk.elim) ?aF ?aO ?aB ?aS ?aL ?_; (case aP => exact rfl); (case aB => exact (hB_ HB)); (case aF => exact (fun _ _ => trivial)); (case aO => exact (rR_ ac)); (case aS => exact (below_size (hB_ HB))); (case aL => have := LMc11.out; omega); intro v531 w13 ho hb hg hat; rw [← Ny530.out] at ho; replace HB := Aside0.mk (hb); have aj := Aside0.mk (ho); clear ac ho hb hg hat; have p533 : 0 ≤ (aa : Int) := od_; have q533 : aa < (l0.length : Int) := od_; obtain ⟨ad533, e533, hx533_0⟩ := Kd.at_int ah.out aa p533 q533; obtain rfl : ad529 = ad533 := (by injection e533); replace hx533_0 := (HB.out.cell (World.block_lt_of_cell? w _ hx533_0)).trans hx533_0; replace p533 := eq_true p533; replace q533 := eq_true q533) | ((with_reducible refine gate_builtin (b := .append) (xs := #[.tmp 34, .tmp 39]) rfl ?_); at_builtin; refine Kd.R_append (Kd.int .i64) (w0 := w) w.heap.size rfl (.tmp 34) (.tmp 39) 25 3 (.int .i64 0) 8 rfl Tryd.underlying25 info3 rfl (by decide) (by omega) v531 ae (rd l0 aa) [.int .i64 (rd l0 aa)] (fun _ => True) (fun _ => False) rfl rfl ?aP (fun _ hk => hk.elim) ?aF ?aO ?aB ?aS ?aL ?_; (case aP => exact rfl); (case aB => exact (hB_ HB)); (case aF => exact (fun _ _ => trivial)); (case aO => exact (rR_ aj)); (case aS => exact (below_size (hB_ HB))); (case aL => have := LMc12.out; omega); intro v535 w14 ho hb hg hat; rw [← Ny534.out] at ho; replace HB := Aside0.mk (hb); have aq := Aside0.mk (ho); clear aj ho hb hg hat))
            go_roundg kj3
            case measure => have := HK1.out; have := ag.out; omega
            case rel => exact ⟨(am), (true), (wrap64 (aa + 1)), rs_, rs_, H', ⟨om2_ HK1 ag⟩, ⟨rR_ aq⟩, ⟨hB_ HB⟩⟩
           ·rw [if_neg c12] at H
            exact absurd H (by simp)
          ·rw [if_neg c11] at H
           exact absurd H (by simp)
         ·rw [if_neg c10] at H
          have av : decide (a1 < (rd l0 aa)) = false := decide_eq_false c10
          clear c10
          by_cases c15 : ab.length < 17592186044416
          ·rw [if_pos c15] at H
           have LMc15 := Aside0.mk c15; clear c15; obtain ⟨an, hy538⟩ : ∃ y_ : List Int, y_ = (ab ++ [rd l0 aa]) := ⟨_, rfl⟩
           replace H : (lodgerref09_With.l0 kj3 l0 a1 an true (wrap64 (aa + 1))) = some r := rp_ hy538 H
           have Ny538 := Aside0.mk hy538; clear hy538
           have H' := Aside0.mk H
           clear H
           have p529 : 0 ≤ (aa : Int) := od_
           have q529 : aa < (l0.length : Int) := od_
           obtain ⟨ad529, e529, hx529_0⟩ := Kd.at_int ah.out aa p529 q529
           cases e529
           replace hx529_0 := (HB.out.cell (World.block_lt_of_cell? w _ hx529_0)).trans hx529_0; replace p529 := eq_true p529; replace q529 := eq_true q529
           have p537 : 0 ≤ (aa : Int) := od_
           have q537 : aa < (l0.length : Int) := od_
           obtain ⟨ad537, e537, hx537_0⟩ := Kd.at_int ah.out aa p537 q537
           obtain rfl : ad529 = ad537 := (by injection e537)
           replace hx537_0 := (HB.out.cell (World.block_lt_of_cell? w _ hx537_0)).trans hx537_0; replace p537 := eq_true p537; replace q537 := eq_true q537
           go_wp2_with (first | ((with_reducible refine gate_builtin (b := .append) (xs := #[.tmp 34, .tmp 39]) rfl ?_); at_builtin; refine Kd.R_append (Kd.int .i64) (w0 := w) w.heap.size rfl (.tmp 34) (.tmp 39) 25 3 (.int .i64 0) 8 rfl Tryd.underlying25 info3 rfl (by decide) (by omega) u5 ab (rd l0 aa) [.int .i64 (rd l0 aa)] (fun _ => True) (fun _ => False) rfl rfl ?aP (fun _ hk => hk.elim) ?aF ?aO ?aB ?aS ?aL ?_; (case aP => exact rfl); (case aB => exact (hB_ HB)); (case aF => exact (fun _ _ => trivial)); (case aO => exact (rR_ ac)); (case aS => exact (below_size (hB_ HB))); (case aL => have := LMc15.out; omega); intro v539 w16 ho hb hg hat; rw [← Ny538.out] at ho; replace HB := Aside0.mk (hb); have ar := Aside0.mk (ho); clear ac ho hb hg hat))
           go_roundg kj3
           case measure => have := HK1.out; have := ag.out; omega
           case rel => exact ⟨(an), (true), (wrap64 (aa + 1)), rs_, rs_, H', ⟨om2_ HK1 ag⟩, ⟨rR_ ar⟩, ⟨hB_ HB⟩⟩
          ·rw [if_neg c15] at H
           exact absurd H (by simp)
        ·rw [if_neg c9] at H
         exact absurd H (by simp)
       ·rw [if_neg c8] at H
        exact absurd H (by simp)
      ·replace c7 := Bool.eq_false_iff.mpr c7
       subst c7
       have H1 : (if 0 ≤ aa then (if aa < (l0.length : Int) then (if ab.length < 17592186044416 then (lodgerref09_With.l0 kj3 l0 a1 (ab ++ [rd l0 aa]) ad (wrap64 (aa + 1))) else (none)) else (none)) else (none)) = some r := nf_ H
       clear H; have H := H1; clear H1
       by_cases c17 : 0 ≤ aa
       ·rw [if_pos c17] at H
        have ax : decide (0 ≤ aa) = true := decide_eq_true c17
        clear c17
        by_cases c18 : aa < (l0.length : Int)
        ·rw [if_pos c18] at H
         have ay : decide (aa < (l0.length : Int)) = true := decide_eq_true c18
         clear c18
         by_cases c19 : ab.length < 17592186044416
         ·rw [if_pos c19] at H
          have LMc19 := Aside0.mk c19; clear c19; obtain ⟨ao, hy542⟩ : ∃ y_ : List Int, y_ = (ab ++ [rd l0 aa]) := ⟨_, rfl⟩
          replace H : (lodgerref09_With.l0 kj3 l0 a1 ao ad (wrap64 (aa + 1))) = some r := rp_ hy542 H
          have Ny542 := Aside0.mk hy542; clear hy542
          have H' := Aside0.mk H
          clear H
          have p541 : 0 ≤ (aa : Int) := od_
          have q541 : aa < (l0.length : Int) := od_
          obtain ⟨ad541, e541, hx541_0⟩ := Kd.at_int ah.out aa p541 q541
          cases e541
          replace hx541_0 := (HB.out.cell (World.block_lt_of_cell? w _ hx541_0)).trans hx541_0; replace p541 := eq_true p541; replace q541 := eq_true q541
          go_wp2_with (first | ((with_reducible refine gate_builtin (b := .append) (xs := #[.tmp 34, .tmp 39]) rfl ?_); at_builtin; refine Kd.R_append (Kd.int .i64) (w0 := w) w.heap.size rfl (.tmp 34) (.tmp 39) 25 3 (.int .i64 0) 8 rfl Tryd.underlying25 info3 rfl (by decide) (by omega) u5 ab (rd l0 aa) [.int .i64 (rd l0 aa)] (fun _ => True) (fun _ => False) rfl rfl ?aP (fun _ hk => hk.elim) ?aF ?aO ?aB ?aS ?aL ?_; (case aP => exact rfl); (case aB => exact (hB_ HB)); (case aF => exact (fun _ _ => trivial)); (case aO => exact (rR_ ac)); (case aS => exact (below_size (hB_ HB))); (case aL => have := LMc19.out; omega); intro v543 w20 ho hb hg hat; rw [← Ny542.out] at ho; replace HB := Aside0.mk (hb); have au := Aside0.mk (ho); clear ac ho hb hg hat))
          go_roundg kj3
          case measure => have := HK1.out; have := ag.out; omega
          case rel => exact ⟨(ao), (ad), (wrap64 (aa + 1)), rs_, rs_, H', ⟨om2_ HK1 ag⟩, ⟨rR_ au⟩, ⟨hB_ HB⟩⟩
         ·rw [if_neg c19] at H
          exact absurd H (by simp)
        ·rw [if_neg c18] at H
         exact absurd H (by simp)
       ·rw [if_neg c17] at H
        exact absurd H (by simp)
   ·rw [if_neg c3] at H
    have al : decide (aa < (l0.length : Int)) = false := decide_eq_false c3
    clear c3
    by_cases c21 : ad = true
    ·subst c21
     have H1 : (some ab) = some r := pf_ rfl H
     clear H; have H := H1; clear H1
     obtain rfl := Option.some.inj H
     go_wp2
     go_ret
     exact ⟨_, er_, rR_ ac, hB_ HB⟩
    ·replace c21 := Bool.eq_false_iff.mpr c21
     subst c21
     have H1 : (if ab.length < 17592186044416 then (some (ab ++ [a1])) else (none)) = some r := nf_ H
     clear H; have H := H1; clear H1
     by_cases c22 : ab.length < 17592186044416
     ·rw [if_pos c22] at H
      have LMc22 := Aside0.mk c22; clear c22; obtain ⟨aw, hy525⟩ : ∃ y_ : List Int, y_ = (ab ++ [a1]) := ⟨_, rfl⟩
      replace H : (some aw) = some r := rp_ hy525 H
      have Ny525 := Aside0.mk hy525; clear hy525
      obtain rfl := Option.some.inj H
      go_wp2_with (first | ((with_reducible refine gate_builtin (b := .append) (xs := #[.tmp 43, .tmp 45]) rfl ?_); at_builtin; refine Kd.R_append (Kd.int .i64) (w0 := w) w.heap.size rfl (.tmp 43) (.tmp 45) 25 3 (.int .i64 0) 8 rfl Tryd.underlying25 info3 rfl (by decide) (by omega) u5 ab a1 [.int .i64 a1] (fun _ => True) (fun _ => False) rfl rfl ?aP (fun _ hk => hk.elim) ?aF ?aO ?aB ?aS ?aL ?_; (case aP => exact rfl); (case aB => exact (hB_ HB)); (case aF => exact (fun _ _ => trivial)); (case aO => exact (rR_ ac)); (case aS => exact (below_size (hB_ HB))); (case aL => have := LMc22.out; omega); intro v526 w23 ho hb hg hat; rw [← Ny525.out] at ho; replace HB := Aside0.mk (hb); have ap := Aside0.mk (ho); clear ac ho hb hg hat))
      go_ret
      exact ⟨_, er_, rR_ ap, hB_ HB⟩
     ·rw [if_neg c22] at H
      exact absurd H (by simp)

end Go.Proofs.YtkiimboedgnoiaaDoor.PSpecTells
