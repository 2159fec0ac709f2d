/- The walk of SpecBack, part of it: what the Go functions answer; no condition. -/
import Derived.Test.YtkiimboedgnoiaaDoorQSpecBackx0
import Derived.Test.YtkiimboedgnoiaaDoorQSpecBackx7
import Derived.Test.YtkiimboedgnoiaaDoorQSpecBackx8
import Derived.Test.YtkiimboedgnoiaaDoorQSpecBackx9
import Derived.Test.YtkiimboedgnoiaaDoorQSpecBackx11
namespace Go.Proofs.YtkiimboedgnoiaaDoor.PSpecBack
open Go.RowKit Go.Proofs.YtkiimboedgnoiaaDoorW.PrintWords Go.Proofs.YtkiimboedgnoiaaDoorW.PrintLast Go.Proofs.YtkiimboedgnoiaaDoorW.PrintMore
attribute [local go_sem] max2_int min2_int max_two min_two max_three min_three max_four min_four   -- for this text's walks alone
set_option linter.unusedVariables false
set_option linter.unusedSimpArgs false

/-! ### lodgerref11_Fits: function 10 -/
def lodgerref11_Fits.f (k : Nat) (a0_0 a0_1 : Int) (l0_2 : List Int) (a0_3 a0_4 : Int) (a0_5 a0_6 : Int) (l1 : List Int) : Option (Bool) := (lodgerref05_May.f k a0_0 a0_1 l0_2 a0_3 a0_4 a0_5 a0_6).bind fun t513 => (if t513 = true then ((lodgerref05_Many.f k a0_0 a0_1).bind fun t514 => (if t514 ≤ 256 then (if (l1.length : Int) ≤ 300 then ((lodgerref09_May.f k a0_0 a0_1 l0_2 a0_3 a0_4 a0_5 a0_6 l1).bind fun t515 => (some t515)) else (some false)) else (some false))) else (some false))
theorem lodgerref11_Fits.mono : ∀ a0 a1 a2 a3 a4 a5 a6 a7 k, LeO (lodgerref11_Fits.f k a0 a1 a2 a3 a4 a5 a6 a7) (lodgerref11_Fits.f (k + 1) a0 a1 a2 a3 a4 a5 a6 a7) := by
 intro a0 a1 a2 a3 a4 a5 a6 a7 k
 unfold lodgerref11_Fits.f
 repeat' (with_reducible first | apply lodgerref05_Many.mono | apply lodgerref05_May.mono | apply lodgerref09_May.mono | exact LeO.refl _ | exact LeO.none _ | refine LeO.ite ?_ ?_ | refine LeO.bind ?_ (fun _ => ?_))
set_option maxHeartbeats 8000000 in
set_option maxRecDepth 100000 in
theorem lodgerref11_Fits.calls (k : Nat) (ab ac : Int) (aj : Option Addr) (ak : Nat) (ad : List Int) (ae af : Int) (ag ah : Int) (A1 : Option Addr) (c1 : Nat) (l1 : List Int) (r : Bool) (w : World) (hr0_2 : Kd.C (Kd.int .i64) w aj ad.length ad) (hc0_2 : ad.length ≤ ak) (hr1 : Kd.C (Kd.int .i64) w A1 l1.length l1) (hc1 : l1.length ≤ c1) (h : lodgerref11_Fits.f k ab ac ad ae af ag ah l1 = some r) :
  Calls Tryd.prog 10 #[.agg #[.int .u32 ab, .int .i64 ac, .slice aj ad.length ak, .int .i64 ae, .int .i64 af, .int .i64 ag, .int .i64 ah], .slice A1 l1.length c1] w fun e w' => e = .returned (.bool r) ∧ Below w.heap.size w w' := by
 have hu27 := Tryd.underlying27
 have hu24 := Tryd.underlying24
 have an := Aside0.mk hr0_2
 have am := Aside0.mk hc0_2
 clear hr0_2 hc0_2
 have cn := Aside0.mk hr1
 have cm := Aside0.mk hc1
 clear hr1 hc1
 have HB := Aside0.mk (Below.refl w.heap.size w)
 have H : ((lodgerref05_May.f k ab ac ad ae af ag ah).bind fun ar => (if ar = true then ((lodgerref05_Many.f k ab ac).bind fun ai => (if ai ≤ 256 then (if (l1.length : Int) ≤ 300 then ((lodgerref09_May.f k ab ac ad ae af ag ah l1).bind fun al => (some al)) else (some false)) else (some false))) else (some false))) = some r := h
 clear h
 replace H := bi_ H
 obtain ⟨ar, A30, H⟩ := H
 replace H : (if ar = true then ((lodgerref05_Many.f k ab ac).bind fun ai => (if ai ≤ 256 then (if (l1.length : Int) ≤ 300 then ((lodgerref09_May.f k ab ac ad ae af ag ah l1).bind fun al => (some al)) else (some false)) else (some false))) else (some false)) = some r := H
 have A3 := Aside0.mk A30
 clear A30
 by_cases c4 : ar = true
 ·subst c4
  have H1 : ((lodgerref05_Many.f k ab ac).bind fun ai => (if ai ≤ 256 then (if (l1.length : Int) ≤ 300 then ((lodgerref09_May.f k ab ac ad ae af ag ah l1).bind fun al => (some al)) else (some false)) else (some false))) = some r := by rw [if_pos rfl] at H; exact H
  clear H; have H := H1; clear H1; replace H := bi_ H; obtain ⟨ai, A50, H⟩ := H
  replace H : (if ai ≤ 256 then (if (l1.length : Int) ≤ 300 then ((lodgerref09_May.f k ab ac ad ae af ag ah l1).bind fun al => (some al)) else (some false)) else (some false)) = some r := H
  have A5 := Aside0.mk A50; clear A50
  by_cases c6 : ai ≤ 256
  ·rw [if_pos c6] at H
   have au : decide (ai ≤ 256) = true := decide_eq_true c6
   clear c6
   by_cases c7 : (l1.length : Int) ≤ 300
   ·rw [if_pos c7] at H
    have av : decide ((l1.length : Int) ≤ 300) = true := decide_eq_true c7
    have aw : decide (l1.length ≤ 300) = true := decide_eq_true (by omega)
    clear c7; replace H := bi_ H; obtain ⟨al, A80, H⟩ := H
    replace H : (some al) = some r := H
    have A8 := Aside0.mk A80; clear A80
    obtain rfl := Option.some.inj H
    go_enter Tryd.func10, Tryd.ntmps10
    go_wp2_with (first | ((with_reducible refine gate_dst (N := 2) rfl ?_); (try (refine gate_guard (by rfl) ?_; dsimp only)); refine bx_ (N := 2) (cs := #[.int .u32 ab, .int .i64 ac, .slice aj ad.length ak, .int .i64 ae, .int .i64 af, .int .i64 ag, .int .i64 ah]) (t := 27) ?_; intro aq hg w9 aa hb; have ap := gG_ hg HB; have ao := gG_ hg HB; replace HB := hS_ HB hb; clear hb hg; obtain ⟨ax, ay, az, aA, aB, aC, aD, br, bs, bt, bu, bv, bw, bx⟩ := cz7_ (w := w9) aa) | ((with_reducible refine gate_callee (f := 29) rfl ?_); refine gL_ (some 6) Tryd.func29 #[.agg #[.int .u32 ab, .int .i64 ac, .slice aj ad.length ak, .int .i64 ae, .int .i64 af, .int .i64 ag, .int .i64 ah]] ?_; (with_reducible refine (lodgerref05_May.calls k ab ac _ _ ad ae af ag ah true _ ?side1 ?side2 A3.out).mono ?_); (case side1 => exact cC_ an HB); (case side2 => exact am.out); rintro e w11 ⟨rfl, hb⟩; refine ⟨_, rfl, ?_⟩; replace HB := hS_ HB hb; replace aa := bB_ aa hb; (try clear hb); obtain ⟨aE, aF, aG, aH, aI, aJ, aK, bz, bA, bB, bC, bD, bE, bF⟩ := cz7_ (w := w11) aa) | (go_at_call 30; (with_reducible refine (lodgerref05_Many.calls k ab ac ai _ A5.out).mono ?_); rintro e w13 ⟨rfl, hb⟩; replace HB := hS_ HB hb; replace aa := bB_ aa hb; (try clear hb); obtain ⟨aL, aM, aN, aO, aP, aQ, aR, bG, bH, bI, bJ, bK, bL, bM⟩ := cz7_ (w := w13) aa) | (go_at_call 20; (with_reducible refine (lodgerref09_May.calls k ab ac _ _ ad ae af ag ah _ _ l1 al _ ?side1 ?side2 ?side3 ?side4 A8.out).mono ?_); (case side1 => exact cC_ an HB); (case side2 => exact am.out); (case side3 => exact cC_ cn HB); (case side4 => exact cm.out); rintro e w15 ⟨rfl, hb⟩; replace HB := hS_ HB hb; replace aa := bB_ aa hb; (try clear hb)))
    go_ret
    exact ⟨er_, hB_ HB⟩
   ·rw [if_neg c7] at H
    have av : decide ((l1.length : Int) ≤ 300) = false := decide_eq_false c7
    have aw : decide (l1.length ≤ 300) = false := decide_eq_false (by omega)
    clear c7
    obtain rfl := Option.some.inj H
    go_enter Tryd.func10, Tryd.ntmps10
    go_wp2_with (first | ((with_reducible refine gate_dst (N := 2) rfl ?_); (try (refine gate_guard (by rfl) ?_; dsimp only)); refine bx_ (N := 2) (cs := #[.int .u32 ab, .int .i64 ac, .slice aj ad.length ak, .int .i64 ae, .int .i64 af, .int .i64 ag, .int .i64 ah]) (t := 27) ?_; intro aq hg w16 aa hb; have ap := gG_ hg HB; have ao := gG_ hg HB; replace HB := hS_ HB hb; clear hb hg; obtain ⟨aS, aT, aU, aV, aW, aX, aY, bN, bO, bP, bQ, bR, bS, bT⟩ := cz7_ (w := w16) aa) | ((with_reducible refine gate_callee (f := 29) rfl ?_); refine gL_ (some 6) Tryd.func29 #[.agg #[.int .u32 ab, .int .i64 ac, .slice aj ad.length ak, .int .i64 ae, .int .i64 af, .int .i64 ag, .int .i64 ah]] ?_; (with_reducible refine (lodgerref05_May.calls k ab ac _ _ ad ae af ag ah true _ ?side1 ?side2 A3.out).mono ?_); (case side1 => exact cC_ an HB); (case side2 => exact am.out); rintro e w18 ⟨rfl, hb⟩; refine ⟨_, rfl, ?_⟩; replace HB := hS_ HB hb; replace aa := bB_ aa hb; (try clear hb); obtain ⟨aZ, a0, a1, a2, a3, a4, a5, bU, bV, bW, bX, bY, bZ, b0⟩ := cz7_ (w := w18) aa) | (go_at_call 30; (with_reducible refine (lodgerref05_Many.calls k ab ac ai _ A5.out).mono ?_); rintro e w20 ⟨rfl, hb⟩; replace HB := hS_ HB hb; replace aa := bB_ aa hb; (try clear hb)))
    go_ret
    exact ⟨er_, hB_ HB⟩
  ·rw [if_neg c6] at H
   have au : decide (ai ≤ 256) = false := decide_eq_false c6
   clear c6
   obtain rfl := Option.some.inj H
   go_enter Tryd.func10, Tryd.ntmps10
   go_wp2_with (first | ((with_reducible refine gate_dst (N := 2) rfl ?_); (try (refine gate_guard (by rfl) ?_; dsimp only)); refine bx_ (N := 2) (cs := #[.int .u32 ab, .int .i64 ac, .slice aj ad.length ak, .int .i64 ae, .int .i64 af, .int .i64 ag, .int .i64 ah]) (t := 27) ?_; intro aq hg w21 aa hb; have ap := gG_ hg HB; have ao := gG_ hg HB; replace HB := hS_ HB hb; clear hb hg; obtain ⟨a6, a7, a8, a9, ba, bb, bc, b1, b2, b3, b4, b5, b6, b7⟩ := cz7_ (w := w21) aa) | ((with_reducible refine gate_callee (f := 29) rfl ?_); refine gL_ (some 6) Tryd.func29 #[.agg #[.int .u32 ab, .int .i64 ac, .slice aj ad.length ak, .int .i64 ae, .int .i64 af, .int .i64 ag, .int .i64 ah]] ?_; (with_reducible refine (lodgerref05_May.calls k ab ac _ _ ad ae af ag ah true _ ?side1 ?side2 A3.out).mono ?_); (case side1 => exact cC_ an HB); (case side2 => exact am.out); rintro e w23 ⟨rfl, hb⟩; refine ⟨_, rfl, ?_⟩; replace HB := hS_ HB hb; replace aa := bB_ aa hb; (try clear hb); obtain ⟨bd, be, bf, bg, bh, bi, bj, b8, b9, ca, cb, cc, cd, ce⟩ := cz7_ (w := w23) aa) | (go_at_call 30; (with_reducible refine (lodgerref05_Many.calls k ab ac ai _ A5.out).mono ?_); rintro e w25 ⟨rfl, hb⟩; replace HB := hS_ HB hb; replace aa := bB_ aa hb; (try clear hb)))
   go_ret
   exact ⟨er_, hB_ HB⟩
 ·replace c4 := Bool.eq_false_iff.mpr c4
  subst c4
  have H1 : (some false) = some r := by rw [if_neg (show ¬ (false = true) by decide)] at H; exact H
  clear H; have H := H1; clear H1
  obtain rfl := Option.some.inj H
  go_enter Tryd.func10, Tryd.ntmps10
  go_wp2_with (first | ((with_reducible refine gate_dst (N := 2) rfl ?_); (try (refine gate_guard (by rfl) ?_; dsimp only)); refine bx_ (N := 2) (cs := #[.int .u32 ab, .int .i64 ac, .slice aj ad.length ak, .int .i64 ae, .int .i64 af, .int .i64 ag, .int .i64 ah]) (t := 27) ?_; intro aq hg w26 aa hb; have ap := gG_ hg HB; have ao := gG_ hg HB; replace HB := hS_ HB hb; clear hb hg; obtain ⟨bk, bl, bm, bn, bo, bp, bq, cf, cg, ch, ci, cj, ck, cl⟩ := cz7_ (w := w26) aa) | ((with_reducible refine gate_callee (f := 29) rfl ?_); refine gL_ (some 6) Tryd.func29 #[.agg #[.int .u32 ab, .int .i64 ac, .slice aj ad.length ak, .int .i64 ae, .int .i64 af, .int .i64 ag, .int .i64 ah]] ?_; (with_reducible refine (lodgerref05_May.calls k ab ac _ _ ad ae af ag ah false _ ?side1 ?side2 A3.out).mono ?_); (case side1 => exact cC_ an HB); (case side2 => exact am.out); rintro e w28 ⟨rfl, hb⟩; refine ⟨_, rfl, ?_⟩; replace HB := hS_ HB hb; (try clear hb)))
  go_ret
  exact ⟨er_, hB_ HB⟩

/-! ### lodgerref05_Offset: function 37 -/
def lodgerref05_Offset.f (k : Nat) (a0_0 a0_1 a1 : Int) : Option (Int × Int) := if a1 < a0_0 then (some (0, 3)) else ((lodgerref05_Many.f k a0_0 a0_1).bind fun t517 => (if ((a1 - a0_0) % 4294967296) ≥ t517 then (some (0, 3)) else (some ((a1 - a0_0) % 4294967296, 0))))
theorem lodgerref05_Offset.mono : ∀ a0 a1 a2 k, LeO (lodgerref05_Offset.f k a0 a1 a2) (lodgerref05_Offset.f (k + 1) a0 a1 a2) := by
 intro a0 a1 a2 k
 unfold lodgerref05_Offset.f
 repeat' (with_reducible first | apply lodgerref05_Many.mono | exact LeO.refl _ | exact LeO.none _ | refine LeO.ite ?_ ?_ | refine LeO.bind ?_ (fun _ => ?_))
def lodgerref05_Offset.T1 : Bool × List (List Nat × List Nat) := (true, [([], []), ([], []), ([1], [1]), ([0, 2], [0, 2]), ([3], [3]), ([4], [4]), ([4], [4]), ([6, 4], [4, 6]), ([5, 7, 4], [4, 5, 7]), ([8, 4], [4, 8]), ([4], [4]), ([10, 4, 4], [4, 10]), ([9, 11, 4], [4, 9, 11]), ([4, 12], [4, 12])])
def lodgerref05_Offset.B1 : List Nat := [0, 0, 2, 7, 15, 31, 31, 95, 255, 511, 31, 1055, 4095, 8191]
theorem lodgerref05_Offset.tab1 : rtab .any (opsOf Tryd.f37 1) = lodgerref05_Offset.T1 := by kernel_rfl
theorem lodgerref05_Offset.bits1 : waitsOk lodgerref05_Offset.T1.2 lodgerref05_Offset.B1 = true := by kernel_rfl
set_option maxHeartbeats 8000000 in
set_option maxRecDepth 100000 in
theorem lodgerref05_Offset.calls (k : Nat) (ab ac : Int) (a1 r1 r2 : Int) (w : World) (h : lodgerref05_Offset.f k ab ac a1 = some (r1, r2)) :
  Calls Tryd.prog 37 #[.agg #[.int .u32 ab, .int .i64 ac], .int .u32 a1] w fun e w' => e = .returned (.tuple #[.int .i64 r1, .int .i64 r2]) ∧ Below w.heap.size w w' := by
 have hu24 := Tryd.underlying24
 have HB := Aside0.mk (Below.refl w.heap.size w)
 have E1_ : wrap64 (IntKind.u32.wrap (a1 - ab)) = (a1 - ab) % 4294967296 := by rw [IntKind.wrap_u32]; unfold wrap64; omega
 have H : (if a1 < ab then (some (0, 3)) else ((lodgerref05_Many.f k ab ac).bind fun ae => (if ((a1 - ab) % 4294967296) ≥ ae then (some (0, 3)) else (some ((a1 - ab) % 4294967296, 0))))) = some (r1, r2) := h
 clear h
 by_cases c3 : a1 < ab
 ·rw [if_pos c3] at H
  have ah : decide (a1 < ab) = true := decide_eq_true c3
  clear c3; simp only [Option.some.injEq, Prod.mk.injEq] at H; obtain ⟨rfl, rfl⟩ := H
  go_enter Tryd.func37, Tryd.ntmps37
  try go_wp2_with (first | ((with_reducible refine gate_dst (N := 2) rfl ?_); refine bx_ (N := 2) (cs := #[.int .u32 ab, .int .i64 ac]) (t := 24) ?_; intro ad hg w4 aa hb; have ag := gG_ hg HB; have af := gG_ hg HB; replace HB := hS_ HB hb; clear hb hg))
  replace aa := Aside0.mk (blk_drew aa.out); replace HB := Aside0.mk (below_drew1 HB.out)
  refine start_ (n := 14) (S := fun w' => w'.cell? ⟨ad, 0, none⟩ = some (.int .u32 ab) ∧ w'.cell? ⟨ad, 1, none⟩ = some (.int .i64 ac)) (ds := []) (tf 14 0) (by kernel_rfl) rfl rfl ⟨(blk_cell aa.out 0).trans rfl, (blk_cell aa.out 1).trans rfl⟩ (fun hHeld => ?_); refine with_tabW lodgerref05_Offset.tab1 lodgerref05_Offset.bits1 (fun HT_ HW_ => ?_)
  generalize w4.drew = w5 at aa HB hHeld ⊢
  refine pu_ (i := 0) (N := some 6) (tf 14 1) HT_ ?_; refine pu_ (i := 1) (N := some 7) (tf 14 3) HT_ ?_; refine tk_ (i := 2) (N := some 8) (tf 14 7) rfl rfl HT_ HW_ hHeld (by rintro w' ⟨s0, s1⟩; go_simp; with_reducible rfl) ?_; refine pu_ (i := 3) (N := some 9) (tf 14 15) HT_ ?_; refine pu_ (i := 4) (N := some 10) (tf 14 31) HT_ ?_; refine pn_ (i := 5) (N := some 11) (tf 14 63) HT_ ?_; refine pn_ (i := 6) (N := some 12) (tf 14 127) HT_ ?_; refine pn_ (i := 7) (N := some 13) (tf 14 255) HT_ ?_; refine pn_ (i := 8) (N := some 14) (tf 14 511) HT_ ?_; refine pn_ (i := 9) (N := some 15) (tf 14 1023) HT_ ?_; refine pn_ (i := 10) (N := some 16) (tf 14 2047) HT_ ?_; refine pn_ (i := 11) (N := some 17) (tf 14 4095) HT_ ?_; refine pn_ (i := 12) (N := some 18) (tf 14 8191) HT_ ?_; refine pu_ (i := 13) (N := some 19) (tf 14 16383) HT_ ?_
  refine done_ (done_of HT_.out (by kernel_rfl)) ?_
  try go_wp2
  go_ret2
  exact ⟨er_, hB_ HB⟩
 ·rw [if_neg c3] at H
  have ah : decide (a1 < ab) = false := decide_eq_false c3
  clear c3; replace H := bi_ H; obtain ⟨ae, A60, H⟩ := H
  replace H : (if ((a1 - ab) % 4294967296) ≥ ae then (some (0, 3)) else (some ((a1 - ab) % 4294967296, 0))) = some (r1, r2) := H
  have A6 := Aside0.mk A60; clear A60
  by_cases c7 : ((a1 - ab) % 4294967296) ≥ ae
  ·rw [if_pos c7] at H
   have ai : decide (ae ≤ ((a1 - ab) % 4294967296)) = true := decide_eq_true c7
   clear c7; simp only [Option.some.injEq, Prod.mk.injEq] at H; obtain ⟨rfl, rfl⟩ := H
   go_enter Tryd.func37, Tryd.ntmps37
   try go_wp2_with (first | ((with_reducible refine gate_dst (N := 2) rfl ?_); refine bx_ (N := 2) (cs := #[.int .u32 ab, .int .i64 ac]) (t := 24) ?_; intro ad hg w8 aa hb; have ag := gG_ hg HB; have af := gG_ hg HB; replace HB := hS_ HB hb; clear hb hg))
   replace aa := Aside0.mk (blk_drew aa.out); replace HB := Aside0.mk (below_drew1 HB.out)
   refine start_ (n := 14) (S := fun w' => w'.cell? ⟨ad, 0, none⟩ = some (.int .u32 ab) ∧ w'.cell? ⟨ad, 1, none⟩ = some (.int .i64 ac)) (ds := []) (tf 14 0) (by kernel_rfl) rfl rfl ⟨(blk_cell aa.out 0).trans rfl, (blk_cell aa.out 1).trans rfl⟩ (fun hHeld => ?_); refine with_tabW lodgerref05_Offset.tab1 lodgerref05_Offset.bits1 (fun HT_ HW_ => ?_)
   generalize w8.drew = w9 at aa HB hHeld ⊢
   refine pu_ (i := 0) (N := some 6) (tf 14 1) HT_ ?_; refine pu_ (i := 1) (N := some 7) (tf 14 3) HT_ ?_; refine tk_ (i := 2) (N := some 8) (tf 14 7) rfl rfl HT_ HW_ hHeld (by rintro w' ⟨s0, s1⟩; go_simp; with_reducible rfl) ?_; refine pu_ (i := 3) (N := some 9) (tf 14 15) HT_ ?_; refine pu_ (i := 4) (N := some 10) (tf 14 31) HT_ ?_; refine pu_ (i := 5) (N := some 11) (tf 14 63) HT_ ?_; refine pu_ (i := 6) (N := some 12) (tf 14 127) HT_ ?_; refine tk_ (i := 7) (N := some 13) (tf 14 255) rfl rfl HT_ HW_ hHeld (by rintro w' ⟨s0, s1⟩; go_simp; with_reducible rfl) ?_; refine pu_ (i := 8) (N := some 14) (tf 14 511) HT_ ?_; refine pu_ (i := 9) (N := some 15) (tf 14 1023) HT_ ?_; refine tk_ (i := 10) (N := some 16) (tf 14 2047) rfl rfl HT_ HW_ hHeld (by rintro w' ⟨s0, s1⟩; go_simp; with_reducible rfl) ?_
   refine on_ (i := 11) (N := some 17) (tf 14 4095) HT_ (fun K hK => ?_)
   refine goes_ Tryd.func30 (by kernel_rfl) rfl #[.agg #[.int .u32 ab, .int .i64 ac]] (by rfl) rfl rfl am_ ?_
   with_reducible refine (lodgerref05_Many.calls k ab ac ae _ A6.out).mono ?_
   rintro e w10 ⟨rfl, hb⟩
   refine ⟨_, rfl, ?_⟩
   replace aa := bB_ aa hb; replace HB := hS_ HB hb
   (try clear hb)
   (try clear hb2)
   (try clear hk)
   (try clear hi)
   refine hK.out _ _ (cl2_ aa) (fun hHeld => ?_)
   clear hK K
   refine norm_ (a' := ?_) ?_ ?_
   rotate_left
   ·show Act.put _ (some 17) _ = _
    simp only [Act.put, List.setIfInBounds_toArray, List.set_cons_zero, List.set_cons_succ, i64_w, i32_w]
    rfl
   refine pu_ (i := 12) (N := some 18) (tf 14 8191) HT_ ?_; refine pu_ (i := 13) (N := some 19) (tf 14 16383) HT_ ?_
   refine done_ (done_of HT_.out (by kernel_rfl)) ?_
   try go_wp2
   go_ret2
   exact ⟨er_, hB_ HB⟩
  ·rw [if_neg c7] at H
   have ai : decide (ae ≤ ((a1 - ab) % 4294967296)) = false := decide_eq_false c7
   clear c7; simp only [Option.some.injEq, Prod.mk.injEq] at H; obtain ⟨rfl, rfl⟩ := H
   go_enter Tryd.func37, Tryd.ntmps37
   try go_wp2_with (first | ((with_reducible refine gate_dst (N := 2) rfl ?_); refine bx_ (N := 2) (cs := #[.int .u32 ab, .int .i64 ac]) (t := 24) ?_; intro ad hg w11 aa hb; have ag := gG_ hg HB; have af := gG_ hg HB; replace HB := hS_ HB hb; clear hb hg))
   replace aa := Aside0.mk (blk_drew aa.out); replace HB := Aside0.mk (below_drew1 HB.out)
   refine start_ (n := 14) (S := fun w' => w'.cell? ⟨ad, 0, none⟩ = some (.int .u32 ab) ∧ w'.cell? ⟨ad, 1, none⟩ = some (.int .i64 ac)) (ds := []) (tf 14 0) (by kernel_rfl) rfl rfl ⟨(blk_cell aa.out 0).trans rfl, (blk_cell aa.out 1).trans rfl⟩ (fun hHeld => ?_); refine with_tabW lodgerref05_Offset.tab1 lodgerref05_Offset.bits1 (fun HT_ HW_ => ?_)
   generalize w11.drew = w12 at aa HB hHeld ⊢
   refine pu_ (i := 0) (N := some 6) (tf 14 1) HT_ ?_; refine pu_ (i := 1) (N := some 7) (tf 14 3) HT_ ?_; refine tk_ (i := 2) (N := some 8) (tf 14 7) rfl rfl HT_ HW_ hHeld (by rintro w' ⟨s0, s1⟩; go_simp; with_reducible rfl) ?_; refine pu_ (i := 3) (N := some 9) (tf 14 15) HT_ ?_; refine pu_ (i := 4) (N := some 10) (tf 14 31) HT_ ?_; refine pu_ (i := 5) (N := some 11) (tf 14 63) HT_ ?_; refine pu_ (i := 6) (N := some 12) (tf 14 127) HT_ ?_; refine tk_ (i := 7) (N := some 13) (tf 14 255) rfl rfl HT_ HW_ hHeld (by rintro w' ⟨s0, s1⟩; go_simp; with_reducible rfl) ?_; refine pu_ (i := 8) (N := some 14) (tf 14 511) HT_ ?_; refine pu_ (i := 9) (N := some 15) (tf 14 1023) HT_ ?_; refine tk_ (i := 10) (N := some 16) (tf 14 2047) rfl rfl HT_ HW_ hHeld (by rintro w' ⟨s0, s1⟩; go_simp; with_reducible rfl) ?_
   refine on_ (i := 11) (N := some 17) (tf 14 4095) HT_ (fun K hK => ?_)
   refine goes_ Tryd.func30 (by kernel_rfl) rfl #[.agg #[.int .u32 ab, .int .i64 ac]] (by rfl) rfl rfl am_ ?_
   with_reducible refine (lodgerref05_Many.calls k ab ac ae _ A6.out).mono ?_
   rintro e w13 ⟨rfl, hb⟩
   refine ⟨_, rfl, ?_⟩
   replace aa := bB_ aa hb; replace HB := hS_ HB hb
   (try clear hb)
   (try clear hb2)
   (try clear hk)
   (try clear hi)
   refine hK.out _ _ (cl2_ aa) (fun hHeld => ?_)
   clear hK K
   refine norm_ (a' := ?_) ?_ ?_
   rotate_left
   ·show Act.put _ (some 17) _ = _
    simp only [Act.put, List.setIfInBounds_toArray, List.set_cons_zero, List.set_cons_succ, i64_w, i32_w]
    rfl
   refine pu_ (i := 12) (N := some 18) (tf 14 8191) HT_ ?_; refine pu_ (i := 13) (N := some 19) (tf 14 16383) HT_ ?_
   refine done_ (done_of HT_.out (by kernel_rfl)) ?_
   obtain ⟨aj, ak, al, am⟩ := cz2_ (w := w13) aa
   try go_wp2
   go_ret2
   exact ⟨er_, hB_ HB⟩

/-! ### lodgerref05_Find: function 24 -/
def lodgerref05_Find.f (k : Nat) (a0_0 a0_1 : Int) (l0_2 : List Int) (a0_3 a0_4 : Int) (a0_5 a0_6 a1 : Int) : Option (Int × Int) := (lodgerref05_Offset.f k a0_0 a0_1 a1).bind fun bt519 => (if bt519.2 = 0 then ((lodgerref05_Held.f k a0_0 a0_1 l0_2 a0_3 a0_4 a0_5 a0_6 bt519.1).bind fun t521 => (if t521 = true then (some (0, 4)) else (some (bt519.1, 0)))) else (some (0, 3)))
theorem lodgerref05_Find.mono : ∀ a0 a1 a2 a3 a4 a5 a6 a7 k, LeO (lodgerref05_Find.f k a0 a1 a2 a3 a4 a5 a6 a7) (lodgerref05_Find.f (k + 1) a0 a1 a2 a3 a4 a5 a6 a7) := by
 intro a0 a1 a2 a3 a4 a5 a6 a7 k
 unfold lodgerref05_Find.f
 repeat' (with_reducible first | apply lodgerref05_Held.mono | apply lodgerref05_Offset.mono | exact LeO.refl _ | exact LeO.none _ | refine LeO.ite ?_ ?_ | refine LeO.bind ?_ (fun _ => ?_))
set_option maxHeartbeats 8000000 in
set_option maxRecDepth 100000 in
theorem lodgerref05_Find.calls (k : Nat) (ab ac : Int) (ak : Option Addr) (al : Nat) (ad : List Int) (ae af : Int) (ag ah : Int) (a1 r1 r2 : Int) (w : World) (hr0_2 : Kd.C (Kd.int .i64) w ak ad.length ad) (hc0_2 : ad.length ≤ al) (h : lodgerref05_Find.f k ab ac ad ae af ag ah a1 = some (r1, r2)) :
  Calls Tryd.prog 24 #[.agg #[.int .u32 ab, .int .i64 ac, .slice ak ad.length al, .int .i64 ae, .int .i64 af, .int .i64 ag, .int .i64 ah], .int .u32 a1] w fun e w' => e = .returned (.tuple #[.int .i64 r1, .int .i64 r2]) ∧ Below w.heap.size w w' := by
 have hu27 := Tryd.underlying27
 have hu24 := Tryd.underlying24
 have aq := Aside0.mk hr0_2
 have ap := Aside0.mk hc0_2
 clear hr0_2 hc0_2
 have HB := Aside0.mk (Below.refl w.heap.size w)
 have H : ((lodgerref05_Offset.f k ab ac a1).bind fun bt519 => (if bt519.2 = 0 then ((lodgerref05_Held.f k ab ac ad ae af ag ah bt519.1).bind fun am => (if am = true then (some (0, 4)) else (some (bt519.1, 0)))) else (some (0, 3)))) = some (r1, r2) := h
 clear h
 replace H := bi_ H
 obtain ⟨⟨ai, aj⟩, A30, H⟩ := H
 replace H : (if aj = 0 then ((lodgerref05_Held.f k ab ac ad ae af ag ah ai).bind fun am => (if am = true then (some (0, 4)) else (some (ai, 0)))) else (some (0, 3))) = some (r1, r2) := H
 have A3 := Aside0.mk A30
 clear A30
 by_cases c4 : aj = 0
 ·rw [if_pos c4] at H
  have au : (aj == 0) = true := beq_iff_eq.mpr c4
  have av : (aj != 0) = false := bne_eq_false_iff_eq.mpr c4
  clear c4; replace H := bi_ H; obtain ⟨am, A50, H⟩ := H
  replace H : (if am = true then (some (0, 4)) else (some (ai, 0))) = some (r1, r2) := H
  have A5 := Aside0.mk A50; clear A50
  by_cases c6 : am = true
  ·subst c6
   have H1 : (some (0, 4)) = some (r1, r2) := by rw [if_pos rfl] at H; exact H
   clear H; have H := H1; clear H1; simp only [Option.some.injEq, Prod.mk.injEq] at H; obtain ⟨rfl, rfl⟩ := H
   go_enter Tryd.func24, Tryd.ntmps24
   go_wp2_with (first | ((with_reducible refine gate_dst (N := 2) rfl ?_); refine bx_ (N := 2) (cs := #[.int .u32 ab, .int .i64 ac, .slice ak ad.length al, .int .i64 ae, .int .i64 af, .int .i64 ag, .int .i64 ah]) (t := 27) ?_; intro ar hg w7 aa hb; have ao := gG_ hg HB; have an := gG_ hg HB; replace HB := hS_ HB hb; clear hb hg; obtain ⟨br, bs, bt, bu, bv, bw, bx, bz, bA, bB, bC, bD, bE, bF⟩ := cz7_ (w := w7) aa) | ((with_reducible refine gate_callee (f := 37) rfl ?_); refine gL_ (some 12) Tryd.func37 #[.agg #[.int .u32 ab, .int .i64 ac], .int .u32 a1] ?_; (with_reducible refine (lodgerref05_Offset.calls k ab ac a1 ai aj _ A3.out).mono ?_); rintro e w9 ⟨rfl, hb⟩; refine ⟨_, rfl, ?_⟩; replace HB := hS_ HB hb; replace aa := bB_ aa hb; (try clear hb); obtain ⟨aw, ax, ay, az, aA, aB, aC, aY, aZ, a0, a2, a3, a4, a5⟩ := cz7_ (w := w9) aa) | ((with_reducible refine gate_callee (f := 22) rfl ?_); refine gL_ (some 19) Tryd.func22 #[.agg #[.int .u32 ab, .int .i64 ac, .slice ak ad.length al, .int .i64 ae, .int .i64 af, .int .i64 ag, .int .i64 ah], .int .i64 ai] ?_; (with_reducible refine (lodgerref05_Held.calls k ab ac _ _ ad ae af ag ah ai true _ ?side1 ?side2 A5.out).mono ?_); (case side1 => exact cC_ aq HB); (case side2 => exact ap.out); rintro e w11 ⟨rfl, hb⟩; refine ⟨_, rfl, ?_⟩; replace HB := hS_ HB hb; replace aa := bB_ aa hb; (try clear hb)))
   go_ret2
   exact ⟨er_, hB_ HB⟩
  ·replace c6 := Bool.eq_false_iff.mpr c6
   subst c6
   have H1 : (some (ai, 0)) = some (r1, r2) := by rw [if_neg (show ¬ (false = true) by decide)] at H; exact H
   clear H; have H := H1; clear H1; simp only [Option.some.injEq, Prod.mk.injEq] at H; obtain ⟨rfl, rfl⟩ := H
   go_enter Tryd.func24, Tryd.ntmps24
   go_wp2_with (first | ((with_reducible refine gate_dst (N := 2) rfl ?_); refine bx_ (N := 2) (cs := #[.int .u32 ab, .int .i64 ac, .slice ak ad.length al, .int .i64 ae, .int .i64 af, .int .i64 ag, .int .i64 ah]) (t := 27) ?_; intro ar hg w12 aa hb; have ao := gG_ hg HB; have an := gG_ hg HB; replace HB := hS_ HB hb; clear hb hg; obtain ⟨aD, aE, aF, aG, aH, aI, aJ, a6, a7, a8, a9, ba, bb, bc⟩ := cz7_ (w := w12) aa) | ((with_reducible refine gate_callee (f := 37) rfl ?_); refine gL_ (some 12) Tryd.func37 #[.agg #[.int .u32 ab, .int .i64 ac], .int .u32 a1] ?_; (with_reducible refine (lodgerref05_Offset.calls k ab ac a1 ai aj _ A3.out).mono ?_); rintro e w14 ⟨rfl, hb⟩; refine ⟨_, rfl, ?_⟩; replace HB := hS_ HB hb; replace aa := bB_ aa hb; (try clear hb); obtain ⟨aK, aL, aM, aN, aO, aP, aQ, bd, be, bf, bg, bh, bi, bj⟩ := cz7_ (w := w14) aa) | ((with_reducible refine gate_callee (f := 22) rfl ?_); refine gL_ (some 19) Tryd.func22 #[.agg #[.int .u32 ab, .int .i64 ac, .slice ak ad.length al, .int .i64 ae, .int .i64 af, .int .i64 ag, .int .i64 ah], .int .i64 ai] ?_; (with_reducible refine (lodgerref05_Held.calls k ab ac _ _ ad ae af ag ah ai false _ ?side1 ?side2 A5.out).mono ?_); (case side1 => exact cC_ aq HB); (case side2 => exact ap.out); rintro e w16 ⟨rfl, hb⟩; refine ⟨_, rfl, ?_⟩; replace HB := hS_ HB hb; replace aa := bB_ aa hb; (try clear hb)))
   go_ret2
   exact ⟨er_, hB_ HB⟩
 ·rw [if_neg c4] at H
  have au : (aj == 0) = false := beq_eq_false_iff_ne.mpr c4
  have av : (aj != 0) = true := bne_iff_ne.mpr c4
  simp only [Option.some.injEq, Prod.mk.injEq] at H; obtain ⟨rfl, rfl⟩ := H
  go_enter Tryd.func24, Tryd.ntmps24
  go_wp2_with (first | ((with_reducible refine gate_dst (N := 2) rfl ?_); refine bx_ (N := 2) (cs := #[.int .u32 ab, .int .i64 ac, .slice ak ad.length al, .int .i64 ae, .int .i64 af, .int .i64 ag, .int .i64 ah]) (t := 27) ?_; intro ar hg w17 aa hb; have ao := gG_ hg HB; have an := gG_ hg HB; replace HB := hS_ HB hb; clear hb hg; obtain ⟨aR, aS, aT, aU, aV, aW, aX, bk, bl, bm, bn, bo, bp, bq⟩ := cz7_ (w := w17) aa) | ((with_reducible refine gate_callee (f := 37) rfl ?_); refine gL_ (some 12) Tryd.func37 #[.agg #[.int .u32 ab, .int .i64 ac], .int .u32 a1] ?_; (with_reducible refine (lodgerref05_Offset.calls k ab ac a1 ai aj _ A3.out).mono ?_); rintro e w19 ⟨rfl, hb⟩; refine ⟨_, rfl, ?_⟩; replace HB := hS_ HB hb; (try clear hb)))
  go_ret2
  exact ⟨er_, hB_ HB⟩

/-! ### lodgerref10_Names: function 43 -/
def lodgerref10_Names.j0 : Nat → Bool → Int → Int → List Int → Option (List Int)
 | 0, _, _, _, _ => none
 | k + 1, x15, x523000, x523001, x523002 => if x15 = true then (some (([x523001] : List Int))) else (if x523000 = 4 then ((some (([] : List Int) : List Int)).bind fun y526 => (if y526.length + x523002.length < 35184372088832 then (some (y526 ++ x523002)) else (none))) else (some ([] : List Int)))
def lodgerref10_Names.f (k : Nat) (a0_0 a0_1 : Int) (l0_2 : List Int) : Option (List Int) := if a0_0 = 2 then (lodgerref10_Names.j0 k true a0_0 a0_1 l0_2) else (if a0_0 = 3 then (lodgerref10_Names.j0 k true a0_0 a0_1 l0_2) else (lodgerref10_Names.j0 k (a0_0 == 5) a0_0 a0_1 l0_2))
theorem lodgerref10_Names.mono_l : ∀ k, (∀ y0 y1 y2 y3, LeO (lodgerref10_Names.j0 k y0 y1 y2 y3) (lodgerref10_Names.j0 (k + 1) y0 y1 y2 y3))
 | 0 => fun _ _ _ _ r h => by simp [lodgerref10_Names.j0] at h
 | k + 1 => by
  have ih0 := lodgerref10_Names.mono_l k
  ·intro y0 y1 y2 y3
   unfold lodgerref10_Names.j0
   repeat' (with_reducible first | apply ih0 | exact LeO.refl _ | exact LeO.none _ | refine LeO.ite ?_ ?_ | refine LeO.bind ?_ (fun _ => ?_))
theorem lodgerref10_Names.mono : ∀ a0 a1 a2 k, LeO (lodgerref10_Names.f k a0 a1 a2) (lodgerref10_Names.f (k + 1) a0 a1 a2) := by
 intro a0 a1 a2 k
 have ih0 := lodgerref10_Names.mono_l k
 unfold lodgerref10_Names.f
 repeat' (with_reducible first | apply ih0 | exact LeO.refl _ | exact LeO.none _ | refine LeO.ite ?_ ?_ | refine LeO.bind ?_ (fun _ => ?_))
set_option maxHeartbeats 8000000 in
set_option maxRecDepth 100000 in
theorem lodgerref10_Names.calls (k : Nat) (aa ad : Int) (ah : Option Addr) (ai : Nat) (ac r : List Int) (w : World) (hr0_2 : Kd.C (Kd.int .u32) w ah ac.length ac) (hc0_2 : ac.length ≤ ai) (h : lodgerref10_Names.f k aa ad ac = some r) :
  Calls Tryd.prog 43 #[.agg #[.int .i64 aa, .int .u32 ad, .slice ah ac.length ai]] w fun e w' => ∃ v0_ : Value, e = .returned (v0_) ∧ Kd.R (Kd.int .u32) 22 w' w.heap.size (fun _ => True) v0_ r ∧ Below w.heap.size w w' := by
 have hu30 := Tryd.underlying30
 have aP := Aside0.mk hr0_2
 have bm := Aside0.mk hc0_2
 clear hr0_2 hc0_2
 have HB := Aside0.mk (Below.refl w.heap.size w)
 have H : (if aa = 2 then (lodgerref10_Names.j0 k true aa ad ac) else (if aa = 3 then (lodgerref10_Names.j0 k true aa ad ac) else (lodgerref10_Names.j0 k (aa == 5) aa ad ac))) = some r := h
 clear h
 have al := Aside0.mk H
 clear H
 go_enter Tryd.func43, Tryd.ntmps43
 go_upto_region 1 with (first | ((with_reducible refine gate_dst (N := 1) rfl ?_); refine bx_ (N := 1) (cs := #[.int .i64 aa, .int .u32 ad, .slice ah ac.length ai]) (t := 30) ?_; intro ak hg w3 ab hb; have bl := gG_ hg HB; have bk := gG_ hg HB; replace HB := hS_ HB hb; clear hb hg))
 (try simp only [Act.put, List.setIfInBounds_toArray, List.set_cons_zero, List.set_cons_succ])
 go_cut [15] (fun v15 wc => ∃ (kq : Nat) (ag : Bool), v15 = .bool ag ∧ Aside0 (lodgerref10_Names.j0 kq ag aa ad ac = some r) ∧ Aside0 (kq ≤ k) ∧ Aside0 (wc.heap[ak]? = some (.cells #[.int .i64 aa, .int .u32 ad, (.slice ah ac.length ai)] 30 (0, 0))) ∧ Aside0 (Below w.heap.size w wc))
 case first =>
  have H := al.out; clear al
  by_cases c4 : aa = 2
  ·rw [if_pos c4] at H
   have af : (aa == 2) = true := beq_iff_eq.mpr c4
   have am : (aa != 2) = false := bne_eq_false_iff_eq.mpr c4
   clear c4
   (first | rw [af] | (simp only [i64_w, i32_w]; rw [af]) | skip)
   have H' := Aside0.mk H
   clear H; obtain ⟨ap, aq, ar, aA, aC, aD⟩ := cz3_ (w := w3) ab
   go_wp2
   go_meet
   case rel => exact ⟨_, (true), rs_, H', ⟨by first | omega | exact Nat.le_refl _⟩, ⟨bk_ ab⟩, ⟨hB_ HB⟩⟩
  ·rw [if_neg c4] at H
   have af : (aa == 2) = false := beq_eq_false_iff_ne.mpr c4
   have am : (aa != 2) = true := bne_iff_ne.mpr c4
   (first | rw [af] | (simp only [i64_w, i32_w]; rw [af]) | skip)
   by_cases c6 : aa = 3
   ·rw [if_pos c6] at H
    have an : (aa == 3) = true := beq_iff_eq.mpr c6
    have ao : (aa != 3) = false := bne_eq_false_iff_eq.mpr c6
    clear c6
    have H' := Aside0.mk H
    clear H; obtain ⟨au, av, aw, aE, aG, aH⟩ := cz3_ (w := w3) ab
    go_wp2
    go_meet
    case rel => exact ⟨_, (true), rs_, H', ⟨by first | omega | exact Nat.le_refl _⟩, ⟨bk_ ab⟩, ⟨hB_ HB⟩⟩
   ·rw [if_neg c6] at H
    have an : (aa == 3) = false := beq_eq_false_iff_ne.mpr c6
    have ao : (aa != 3) = true := bne_iff_ne.mpr c6
    have H' := Aside0.mk H
    clear H; obtain ⟨ax, ay, az, aI, aJ, aK⟩ := cz3_ (w := w3) ab
    go_wp2
    go_meet
    case rel => exact ⟨_, ((aa == 5)), rs_, H', ⟨by first | omega | exact Nat.le_refl _⟩, ⟨bk_ ab⟩, ⟨hB_ HB⟩⟩
 case rest =>
  clear al
  try clear p2
  try clear c4
  try clear af
  try clear am
  try clear c6
  try clear an
  try clear ao
  try clear ap aq ar
  try clear au av aw
  try clear ax ay az
  try clear aA aC aD
  try clear aE aG aH
  try clear aI aJ aK
  obtain ⟨kq, ag, rfl, HA, bn, ab, HB⟩ := hcut
  cases kq with
  | zero => exact absurd HA.out (by simp [lodgerref10_Names.j0])
  | succ kj1 =>
   have H := HA.out; clear HA; simp only [lodgerref10_Names.j0] at H
   by_cases c9 : ag = true
   ·subst c9
    have H1 : (some (([ad] : List Int))) = some r := by rw [if_pos rfl] at H; exact H
    clear H; have H := H1; clear H1; obtain ⟨aU, hy523⟩ : ∃ y_ : List Int, y_ = (([ad] : List Int)) := ⟨_, rfl⟩
    replace H : (some aU) = some r := by first | (rw [hy523]; with_reducible exact H) | (have H2_ := (Option.bind_some _ _).symm.trans H; rw [hy523]; with_reducible exact H2_) | (have H2_ := (Option.bind_some _ _).symm.trans H; with_reducible exact H2_) | with_reducible exact H | (rw [hy523]; exact H) | exact H
    have Ny523 := Aside0.mk hy523; clear hy523
    obtain rfl := Option.some.inj H
    obtain ⟨aW, aX, aY, a8, a9, ba⟩ := cz3_ (w := wc) ab
    go_wp2_with (first | ((with_reducible refine gate_dst (N := 18) rfl ?_); refine Kd.R_lit (Kd.int .u32) _ 22 ?hg (N := 18) ?hd (xs := ([ad] : List Int)) (inner := [.int .u32 ad]) (ok := fun _ => True) (okp := fun _ => True) ?hr ?hp (fun _ hk => hk) trivial (Below.refl _ _) (Nat.le_refl _) (by simp) ?_; (case hd => rfl); (case hg => rfl); (case hr => first | (go_simp; done) | (go_simp; rfl)); (case hp => exact (Reps.one (show Kd.M (Kd.int .u32) _ _ _ ad [.int .u32 ad] from rfl) (Reps.none _ _))); intro v524 w11 ho12 hb hg_ hnew_; clear hg_ hnew_; (first | rw [← Ny523.out] at ho12 | (simp only [Int.reduceToNat] at ho12; rw [← Ny523.out] at ho12)); have aM := Aside0.mk (Kd.R_lower ho12 (below_size (hB_ HB))); replace HB := hS_ HB hb; replace ab := bB_ ab hb; clear hb ho12))
    go_ret
    exact ⟨_, er_, rR_ aM, hB_ HB⟩
   ·replace c9 := Bool.eq_false_iff.mpr c9
    subst c9
    have H1 : (if aa = 4 then ((some (([] : List Int) : List Int)).bind fun ae => (if ae.length + ac.length < 35184372088832 then (some (ae ++ ac)) else (none))) else (some ([] : List Int))) = some r := by rw [if_neg (show ¬ (false = true) by decide)] at H; exact H
    clear H; have H := H1; clear H1
    by_cases c13 : aa = 4
    ·rw [if_pos c13] at H
     have aQ : (aa == 4) = true := beq_iff_eq.mpr c13
     have aT : (aa != 4) = false := bne_eq_false_iff_eq.mpr c13
     clear c13; obtain ⟨ae, hy526⟩ : ∃ y_ : List Int, y_ = (([] : List Int)) := ⟨_, rfl⟩
     replace H : (if ae.length + ac.length < 35184372088832 then (some (ae ++ ac)) else (none)) = some r := by first | (rw [hy526]; with_reducible exact H) | (have H2_ := (Option.bind_some _ _).symm.trans H; rw [hy526]; with_reducible exact H2_) | (have H2_ := (Option.bind_some _ _).symm.trans H; with_reducible exact H2_) | with_reducible exact H | (rw [hy526]; exact H) | exact H
     have Ny526 := Aside0.mk hy526; clear hy526
     by_cases c14 : ae.length + ac.length < 35184372088832
     ·rw [if_pos c14] at H
      have LMc14 := Aside0.mk c14; clear c14; obtain ⟨aV, hy529⟩ : ∃ y_ : List Int, y_ = (ae ++ ac) := ⟨_, rfl⟩
      replace H : (some aV) = some r := by first | (rw [hy529]; with_reducible exact H) | (have H2_ := (Option.bind_some _ _).symm.trans H; rw [hy529]; with_reducible exact H2_) | (have H2_ := (Option.bind_some _ _).symm.trans H; with_reducible exact H2_) | with_reducible exact H | (rw [hy529]; exact H) | exact H
      have Ny529 := Aside0.mk hy529; clear hy529
      obtain rfl := Option.some.inj H
      obtain ⟨aZ, a0, a1, bb, bc, bd⟩ := cz3_ (w := wc) ab
      go_wp2_with (first | ((with_reducible refine gate_dst (N := 22) rfl ?_); refine Kd.R_lit (Kd.int .u32) _ 22 ?hg (N := 22) ?hd (xs := ([] : List Int)) (inner := []) (ok := fun _ => True) (okp := fun _ => True) ?hr ?hp (fun _ hk => hk) trivial (Below.refl _ _) (Nat.le_refl _) (by simp) ?_; (case hd => rfl); (case hg => rfl); (case hr => first | (go_simp; done) | (go_simp; rfl)); (case hp => exact (Reps.none _ _)); intro v527 w16 ho17 hb hg_ hnew_; clear hg_ hnew_; (first | rw [← Ny526.out] at ho17 | (simp only [Int.reduceToNat] at ho17; rw [← Ny526.out] at ho17)); have aj := Aside0.mk (Kd.R_lower ho17 (below_size (hB_ HB))); replace HB := hS_ HB hb; replace ab := bB_ ab hb; clear hb ho17; obtain ⟨a2, a3, a4, be, bf, bg⟩ := cz3_ (w := w16) ab) | ((with_reducible refine gate_builtin (b := .append) (xs := #[.tmp 22, .tmp 24]) rfl ?_); at_builtin; refine Kd.R_append_rows (Kd.int .u32) (w0 := w) w.heap.size rfl (.tmp 22) (.tmp 24) 28 22 (.int .u32 0) 4 rfl Tryd.underlying28 info22 rfl (by decide) (by omega) v527 ae ac _ _ _ (fun _ => True) (fun _ => False) rfl rfl ?aO ?aR (fun _ _ h => h) (fun _ h => h.elim) ?aF ?aB ?aS ?aL ?_; (case aR => exact cC_ aP HB); (case aB => exact (hB_ HB)); (case aF => exact (fun _ _ => trivial)); (case aO => exact (rR_ aj)); (case aS => exact (below_size (hB_ HB))); (case aL => have := LMc14.out; omega); intro v530 w19 ho hb hg hat; rw [← Ny529.out] at ho; replace ab := Aside0.mk (blk_grown (g := ak) (o := .cells #[.int .i64 aa, .int .u32 ad, .slice ah ac.length ai] 30 (0, 0)) (bk_ ab) hg (Kd.R_ne aj.out ab.out (by decide))); replace HB := Aside0.mk (hb); have aN := Aside0.mk (ho); clear aj ho hb hg hat))
      go_ret
      exact ⟨_, er_, rR_ aN, hB_ HB⟩
     ·rw [if_neg c14] at H
      exact absurd H (by simp)
    ·rw [if_neg c13] at H
     have aQ : (aa == 4) = false := beq_eq_false_iff_ne.mpr c13
     have aT : (aa != 4) = true := bne_iff_ne.mpr c13
     obtain rfl := Option.some.inj H
     obtain ⟨a5, a6, a7, bh, bi, bj⟩ := cz3_ (w := wc) ab
     go_wp2
     go_ret
     exact ⟨_, er_, by first | exact Kd.R_nil _ _ _ _ _ | exact Kd.N_nil _ _ _ _ _ | exact Kd.V_nil _ _ _ _ _ | exact Kd.Q_nil _ _ _ _ _ | exact Kd.S_nil _ _ _ _ _, hB_ HB⟩

end Go.Proofs.YtkiimboedgnoiaaDoor.PSpecBack
