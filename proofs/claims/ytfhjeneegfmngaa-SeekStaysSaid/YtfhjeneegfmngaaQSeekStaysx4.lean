/- The walk of SeekStays, part of it: what the Go functions answer; no condition. -/
import Derived.Test.YtfhjeneegfmngaaQSeekStaysx0
import Derived.Test.YtfhjeneegfmngaaQSeekStaysx3
namespace Go.Proofs.Ytfhjeneegfmngaa.PSeekStays
open Go.RowKit Go.Proofs.YtfhjeneegfmngaaW.PrintWords Go.Proofs.YtfhjeneegfmngaaW.PrintLast Go.Proofs.YtfhjeneegfmngaaW.PrintMore
attribute [local go_sem] max2_int min2_int max_two min_two max_three min_three max_four min_four   -- for this text's walks alone
set_option linter.unusedVariables false
set_option linter.unusedSimpArgs false

variable {tb_ : Int → Option Addr × Nat × Nat}

/-! ### lodgerref05_May: function 23 -/
mutual
def lodgerref05_May.j0 : Nat → Bool → Int → Int → List Int → Int → Int → Int → Int → Option (Bool)
 | 0, _, _, _, _, _, _, _, _ => none
 | k + 1, x53, x293000, x293001, x293002, x293003, x293004, x293005, x293006 => if x53 = true then (some false) else (lodgerref05_May.l0 k 0 x293000 x293001 x293002 x293003 x293004 x293005 x293006)
def lodgerref05_May.l0 : Nat → Int → Int → Int → List Int → Int → Int → Int → Int → Option (Bool)
 | 0, _, _, _, _, _, _, _, _ => none
 | k + 1, x3, x293000, x293001, x293002, x293003, x293004, x293005, x293006 => if x3 < (x293002.length : Int) then (if 0 ≤ x3 then (if (rd x293002 x3) < 0 then (some false) else ((lodgerref05_Many.f k x293000 x293001).bind fun t296 => (if (rd x293002 x3) ≥ t296 then (some false) else (if x3 > 0 then (if 0 ≤ (wrap64 (x3 - 1)) then (if (wrap64 (x3 - 1)) < (x293002.length : Int) then (if (rd x293002 x3) ≤ (rd x293002 (wrap64 (x3 - 1))) then (some false) else (lodgerref05_May.l0 k (wrap64 (x3 + 1)) x293000 x293001 x293002 x293003 x293004 x293005 x293006)) else (none)) else (none)) else (lodgerref05_May.l0 k (wrap64 (x3 + 1)) x293000 x293001 x293002 x293003 x293004 x293005 x293006))))) else (none)) else (some true)
end
def lodgerref05_May.f (k : Nat) (a0_0 a0_1 : Int) (l0_2 : List Int) (a0_3 a0_4 : Int) (a0_5 a0_6 : Int) : Option (Bool) := (lodgerref04_May.f k a0_0 a0_1).bind fun t293 => (if t293 = true then (if (l0_2.length : Int) > 64 then (lodgerref05_May.j0 k true a0_0 a0_1 l0_2 a0_3 a0_4 a0_5 a0_6) else (if a0_3 < 1 then (lodgerref05_May.j0 k true a0_0 a0_1 l0_2 a0_3 a0_4 a0_5 a0_6) else (if a0_3 > 64 then (lodgerref05_May.j0 k true a0_0 a0_1 l0_2 a0_3 a0_4 a0_5 a0_6) else (if a0_4 < 1 then (lodgerref05_May.j0 k true a0_0 a0_1 l0_2 a0_3 a0_4 a0_5 a0_6) else (if a0_4 > 64 then (lodgerref05_May.j0 k true a0_0 a0_1 l0_2 a0_3 a0_4 a0_5 a0_6) else (if a0_5 < 1 then (lodgerref05_May.j0 k true a0_0 a0_1 l0_2 a0_3 a0_4 a0_5 a0_6) else (if a0_5 > 64 then (lodgerref05_May.j0 k true a0_0 a0_1 l0_2 a0_3 a0_4 a0_5 a0_6) else (if a0_6 < 1 then (lodgerref05_May.j0 k true a0_0 a0_1 l0_2 a0_3 a0_4 a0_5 a0_6) else (lodgerref05_May.j0 k (decide (a0_6 > 8)) a0_0 a0_1 l0_2 a0_3 a0_4 a0_5 a0_6))))))))) else (lodgerref05_May.j0 k true a0_0 a0_1 l0_2 a0_3 a0_4 a0_5 a0_6))
theorem lodgerref05_May.mono_l : ∀ k, (∀ y0 y1 y2 y3 y4 y5 y6 y7, LeO (lodgerref05_May.j0 k y0 y1 y2 y3 y4 y5 y6 y7) (lodgerref05_May.j0 (k + 1) y0 y1 y2 y3 y4 y5 y6 y7)) ∧ (∀ y0 y1 y2 y3 y4 y5 y6 y7, LeO (lodgerref05_May.l0 k y0 y1 y2 y3 y4 y5 y6 y7) (lodgerref05_May.l0 (k + 1) y0 y1 y2 y3 y4 y5 y6 y7))
 | 0 => ⟨fun _ _ _ _ _ _ _ _ r h => by simp [lodgerref05_May.j0] at h, fun _ _ _ _ _ _ _ _ r h => by simp [lodgerref05_May.l0] at h⟩
 | k + 1 => by
  obtain ⟨ih0, ih1⟩ := lodgerref05_May.mono_l k
  refine ⟨?_, ?_⟩
  ·intro y0 y1 y2 y3 y4 y5 y6 y7
   unfold lodgerref05_May.j0
   repeat' (with_reducible first | apply ih0 | apply ih1 | apply lodgerref04_May.mono | apply lodgerref05_Many.mono | exact LeO.refl _ | exact LeO.none _ | refine LeO.ite ?_ ?_ | refine LeO.bind ?_ (fun _ => ?_))
  ·intro y0 y1 y2 y3 y4 y5 y6 y7
   unfold lodgerref05_May.l0
   repeat' (with_reducible first | apply ih0 | apply ih1 | apply lodgerref04_May.mono | apply lodgerref05_Many.mono | exact LeO.refl _ | exact LeO.none _ | refine LeO.ite ?_ ?_ | refine LeO.bind ?_ (fun _ => ?_))
theorem lodgerref05_May.mono : ∀ a0 a1 a2 a3 a4 a5 a6 k, LeO (lodgerref05_May.f k a0 a1 a2 a3 a4 a5 a6) (lodgerref05_May.f (k + 1) a0 a1 a2 a3 a4 a5 a6) := by
 intro a0 a1 a2 a3 a4 a5 a6 k
 obtain ⟨ih0, ih1⟩ := lodgerref05_May.mono_l k
 unfold lodgerref05_May.f
 repeat' (with_reducible first | apply ih0 | apply ih1 | apply lodgerref04_May.mono | apply lodgerref05_Many.mono | exact LeO.refl _ | exact LeO.none _ | refine LeO.ite ?_ ?_ | refine LeO.bind ?_ (fun _ => ?_))
def lodgerref05_May.T6 : Bool × List (List Nat × List Nat) := (true, [([], []), ([0], [0]), ([], []), ([1, 2], [1, 2]), ([3], [3]), ([4], [4]), ([5], [5]), ([6], [6]), ([7, 6], [6, 7]), ([6], [6]), ([8, 9, 6], [6, 8, 9]), ([10, 6], [6, 10]), ([6], [6]), ([12, 6], [6, 12]), ([13, 6, 6], [6, 13]), ([11, 14, 6], [6, 11, 14]), ([6, 15], [6, 15]), ([16, 14], [16]), ([17], [17]), ([18, 17], [17, 18]), ([19, 17, 17], [17, 19]), ([20], [20]), ([21, 20], [20, 21]), ([20], [20]), ([22, 23, 20], [20, 22, 23]), ([24, 20], [20, 24]), ([20], [20]), ([26, 20], [20, 26]), ([20], [20]), ([28, 20], [20, 28]), ([27, 29, 20], [20, 27, 29]), ([30, 20], [20, 30]), ([25, 31, 20], [20, 25, 31]), ([20, 32, 17], [17, 20, 32]), ([17, 33], [17, 33])])
def lodgerref05_May.B6 : List Nat := [0, 1, 0, 7, 15, 31, 63, 127, 255, 127, 1023, 2047, 127, 4223, 12415, 32767, 65535, 131071, 262143, 524287, 1048575, 2097151, 4194303, 2097151, 16777215, 33554431, 2097151, 69206015, 2097151, 270532607, 1008730111, 2082471935, 4294967295, 8589934591, 17179869183]
theorem lodgerref05_May.tab6 : rtab .any (opsOf Try.f23 6) = lodgerref05_May.T6 := by kernel_rfl
theorem lodgerref05_May.bits6 : waitsOk lodgerref05_May.T6.2 lodgerref05_May.B6 = true := by kernel_rfl
set_option maxHeartbeats 8000000 in
set_option maxRecDepth 100000 in
theorem lodgerref05_May.calls (k : Nat) (ad ae : Int) (ap : Option Addr) (ak : Nat) (ab : List Int) (af ag : Int) (ah ai : Int) (r : Bool) (w : World) (hr0_2 : Kd.C (Kd.int .i64) w ap ab.length ab) (hc0_2 : ab.length ≤ ak) (h : lodgerref05_May.f k ad ae ab af ag ah ai = some r) :
  Calls Try.prog 23 #[.agg #[.int .u32 ad, .int .i64 ae, .slice ap ab.length ak, .int .i64 af, .int .i64 ag, .int .i64 ah, .int .i64 ai]] w fun e w' => e = .returned (.bool r) ∧ Below w.heap.size w w' := by
 have hu27 := Try.underlying27
 have hu24 := Try.underlying24
 have aj := Aside0.mk hr0_2
 have gC := Aside0.mk hc0_2
 clear hr0_2 hc0_2
 have HB := Aside0.mk (Below.refl w.heap.size w)
 have H : ((lodgerref04_May.f k ad ae).bind fun eB => (if eB = true then (if (ab.length : Int) > 64 then (lodgerref05_May.j0 k true ad ae ab af ag ah ai) else (if af < 1 then (lodgerref05_May.j0 k true ad ae ab af ag ah ai) else (if af > 64 then (lodgerref05_May.j0 k true ad ae ab af ag ah ai) else (if ag < 1 then (lodgerref05_May.j0 k true ad ae ab af ag ah ai) else (if ag > 64 then (lodgerref05_May.j0 k true ad ae ab af ag ah ai) else (if ah < 1 then (lodgerref05_May.j0 k true ad ae ab af ag ah ai) else (if ah > 64 then (lodgerref05_May.j0 k true ad ae ab af ag ah ai) else (if ai < 1 then (lodgerref05_May.j0 k true ad ae ab af ag ah ai) else (lodgerref05_May.j0 k (decide (ai > 8)) ad ae ab af ag ah ai))))))))) else (lodgerref05_May.j0 k true ad ae ab af ag ah ai))) = some r := h
 clear h
 have e6 := Aside0.mk H
 clear H
 go_enter Try.func23, Try.ntmps23
 go_upto_region 1 with (first | ((with_reducible refine gd_ 1 ?_); (try (refine gate_guard (by rfl) ?_; dsimp only)); refine bx_ (N := 1) (cs := #[.int .u32 ad, .int .i64 ae, .slice ap ab.length ak, .int .i64 af, .int .i64 ag, .int .i64 ah, .int .i64 ai]) (t := 27) ?_; intro al hg w3 aa hb; have gB := gG_ hg HB; have gA := gG_ hg HB; replace HB := hS_ HB hb; clear hb hg))
 (try simp only [Act.put, List.setIfInBounds_toArray, List.set_cons_zero, List.set_cons_succ, i64_w, i32_w])
 go_cut [53] (fun v53 wc => ∃ (kq : Nat) (ao : Bool), v53 = .bool ao ∧ Aside0 (lodgerref05_May.j0 kq ao ad ae ab af ag ah ai = some r) ∧ Aside0 (kq ≤ k) ∧ Aside0 (wc.heap[al]? = some (.cells #[.int .u32 ad, .int .i64 ae, (.slice ap ab.length ak), .int .i64 af, .int .i64 ag, .int .i64 ah, .int .i64 ai] 27 (0, 0))) ∧ Aside0 (Below w.heap.size w wc))
 case first =>
  have H := e6.out; clear e6; replace H := bi_ H; obtain ⟨eB, A40, H⟩ := H
  replace H : (if eB = true then (if (ab.length : Int) > 64 then (lodgerref05_May.j0 k true ad ae ab af ag ah ai) else (if af < 1 then (lodgerref05_May.j0 k true ad ae ab af ag ah ai) else (if af > 64 then (lodgerref05_May.j0 k true ad ae ab af ag ah ai) else (if ag < 1 then (lodgerref05_May.j0 k true ad ae ab af ag ah ai) else (if ag > 64 then (lodgerref05_May.j0 k true ad ae ab af ag ah ai) else (if ah < 1 then (lodgerref05_May.j0 k true ad ae ab af ag ah ai) else (if ah > 64 then (lodgerref05_May.j0 k true ad ae ab af ag ah ai) else (if ai < 1 then (lodgerref05_May.j0 k true ad ae ab af ag ah ai) else (lodgerref05_May.j0 k (decide (ai > 8)) ad ae ab af ag ah ai))))))))) else (lodgerref05_May.j0 k true ad ae ab af ag ah ai)) = some r := H
  have A4 := Aside0.mk A40; clear A40
  by_cases c5 : eB = true
  ·subst c5
   have H1 : (if (ab.length : Int) > 64 then (lodgerref05_May.j0 k true ad ae ab af ag ah ai) else (if af < 1 then (lodgerref05_May.j0 k true ad ae ab af ag ah ai) else (if af > 64 then (lodgerref05_May.j0 k true ad ae ab af ag ah ai) else (if ag < 1 then (lodgerref05_May.j0 k true ad ae ab af ag ah ai) else (if ag > 64 then (lodgerref05_May.j0 k true ad ae ab af ag ah ai) else (if ah < 1 then (lodgerref05_May.j0 k true ad ae ab af ag ah ai) else (if ah > 64 then (lodgerref05_May.j0 k true ad ae ab af ag ah ai) else (if ai < 1 then (lodgerref05_May.j0 k true ad ae ab af ag ah ai) else (lodgerref05_May.j0 k (decide (ai > 8)) ad ae ab af ag ah ai))))))))) = some r := pf_ rfl H
   clear H; have H := H1; clear H1
   by_cases c6 : (ab.length : Int) > 64
   ·rw [if_pos c6] at H
    have an : decide (64 < (ab.length : Int)) = true := decide_eq_true c6
    have e4 : decide (64 < ab.length) = true := decide_eq_true (by omega)
    clear c6
    (first | rw [an] | (simp only [i64_w, i32_w]; rw [an]) | skip)
    have H' := Aside0.mk H
    clear H; obtain ⟨eC, eD, eE, eF, eG, eH, eI, eQ, eR, eS, eT, eU, eV, eW⟩ := cz7_ (w := w3) aa
    go_wp2_with (first | ((with_reducible refine gate_callee (f := 36) rfl ?_); refine goesL_ (some 6) rfl rfl Try.func36 (by kernel_rfl) rfl #[.agg #[.int .u32 ad, .int .i64 ae]] rfl am_ ?_; (with_reducible refine (lodgerref04_May.calls k ad ae true _ A4.out).mono ?_); rintro e w8 ⟨rfl, hb⟩; refine ⟨_, rfl, ?_⟩; replace HB := hS_ HB hb; replace aa := bB_ aa hb; (try clear hb); obtain ⟨eJ, eK, eL, eM, eN, eO, eP, eX, eY, eZ, e0, e1, e2, e3⟩ := cz7_ (w := w8) aa))
    go_meet
    case rel => exact ⟨_, (true), rs_, H', ⟨by first | omega | exact Nat.le_refl _⟩, ⟨bk_ aa⟩, ⟨hB_ HB⟩⟩
   ·rw [if_neg c6] at H
    have an : decide (64 < (ab.length : Int)) = false := decide_eq_false c6
    have e4 : decide (64 < ab.length) = false := decide_eq_false (by omega)
    clear c6
    (first | rw [an] | (simp only [i64_w, i32_w]; rw [an]) | skip)
    by_cases c10 : af < 1
    ·rw [if_pos c10] at H
     have eu : decide (af < 1) = true := decide_eq_true c10
     clear c10
     have H' := Aside0.mk H
     clear H; obtain ⟨aq, ar, au, av, aw, ax, ay, co, cp, cq, cr, ct, cu, cv⟩ := cz7_ (w := w3) aa
     go_wp2_with (first | ((with_reducible refine gate_callee (f := 36) rfl ?_); refine goesL_ (some 6) rfl rfl Try.func36 (by kernel_rfl) rfl #[.agg #[.int .u32 ad, .int .i64 ae]] rfl am_ ?_; (with_reducible refine (lodgerref04_May.calls k ad ae true _ A4.out).mono ?_); rintro e w12 ⟨rfl, hb⟩; refine ⟨_, rfl, ?_⟩; replace HB := hS_ HB hb; replace aa := bB_ aa hb; (try clear hb); obtain ⟨az, aA, aB, aC, aD, aE, aF, cw, cx, cy, cz, cA, cB, cC⟩ := cz7_ (w := w12) aa))
     go_meet
     case rel => exact ⟨_, (true), rs_, H', ⟨by first | omega | exact Nat.le_refl _⟩, ⟨bk_ aa⟩, ⟨hB_ HB⟩⟩
    ·rw [if_neg c10] at H
     have eu : decide (af < 1) = false := decide_eq_false c10
     clear c10
     by_cases c14 : af > 64
     ·rw [if_pos c14] at H
      have ev : decide (64 < af) = true := decide_eq_true c14
      clear c14
      have H' := Aside0.mk H
      clear H; obtain ⟨aG, aH, aI, aJ, aK, aL, aM, cD, cE, cF, cG, cH, cI, cJ⟩ := cz7_ (w := w3) aa
      go_wp2_with (first | ((with_reducible refine gate_callee (f := 36) rfl ?_); refine goesL_ (some 6) rfl rfl Try.func36 (by kernel_rfl) rfl #[.agg #[.int .u32 ad, .int .i64 ae]] rfl am_ ?_; (with_reducible refine (lodgerref04_May.calls k ad ae true _ A4.out).mono ?_); rintro e w16 ⟨rfl, hb⟩; refine ⟨_, rfl, ?_⟩; replace HB := hS_ HB hb; replace aa := bB_ aa hb; (try clear hb); obtain ⟨aN, aO, aP, aQ, aR, aS, aT, cK, cL, cM, cN, cO, cP, cQ⟩ := cz7_ (w := w16) aa))
      go_meet
      case rel => exact ⟨_, (true), rs_, H', ⟨by first | omega | exact Nat.le_refl _⟩, ⟨bk_ aa⟩, ⟨hB_ HB⟩⟩
     ·rw [if_neg c14] at H
      have ev : decide (64 < af) = false := decide_eq_false c14
      clear c14
      by_cases c18 : ag < 1
      ·rw [if_pos c18] at H
       have ew : decide (ag < 1) = true := decide_eq_true c18
       clear c18
       have H' := Aside0.mk H
       clear H; obtain ⟨aU, aV, aW, aX, aY, aZ, a0, cR, cS, cT, cU, cV, cW, cX⟩ := cz7_ (w := w3) aa
       go_wp2_with (first | ((with_reducible refine gate_callee (f := 36) rfl ?_); refine goesL_ (some 6) rfl rfl Try.func36 (by kernel_rfl) rfl #[.agg #[.int .u32 ad, .int .i64 ae]] rfl am_ ?_; (with_reducible refine (lodgerref04_May.calls k ad ae true _ A4.out).mono ?_); rintro e w20 ⟨rfl, hb⟩; refine ⟨_, rfl, ?_⟩; replace HB := hS_ HB hb; replace aa := bB_ aa hb; (try clear hb); obtain ⟨a1, a2, a3, a4, a5, a6, a7, cY, cZ, c0, c7, c8, c9, da⟩ := cz7_ (w := w20) aa))
       go_meet
       case rel => exact ⟨_, (true), rs_, H', ⟨by first | omega | exact Nat.le_refl _⟩, ⟨bk_ aa⟩, ⟨hB_ HB⟩⟩
      ·rw [if_neg c18] at H
       have ew : decide (ag < 1) = false := decide_eq_false c18
       clear c18
       by_cases c22 : ag > 64
       ·rw [if_pos c22] at H
        have ex : decide (64 < ag) = true := decide_eq_true c22
        clear c22
        have H' := Aside0.mk H
        clear H; obtain ⟨a8, a9, ba, bb, bc, bd, be, db, dc, dd, de, df, dg, dh⟩ := cz7_ (w := w3) aa
        go_wp2_with (first | ((with_reducible refine gate_callee (f := 36) rfl ?_); refine goesL_ (some 6) rfl rfl Try.func36 (by kernel_rfl) rfl #[.agg #[.int .u32 ad, .int .i64 ae]] rfl am_ ?_; (with_reducible refine (lodgerref04_May.calls k ad ae true _ A4.out).mono ?_); rintro e w24 ⟨rfl, hb⟩; refine ⟨_, rfl, ?_⟩; replace HB := hS_ HB hb; replace aa := bB_ aa hb; (try clear hb); obtain ⟨bf, bg, bh, bi, bj, bk, bl, di, dj, dk, dl, dm, dn, dp⟩ := cz7_ (w := w24) aa))
        go_meet
        case rel => exact ⟨_, (true), rs_, H', ⟨by first | omega | exact Nat.le_refl _⟩, ⟨bk_ aa⟩, ⟨hB_ HB⟩⟩
       ·rw [if_neg c22] at H
        have ex : decide (64 < ag) = false := decide_eq_false c22
        clear c22
        by_cases c26 : ah < 1
        ·rw [if_pos c26] at H
         have ey : decide (ah < 1) = true := decide_eq_true c26
         clear c26
         have H' := Aside0.mk H
         clear H; obtain ⟨bm, bn, bo, bp, bq, br, bs, dq, dr, dt, du, dv, dw, dx⟩ := cz7_ (w := w3) aa
         go_wp2_with (first | ((with_reducible refine gate_callee (f := 36) rfl ?_); refine goesL_ (some 6) rfl rfl Try.func36 (by kernel_rfl) rfl #[.agg #[.int .u32 ad, .int .i64 ae]] rfl am_ ?_; (with_reducible refine (lodgerref04_May.calls k ad ae true _ A4.out).mono ?_); rintro e w28 ⟨rfl, hb⟩; refine ⟨_, rfl, ?_⟩; replace HB := hS_ HB hb; replace aa := bB_ aa hb; (try clear hb); obtain ⟨bt, bu, bv, bw, bx, bz, bA, dy, dz, dA, dB, dC, dD, dE⟩ := cz7_ (w := w28) aa))
         go_meet
         case rel => exact ⟨_, (true), rs_, H', ⟨by first | omega | exact Nat.le_refl _⟩, ⟨bk_ aa⟩, ⟨hB_ HB⟩⟩
        ·rw [if_neg c26] at H
         have ey : decide (ah < 1) = false := decide_eq_false c26
         clear c26
         by_cases c30 : ah > 64
         ·rw [if_pos c30] at H
          have ez : decide (64 < ah) = true := decide_eq_true c30
          clear c30
          have H' := Aside0.mk H
          clear H; obtain ⟨bB, bC, bD, bE, bF, bG, bH, dF, dG, dH, dI, dJ, dK, dL⟩ := cz7_ (w := w3) aa
          go_wp2_with (first | ((with_reducible refine gate_callee (f := 36) rfl ?_); refine goesL_ (some 6) rfl rfl Try.func36 (by kernel_rfl) rfl #[.agg #[.int .u32 ad, .int .i64 ae]] rfl am_ ?_; (with_reducible refine (lodgerref04_May.calls k ad ae true _ A4.out).mono ?_); rintro e w32 ⟨rfl, hb⟩; refine ⟨_, rfl, ?_⟩; replace HB := hS_ HB hb; replace aa := bB_ aa hb; (try clear hb); obtain ⟨bI, bJ, bK, bL, bM, bN, bO, dM, dN, dO, dP, dQ, dR, dS⟩ := cz7_ (w := w32) aa))
          go_meet
          case rel => exact ⟨_, (true), rs_, H', ⟨by first | omega | exact Nat.le_refl _⟩, ⟨bk_ aa⟩, ⟨hB_ HB⟩⟩
         ·rw [if_neg c30] at H
          have ez : decide (64 < ah) = false := decide_eq_false c30
          clear c30
          by_cases c34 : ai < 1
          ·rw [if_pos c34] at H
           have eA : decide (ai < 1) = true := decide_eq_true c34
           clear c34
           have H' := Aside0.mk H
           clear H; obtain ⟨bP, bQ, bR, bS, bT, bU, bV, dT, dU, dV, dW, dX, dY, dZ⟩ := cz7_ (w := w3) aa
           go_wp2_with (first | ((with_reducible refine gate_callee (f := 36) rfl ?_); refine goesL_ (some 6) rfl rfl Try.func36 (by kernel_rfl) rfl #[.agg #[.int .u32 ad, .int .i64 ae]] rfl am_ ?_; (with_reducible refine (lodgerref04_May.calls k ad ae true _ A4.out).mono ?_); rintro e w36 ⟨rfl, hb⟩; refine ⟨_, rfl, ?_⟩; replace HB := hS_ HB hb; replace aa := bB_ aa hb; (try clear hb); obtain ⟨bW, bX, bY, bZ, b0, b1, b2, d0, d1, d2, d3, d4, d5, d6⟩ := cz7_ (w := w36) aa))
           go_meet
           case rel => exact ⟨_, (true), rs_, H', ⟨by first | omega | exact Nat.le_refl _⟩, ⟨bk_ aa⟩, ⟨hB_ HB⟩⟩
          ·rw [if_neg c34] at H
           have eA : decide (ai < 1) = false := decide_eq_false c34
           clear c34
           have H' := Aside0.mk H
           clear H; obtain ⟨b3, b4, b5, b6, b7, b8, b9, d7, d8, d9, ea, eb, ec, ed⟩ := cz7_ (w := w3) aa
           go_wp2_with (first | ((with_reducible refine gate_callee (f := 36) rfl ?_); refine goesL_ (some 6) rfl rfl Try.func36 (by kernel_rfl) rfl #[.agg #[.int .u32 ad, .int .i64 ae]] rfl am_ ?_; (with_reducible refine (lodgerref04_May.calls k ad ae true _ A4.out).mono ?_); rintro e w39 ⟨rfl, hb⟩; refine ⟨_, rfl, ?_⟩; replace HB := hS_ HB hb; replace aa := bB_ aa hb; (try clear hb); obtain ⟨ca, cb, cc, cd, ce, cf, cg, ee, ef, eg, eh, ei, ej, ek⟩ := cz7_ (w := w39) aa))
           go_meet
           case rel => exact ⟨_, (decide (ai > 8)), rs_, H', ⟨by first | omega | exact Nat.le_refl _⟩, ⟨bk_ aa⟩, ⟨hB_ HB⟩⟩
  ·replace c5 := Bool.eq_false_iff.mpr c5
   subst c5
   have H1 : (lodgerref05_May.j0 k true ad ae ab af ag ah ai) = some r := nf_ H
   clear H; have H := H1; clear H1
   have H' := Aside0.mk H
   clear H; obtain ⟨ch, ci, cj, ck, cl, cm, cn, el, em, en, eo, ep, er, et⟩ := cz7_ (w := w3) aa
   go_wp2_with (first | ((with_reducible refine gate_callee (f := 36) rfl ?_); refine goesL_ (some 6) rfl rfl Try.func36 (by kernel_rfl) rfl #[.agg #[.int .u32 ad, .int .i64 ae]] rfl am_ ?_; (with_reducible refine (lodgerref04_May.calls k ad ae false _ A4.out).mono ?_); rintro e w42 ⟨rfl, hb⟩; refine ⟨_, rfl, ?_⟩; replace HB := hS_ HB hb; replace aa := bB_ aa hb; (try clear hb)))
   go_meet
   case rel => exact ⟨_, (true), rs_, H', ⟨by first | omega | exact Nat.le_refl _⟩, ⟨bk_ aa⟩, ⟨hB_ HB⟩⟩
 case rest =>
  clear e6
  try clear c1
  try clear c2
  try clear p2
  try clear c3
  try clear c5
  try clear c6
  try clear an
  try clear e4
  try clear c10
  try clear eu
  try clear c14
  try clear ev
  try clear c18
  try clear ew
  try clear c22
  try clear ex
  try clear c23
  try clear c26
  try clear ey
  try clear c30
  try clear ez
  try clear c34
  try clear eA
  try clear c36
  try clear aq ar au av aw ax ay
  try clear az aA aB aC aD aE aF
  try clear aG aH aI aJ aK aL aM
  try clear aN aO aP aQ aR aS aT
  try clear aU aV aW aX aY aZ a0
  try clear a1 a2 a3 a4 a5 a6 a7
  try clear a8 a9 ba bb bc bd be
  try clear bf bg bh bi bj bk bl
  try clear bm bn bo bp bq br bs
  try clear bt bu bv bw bx bz bA
  try clear bB bC bD bE bF bG bH
  try clear bI bJ bK bL bM bN bO
  try clear bP bQ bR bS bT bU bV
  try clear bW bX bY bZ b0 b1 b2
  try clear b3 b4 b5 b6 b7 b8 b9
  try clear ca cb cc cd ce cf cg
  try clear ch ci cj ck cl cm cn
  try clear eC eD eE eF eG eH eI
  try clear eJ eK eL eM eN eO eP
  try clear co cp cq cr ct cu cv
  try clear cw cx cy cz cA cB cC
  try clear cD cE cF cG cH cI cJ
  try clear cK cL cM cN cO cP cQ
  try clear cR cS cT cU cV cW cX
  try clear cY cZ c0 c7 c8 c9 da
  try clear db dc dd de df dg dh
  try clear di dj dk dl dm dn dp
  try clear dq dr dt du dv dw dx
  try clear dy dz dA dB dC dD dE
  try clear dF dG dH dI dJ dK dL
  try clear dM dN dO dP dQ dR dS
  try clear dT dU dV dW dX dY dZ
  try clear d0 d1 d2 d3 d4 d5 d6
  try clear d7 d8 d9 ea eb ec ed
  try clear ee ef eg eh ei ej ek
  try clear el em en eo ep er et
  try clear eQ eR eS eT eU eV eW
  try clear eX eY eZ e0 e1 e2 e3
  obtain ⟨kq, ao, rfl, HA, e5, aa, HB⟩ := hcut
  cases kq with
  | zero => exact absurd HA.out (by simp [lodgerref05_May.j0])
  | succ kj1 =>
   have H := HA.out; clear HA; simp only [lodgerref05_May.j0] at H
   by_cases c43 : ao = true
   ·subst c43
    have H1 : (some false) = some r := pf_ rfl H
    clear H; have H := H1; clear H1
    obtain rfl := Option.some.inj H
    go_wp2
    go_ret
    exact ⟨er_, hB_ HB⟩
   ·replace c43 := Bool.eq_false_iff.mpr c43
    subst c43
    have H1 : (lodgerref05_May.l0 kj1 0 ad ae ab af ag ah ai) = some r := nf_ H
    clear H; have H := H1; clear H1
    have H' := Aside0.mk H
    clear H
    go_wp2
    go_loopg [3] kj1 (fun kq v3 w' => ∃ (ac : Int), v3 = .int .i64 ac ∧ Aside0 (lodgerref05_May.l0 kq ac ad ae ab af ag ah ai = some r) ∧ Aside0 (kq ≤ kj1) ∧ Aside0 (w'.heap[al]? = some (.cells #[.int .u32 ad, .int .i64 ae, (.slice ap ab.length ak), .int .i64 af, .int .i64 ag, .int .i64 ah, .int .i64 ai] 27 (0, 0))) ∧ Aside0 (Below w.heap.size w w'))
    case atStart => exact ⟨(0), rs_, H', ⟨Nat.le_refl _⟩, ⟨bk_ aa⟩, ⟨hB_ HB⟩⟩
    case round =>
     clear H'
     try clear c1
     try clear c2
     try clear p2
     try clear c3
     try clear c4
     try clear c5
     try clear c6
     try clear an
     try clear e4
     try clear c10
     try clear eu
     try clear c14
     try clear ev
     try clear c18
     try clear ew
     try clear c22
     try clear ex
     try clear c23
     try clear c26
     try clear ey
     try clear c30
     try clear ez
     try clear c34
     try clear eA
     try clear c36
     try clear c43
     try clear aq ar au av aw ax ay
     try clear az aA aB aC aD aE aF
     try clear aG aH aI aJ aK aL aM
     try clear aN aO aP aQ aR aS aT
     try clear aU aV aW aX aY aZ a0
     try clear a1 a2 a3 a4 a5 a6 a7
     try clear a8 a9 ba bb bc bd be
     try clear bf bg bh bi bj bk bl
     try clear bm bn bo bp bq br bs
     try clear bt bu bv bw bx bz bA
     try clear bB bC bD bE bF bG bH
     try clear bI bJ bK bL bM bN bO
     try clear bP bQ bR bS bT bU bV
     try clear bW bX bY bZ b0 b1 b2
     try clear b3 b4 b5 b6 b7 b8 b9
     try clear ca cb cc cd ce cf cg
     try clear ch ci cj ck cl cm cn
     try clear eC eD eE eF eG eH eI
     try clear eJ eK eL eM eN eO eP
     try clear co cp cq cr ct cu cv
     try clear cw cx cy cz cA cB cC
     try clear cD cE cF cG cH cI cJ
     try clear cK cL cM cN cO cP cQ
     try clear cR cS cT cU cV cW cX
     try clear cY cZ c0 c7 c8 c9 da
     try clear db dc dd de df dg dh
     try clear di dj dk dl dm dn dp
     try clear dq dr dt du dv dw dx
     try clear dy dz dA dB dC dD dE
     try clear dF dG dH dI dJ dK dL
     try clear dM dN dO dP dQ dR dS
     try clear dT dU dV dW dX dY dZ
     try clear d0 d1 d2 d3 d4 d5 d6
     try clear d7 d8 d9 ea eb ec ed
     try clear ee ef eg eh ei ej ek
     try clear el em en eo ep er et
     try clear eQ eR eS eT eU eV eW
     try clear eX eY eZ e0 e1 e2 e3
     try clear p2
     obtain ⟨ac, rfl, HA, HK2, aa, HB⟩ := hrel
     cases gk with
     | zero => exact absurd HA.out (by simp [lodgerref05_May.l0])
     | succ k2 =>
      have H := HA.out; clear HA; simp only [lodgerref05_May.l0] at H
      by_cases c44 : ac < (ab.length : Int)
      ·rw [if_pos c44] at H
       have e7 : decide (ac < (ab.length : Int)) = true := decide_eq_true c44
       clear c44
       by_cases c45 : 0 ≤ ac
       ·rw [if_pos c45] at H
        have gD : decide (0 ≤ ac) = true := decide_eq_true c45
        clear c45
        by_cases c46 : (rd ab ac) < 0
        ·rw [if_pos c46] at H
         have e8 : decide ((rd ab ac) < 0) = true := decide_eq_true c46
         clear c46
         obtain rfl := Option.some.inj H
         obtain ⟨fc, fd, fe, ff, fg, fh, fi, fS, fT, fU, fV, fW, fX, fY⟩ := cz7_ (w := wr) aa
         try go_wp2
         replace aa := Aside0.mk (blk_drew aa.out); replace HB := Aside0.mk (below_drew1 HB.out)
         have p294 : 0 ≤ (ac : Int) := od_
         have q294 : ac < (ab.length : Int) := od_
         obtain ⟨ad294, e294, hx294_0⟩ := Kd.at_int aj.out ac p294 q294; have hw294_0 := hx294_0
         cases e294
         replace hx294_0 := (HB.out.cell (World.block_lt_of_cell? w _ hx294_0)).trans hx294_0; replace p294 := eq_true p294; replace q294 := eq_true q294
         refine start_ (n := 35) (S := fun w' => P7_ w' al (.int .u32 ad) (.int .i64 ae) (.slice (some ad294) ab.length ak) (.int .i64 af) (.int .i64 ag) (.int .i64 ah) (.int .i64 ai) (w'.cell? (ad294.add (ac).toNat) = some (.int .i64 (rd ab ac)))) (ds := []) (tf 35 0) (by kernel_rfl) rfl rfl (ck7_ aa (((HB.out.cell (World.block_lt_of_cell? w _ hw294_0)).trans hw294_0))) (fun hHeld => ?_); refine with_tabW lodgerref05_May.tab6 lodgerref05_May.bits6 (fun HT_ HW_ => ?_)
         generalize wr.drew = w48 at aa HB hx294_0 hHeld ⊢
         refine puU_ 0 61 (tf 35 1) HT_ ?_; refine puU_ 2 63 (tf 35 5) HT_ ?_; refine tkU_ 1 62 (tf 35 7) rfl rfl HT_ HW_ hHeld (by rintro w' ⟨s0, s1, s2, s3, s4, s5, s6, s7⟩; go_simp; with_reducible rfl) ?_; refine puU_ 3 64 (tf 35 15) HT_ ?_; refine tkU_ 4 65 (tf 35 31) rfl rfl HT_ HW_ hHeld (by rintro w' ⟨s0, s1, s2, s3, s4, s5, s6, s7⟩; go_simp; with_reducible rfl) ?_; refine puU_ 5 66 (tf 35 63) HT_ ?_; refine puU_ 6 67 (tf 35 127) HT_ ?_; refine pnU_ 7 68 (tf 35 255) HT_ ?_; refine pnU_ 8 69 (tf 35 511) HT_ ?_; refine pnU_ 9 70 (tf 35 1023) HT_ ?_; refine pnU_ 10 71 (tf 35 2047) HT_ ?_; refine pnU_ 11 72 (tf 35 4095) HT_ ?_; refine pnU_ 12 73 (tf 35 8191) HT_ ?_; refine pnU_ 13 74 (tf 35 16383) HT_ ?_; refine pnU_ 14 75 (tf 35 32767) HT_ ?_; refine pnU_ 15 76 (tf 35 65535) HT_ ?_; refine puU_ 16 77 (tf 35 131071) HT_ ?_; refine puU_ 17 78 (tf 35 262143) HT_ ?_; refine pnU_ 18 79 (tf 35 524287) HT_ ?_; refine pnU_ 19 80 (tf 35 1048575) HT_ ?_; refine pnU_ 20 81 (tf 35 2097151) HT_ ?_; refine pnU_ 21 82 (tf 35 4194303) HT_ ?_; refine pnU_ 22 83 (tf 35 8388607) HT_ ?_; refine pnU_ 23 84 (tf 35 16777215) HT_ ?_; refine pnU_ 24 85 (tf 35 33554431) HT_ ?_; refine pnU_ 25 86 (tf 35 67108863) HT_ ?_; refine pnU_ 26 87 (tf 35 134217727) HT_ ?_; refine pnU_ 27 88 (tf 35 268435455) HT_ ?_; refine pnU_ 28 89 (tf 35 536870911) HT_ ?_; refine pnU_ 29 90 (tf 35 1073741823) HT_ ?_; refine pnU_ 30 91 (tf 35 2147483647) HT_ ?_; refine pnU_ 31 92 (tf 35 4294967295) HT_ ?_; refine pnU_ 32 93 (tf 35 8589934591) HT_ ?_; refine pnU_ 33 94 (tf 35 17179869183) HT_ ?_; refine puU_ 34 95 (tf 35 34359738367) HT_ ?_
         refine done_ (done_of HT_.out (by kernel_rfl)) ?_
         try go_wp2
         go_ret
         exact ⟨er_, hB_ HB⟩
        ·rw [if_neg c46] at H
         have e8 : decide ((rd ab ac) < 0) = false := decide_eq_false c46
         clear c46; replace H := bi_ H; obtain ⟨am, A490, H⟩ := H
         replace H : (if (rd ab ac) ≥ am then (some false) else (if ac > 0 then (if 0 ≤ (wrap64 (ac - 1)) then (if (wrap64 (ac - 1)) < (ab.length : Int) then (if (rd ab ac) ≤ (rd ab (wrap64 (ac - 1))) then (some false) else (lodgerref05_May.l0 k2 (wrap64 (ac + 1)) ad ae ab af ag ah ai)) else (none)) else (none)) else (lodgerref05_May.l0 k2 (wrap64 (ac + 1)) ad ae ab af ag ah ai))) = some r := H
         have A49 := Aside0.mk A490; clear A490
         by_cases c50 : (rd ab ac) ≥ am
         ·rw [if_pos c50] at H
          have e9 : decide (am ≤ (rd ab ac)) = true := decide_eq_true c50
          clear c50
          obtain rfl := Option.some.inj H
          obtain ⟨fj, fk, fl, fm, fn, fo, fp, fZ, f0, f1, f2, f3, f4, f5⟩ := cz7_ (w := wr) aa
          try go_wp2
          replace aa := Aside0.mk (blk_drew aa.out); replace HB := Aside0.mk (below_drew1 HB.out)
          have p294 : 0 ≤ (ac : Int) := od_
          have q294 : ac < (ab.length : Int) := od_
          obtain ⟨ad294, e294, hx294_0⟩ := Kd.at_int aj.out ac p294 q294; have hw294_0 := hx294_0
          cases e294
          replace hx294_0 := (HB.out.cell (World.block_lt_of_cell? w _ hx294_0)).trans hx294_0; replace p294 := eq_true p294; replace q294 := eq_true q294
          have p295 : 0 ≤ (ac : Int) := od_
          have q295 : ac < (ab.length : Int) := od_
          obtain ⟨ad295, e295, hx295_0⟩ := Kd.at_int aj.out ac p295 q295; have hw295_0 := hx295_0
          obtain rfl : ad294 = ad295 := (by injection e295)
          replace hx295_0 := (HB.out.cell (World.block_lt_of_cell? w _ hx295_0)).trans hx295_0; replace p295 := eq_true p295; replace q295 := eq_true q295
          refine start_ (n := 35) (S := fun w' => P7_ w' al (.int .u32 ad) (.int .i64 ae) (.slice (some ad294) ab.length ak) (.int .i64 af) (.int .i64 ag) (.int .i64 ah) (.int .i64 ai) (w'.cell? (ad294.add (ac).toNat) = some (.int .i64 (rd ab ac)) ∧ w'.cell? (ad294.add (ac).toNat) = some (.int .i64 (rd ab ac)))) (ds := []) (tf 35 0) (by kernel_rfl) rfl rfl (ck7_ aa (⟨((HB.out.cell (World.block_lt_of_cell? w _ hw294_0)).trans hw294_0), ((HB.out.cell (World.block_lt_of_cell? w _ hw295_0)).trans hw295_0)⟩)) (fun hHeld => ?_); refine with_tabW lodgerref05_May.tab6 lodgerref05_May.bits6 (fun HT_ HW_ => ?_)
          generalize wr.drew = w52 at aa HB hx294_0 hx295_0 hHeld ⊢
          refine puU_ 0 61 (tf 35 1) HT_ ?_; refine puU_ 2 63 (tf 35 5) HT_ ?_; refine tkU_ 1 62 (tf 35 7) rfl rfl HT_ HW_ hHeld (by rintro w' ⟨s0, s1, s2, s3, s4, s5, s6, s7, s8⟩; go_simp; with_reducible rfl) ?_; refine puU_ 3 64 (tf 35 15) HT_ ?_; refine tkU_ 4 65 (tf 35 31) rfl rfl HT_ HW_ hHeld (by rintro w' ⟨s0, s1, s2, s3, s4, s5, s6, s7, s8⟩; go_simp; with_reducible rfl) ?_; refine puU_ 5 66 (tf 35 63) HT_ ?_; refine puU_ 6 67 (tf 35 127) HT_ ?_; refine puU_ 7 68 (tf 35 255) HT_ ?_; refine puU_ 9 70 (tf 35 767) HT_ ?_; refine puU_ 12 73 (tf 35 4863) HT_ ?_; refine tkU_ 8 69 (tf 35 5119) rfl rfl HT_ HW_ hHeld (by rintro w' ⟨s0, s1, s2, s3, s4, s5, s6, s7, s8⟩; go_simp; with_reducible rfl) ?_; refine puU_ 10 71 (tf 35 6143) HT_ ?_; refine tkU_ 11 72 (tf 35 8191) rfl rfl HT_ HW_ hHeld (by rintro w' ⟨s0, s1, s2, s3, s4, s5, s6, s7, s8⟩; go_simp; with_reducible rfl) ?_; refine tkU_ 13 74 (tf 35 16383) rfl rfl HT_ HW_ hHeld (by rintro w' ⟨s0, s1, s2, s3, s4, s5, s6, s7, s8⟩; go_simp; with_reducible rfl) ?_
          refine on_ (i := 14) (N := some 75) (tf 35 32767) HT_ (fun K hK => ?_)
          refine goes_ Try.func9 (by kernel_rfl) rfl #[.agg #[.int .u32 ad, .int .i64 ae]] (by rfl) rfl rfl am_ ?_
          with_reducible refine (lodgerref05_Many.calls k2 ad ae am _ A49.out).mono ?_
          rintro e w53 ⟨rfl, hb⟩
          refine ⟨_, rfl, ?_⟩
          replace aa := bB_ aa hb; replace HB := hS_ HB hb
          (try clear hb)
          (try clear hb2)
          (try clear hk)
          (try clear hi)
          refine hK.out _ _ ⟨(blk_cell aa.out 0).trans rfl, (blk_cell aa.out 1).trans rfl, (blk_cell aa.out 2).trans rfl, (blk_cell aa.out 3).trans rfl, (blk_cell aa.out 4).trans rfl, (blk_cell aa.out 5).trans rfl, (blk_cell aa.out 6).trans rfl, ((HB.out.cell (World.block_lt_of_cell? w _ hw294_0)).trans hw294_0), ((HB.out.cell (World.block_lt_of_cell? w _ hw295_0)).trans hw295_0)⟩ (fun hHeld => ?_)
          clear hK K
          refine norm_ (a' := ?_) ?_ ?_
          rotate_left
          ·show Act.put _ (some 75) _ = _
           simp only [Act.put, List.setIfInBounds_toArray, List.set_cons_zero, List.set_cons_succ, i64_w, i32_w]
           rfl
          refine puU_ 15 76 (tf 35 65535) HT_ ?_; refine puU_ 16 77 (tf 35 131071) HT_ ?_; refine puU_ 17 78 (tf 35 262143) HT_ ?_; refine pnU_ 18 79 (tf 35 524287) HT_ ?_; refine pnU_ 19 80 (tf 35 1048575) HT_ ?_; refine pnU_ 20 81 (tf 35 2097151) HT_ ?_; refine pnU_ 21 82 (tf 35 4194303) HT_ ?_; refine pnU_ 22 83 (tf 35 8388607) HT_ ?_; refine pnU_ 23 84 (tf 35 16777215) HT_ ?_; refine pnU_ 24 85 (tf 35 33554431) HT_ ?_; refine pnU_ 25 86 (tf 35 67108863) HT_ ?_; refine pnU_ 26 87 (tf 35 134217727) HT_ ?_; refine pnU_ 27 88 (tf 35 268435455) HT_ ?_; refine pnU_ 28 89 (tf 35 536870911) HT_ ?_; refine pnU_ 29 90 (tf 35 1073741823) HT_ ?_; refine pnU_ 30 91 (tf 35 2147483647) HT_ ?_; refine pnU_ 31 92 (tf 35 4294967295) HT_ ?_; refine pnU_ 32 93 (tf 35 8589934591) HT_ ?_; refine pnU_ 33 94 (tf 35 17179869183) HT_ ?_; refine puU_ 34 95 (tf 35 34359738367) HT_ ?_
          refine done_ (done_of HT_.out (by kernel_rfl)) ?_
          try go_wp2
          go_ret
          exact ⟨er_, hB_ HB⟩
         ·rw [if_neg c50] at H
          have e9 : decide (am ≤ (rd ab ac)) = false := decide_eq_false c50
          clear c50
          by_cases c54 : ac > 0
          ·rw [if_pos c54] at H
           have fa : decide (0 < ac) = true := decide_eq_true c54
           clear c54; obtain ⟨ji55, hji55⟩ : ∃ j_ : Int, (wrap64 (ac - 1)) = j_ := ⟨_, rfl⟩
           replace H : (if 0 ≤ (ji55) then (if (ji55) < (ab.length : Int) then (if (rd ab ac) ≤ (rd ab (ji55)) then (some false) else (lodgerref05_May.l0 k2 (wrap64 (ac + 1)) ad ae ab af ag ah ai)) else (none)) else (none)) = some r := by first | (rw [hji55] at H; exact H) | (simp only [hji55] at H ⊢; exact H)
           (try rw [hji55] at A49)
           have hji55w : (IntKind.i64.wrap (ac - 1)) = ji55 := (i64_w _).trans hji55
           by_cases c56 : 0 ≤ (ji55)
           ·rw [if_pos c56] at H
            have gE : decide (0 ≤ (ji55)) = true := decide_eq_true c56
            clear c56
            by_cases c57 : (ji55) < (ab.length : Int)
            ·rw [if_pos c57] at H
             have gF : decide ((ji55) < (ab.length : Int)) = true := decide_eq_true c57
             clear c57
             by_cases c58 : (rd ab ac) ≤ (rd ab (ji55))
             ·rw [if_pos c58] at H
              have fb : decide ((rd ab ac) ≤ (rd ab (ji55))) = true := decide_eq_true c58
              clear c58
              obtain rfl := Option.some.inj H
              obtain ⟨fq, fr, fs, ft, fu, fv, fw, f6, f7, f8, f9, ga, gb, gc⟩ := cz7_ (w := wr) aa
              try go_wp2
              replace aa := Aside0.mk (blk_drew aa.out); replace HB := Aside0.mk (below_drew1 HB.out)
              have p294 : 0 ≤ (ac : Int) := od_
              have q294 : ac < (ab.length : Int) := od_
              obtain ⟨ad294, e294, hx294_0⟩ := Kd.at_int aj.out ac p294 q294; have hw294_0 := hx294_0
              cases e294
              replace hx294_0 := (HB.out.cell (World.block_lt_of_cell? w _ hx294_0)).trans hx294_0; replace p294 := eq_true p294; replace q294 := eq_true q294
              have p295 : 0 ≤ (ac : Int) := od_
              have q295 : ac < (ab.length : Int) := od_
              obtain ⟨ad295, e295, hx295_0⟩ := Kd.at_int aj.out ac p295 q295; have hw295_0 := hx295_0
              obtain rfl : ad294 = ad295 := (by injection e295)
              replace hx295_0 := (HB.out.cell (World.block_lt_of_cell? w _ hx295_0)).trans hx295_0; replace p295 := eq_true p295; replace q295 := eq_true q295
              have p297 : 0 ≤ (ac : Int) := od_
              have q297 : ac < (ab.length : Int) := od_
              obtain ⟨ad297, e297, hx297_0⟩ := Kd.at_int aj.out ac p297 q297; have hw297_0 := hx297_0
              obtain rfl : ad294 = ad297 := (by injection e297)
              replace hx297_0 := (HB.out.cell (World.block_lt_of_cell? w _ hx297_0)).trans hx297_0; replace p297 := eq_true p297; replace q297 := eq_true q297
              have p298 : 0 ≤ ((ji55) : Int) := od_
              have q298 : (ji55) < (ab.length : Int) := od_
              obtain ⟨ad298, e298, hx298_0⟩ := Kd.at_int aj.out (ji55) p298 q298; have hw298_0 := hx298_0
              obtain rfl : ad294 = ad298 := (by injection e298)
              replace hx298_0 := (HB.out.cell (World.block_lt_of_cell? w _ hx298_0)).trans hx298_0; replace p298 := eq_true p298; replace q298 := eq_true q298
              refine start_ (n := 35) (S := fun w' => P7_ w' al (.int .u32 ad) (.int .i64 ae) (.slice (some ad294) ab.length ak) (.int .i64 af) (.int .i64 ag) (.int .i64 ah) (.int .i64 ai) (w'.cell? (ad294.add (ac).toNat) = some (.int .i64 (rd ab ac)) ∧ w'.cell? (ad294.add (ac).toNat) = some (.int .i64 (rd ab ac)) ∧ w'.cell? (ad294.add (ac).toNat) = some (.int .i64 (rd ab ac)) ∧ w'.cell? (ad294.add ((ji55)).toNat) = some (.int .i64 (rd ab (ji55))))) (ds := []) (tf 35 0) (by kernel_rfl) rfl rfl (ck7_ aa (⟨((HB.out.cell (World.block_lt_of_cell? w _ hw294_0)).trans hw294_0), ⟨((HB.out.cell (World.block_lt_of_cell? w _ hw295_0)).trans hw295_0), ⟨((HB.out.cell (World.block_lt_of_cell? w _ hw297_0)).trans hw297_0), ((HB.out.cell (World.block_lt_of_cell? w _ hw298_0)).trans hw298_0)⟩⟩⟩)) (fun hHeld => ?_); refine with_tabW lodgerref05_May.tab6 lodgerref05_May.bits6 (fun HT_ HW_ => ?_)
              generalize wr.drew = w60 at aa HB hx294_0 hx295_0 hx297_0 hx298_0 hHeld ⊢
              refine puU_ 0 61 (tf 35 1) HT_ ?_; refine puU_ 2 63 (tf 35 5) HT_ ?_; refine tkU_ 1 62 (tf 35 7) rfl rfl HT_ HW_ hHeld (by rintro w' ⟨s0, s1, s2, s3, s4, s5, s6, s7, s8, s9, s10⟩; go_simp; with_reducible rfl) ?_; refine puU_ 3 64 (tf 35 15) HT_ ?_; refine tkU_ 4 65 (tf 35 31) rfl rfl HT_ HW_ hHeld (by rintro w' ⟨s0, s1, s2, s3, s4, s5, s6, s7, s8, s9, s10⟩; go_simp; with_reducible rfl) ?_; refine puU_ 5 66 (tf 35 63) HT_ ?_; refine puU_ 6 67 (tf 35 127) HT_ ?_; refine puU_ 7 68 (tf 35 255) HT_ ?_; refine puU_ 9 70 (tf 35 767) HT_ ?_; refine puU_ 12 73 (tf 35 4863) HT_ ?_; refine tkU_ 8 69 (tf 35 5119) rfl rfl HT_ HW_ hHeld (by rintro w' ⟨s0, s1, s2, s3, s4, s5, s6, s7, s8, s9, s10⟩; go_simp; with_reducible rfl) ?_; refine puU_ 10 71 (tf 35 6143) HT_ ?_; refine tkU_ 11 72 (tf 35 8191) rfl rfl HT_ HW_ hHeld (by rintro w' ⟨s0, s1, s2, s3, s4, s5, s6, s7, s8, s9, s10⟩; go_simp; with_reducible rfl) ?_; refine tkU_ 13 74 (tf 35 16383) rfl rfl HT_ HW_ hHeld (by rintro w' ⟨s0, s1, s2, s3, s4, s5, s6, s7, s8, s9, s10⟩; go_simp; with_reducible rfl) ?_
              refine on_ (i := 14) (N := some 75) (tf 35 32767) HT_ (fun K hK => ?_)
              refine goes_ Try.func9 (by kernel_rfl) rfl #[.agg #[.int .u32 ad, .int .i64 ae]] (by rfl) rfl rfl am_ ?_
              with_reducible refine (lodgerref05_Many.calls k2 ad ae am _ A49.out).mono ?_
              rintro e w61 ⟨rfl, hb⟩
              refine ⟨_, rfl, ?_⟩
              replace aa := bB_ aa hb; replace HB := hS_ HB hb
              (try clear hb)
              (try clear hb2)
              (try clear hk)
              (try clear hi)
              refine hK.out _ _ ⟨(blk_cell aa.out 0).trans rfl, (blk_cell aa.out 1).trans rfl, (blk_cell aa.out 2).trans rfl, (blk_cell aa.out 3).trans rfl, (blk_cell aa.out 4).trans rfl, (blk_cell aa.out 5).trans rfl, (blk_cell aa.out 6).trans rfl, ((HB.out.cell (World.block_lt_of_cell? w _ hw294_0)).trans hw294_0), ((HB.out.cell (World.block_lt_of_cell? w _ hw295_0)).trans hw295_0), ((HB.out.cell (World.block_lt_of_cell? w _ hw297_0)).trans hw297_0), ((HB.out.cell (World.block_lt_of_cell? w _ hw298_0)).trans hw298_0)⟩ (fun hHeld => ?_)
              clear hK K
              refine norm_ (a' := ?_) ?_ ?_
              rotate_left
              ·show Act.put _ (some 75) _ = _
               simp only [Act.put, List.setIfInBounds_toArray, List.set_cons_zero, List.set_cons_succ, i64_w, i32_w]
               rfl
              refine puU_ 15 76 (tf 35 65535) HT_ ?_; refine puU_ 16 77 (tf 35 131071) HT_ ?_; refine puU_ 17 78 (tf 35 262143) HT_ ?_; refine puU_ 18 79 (tf 35 524287) HT_ ?_; refine puU_ 19 80 (tf 35 1048575) HT_ ?_; refine puU_ 20 81 (tf 35 2097151) HT_ ?_; refine puU_ 21 82 (tf 35 4194303) HT_ ?_; refine puU_ 23 84 (tf 35 12582911) HT_ ?_; refine puU_ 26 87 (tf 35 79691775) HT_ ?_; refine puU_ 28 89 (tf 35 348127231) HT_ ?_; refine puU_ 29 90 (tf 35 884998143) HT_ ?_; refine tkU_ 22 83 (tf 35 889192447) rfl rfl HT_ HW_ hHeld (by rintro w' ⟨s0, s1, s2, s3, s4, s5, s6, s7, s8, s9, s10⟩; go_simp; with_reducible rfl) ?_; refine puU_ 24 85 (tf 35 905969663) HT_ ?_; refine tkU_ 25 86 (tf 35 939524095) rfl rfl HT_ HW_ hHeld (by rintro w' ⟨s0, s1, s2, s3, s4, s5, s6, s7, s8, s9, s10⟩; go_simp; with_reducible rfl) ?_; refine tkU_ 27 88 (tf 35 1073741823) rfl rfl HT_ HW_ hHeld (by rintro w' ⟨s0, s1, s2, s3, s4, s5, s6, s7, s8, s9, s10⟩; go_simp; with_reducible rfl) ?_; refine puU_ 30 91 (tf 35 2147483647) HT_ ?_; refine tkU_ 31 92 (tf 35 4294967295) rfl rfl HT_ HW_ hHeld (by rintro w' ⟨s0, s1, s2, s3, s4, s5, s6, s7, s8, s9, s10⟩; go_simp; with_reducible rfl) ?_; refine puU_ 32 93 (tf 35 8589934591) HT_ ?_; refine puU_ 33 94 (tf 35 17179869183) HT_ ?_; refine puU_ 34 95 (tf 35 34359738367) HT_ ?_
              refine done_ (done_of HT_.out (by kernel_rfl)) ?_
              try go_wp2
              go_ret
              exact ⟨by first | rfl | (simp [errW_none, errW_some] <;> rfl) | (simp only [← hji55]; first | rfl | (simp [errW_none, errW_some] <;> rfl)) | (simp [*, errW_none, errW_some] <;> rfl), hB_ HB⟩
             ·rw [if_neg c58] at H
              have fb : decide ((rd ab ac) ≤ (rd ab (ji55))) = false := decide_eq_false c58
              clear c58
              have H' := Aside0.mk H
              clear H; obtain ⟨fx, fy, fz, fA, fB, fC, fD, gd, gf, gg, gh, gi, gj, gl⟩ := cz7_ (w := wr) aa
              try go_wp2
              replace aa := Aside0.mk (blk_drew aa.out); replace HB := Aside0.mk (below_drew1 HB.out)
              have p294 : 0 ≤ (ac : Int) := od_
              have q294 : ac < (ab.length : Int) := od_
              obtain ⟨ad294, e294, hx294_0⟩ := Kd.at_int aj.out ac p294 q294; have hw294_0 := hx294_0
              cases e294
              replace hx294_0 := (HB.out.cell (World.block_lt_of_cell? w _ hx294_0)).trans hx294_0; replace p294 := eq_true p294; replace q294 := eq_true q294
              have p295 : 0 ≤ (ac : Int) := od_
              have q295 : ac < (ab.length : Int) := od_
              obtain ⟨ad295, e295, hx295_0⟩ := Kd.at_int aj.out ac p295 q295; have hw295_0 := hx295_0
              obtain rfl : ad294 = ad295 := (by injection e295)
              replace hx295_0 := (HB.out.cell (World.block_lt_of_cell? w _ hx295_0)).trans hx295_0; replace p295 := eq_true p295; replace q295 := eq_true q295
              have p297 : 0 ≤ (ac : Int) := od_
              have q297 : ac < (ab.length : Int) := od_
              obtain ⟨ad297, e297, hx297_0⟩ := Kd.at_int aj.out ac p297 q297; have hw297_0 := hx297_0
              obtain rfl : ad294 = ad297 := (by injection e297)
              replace hx297_0 := (HB.out.cell (World.block_lt_of_cell? w _ hx297_0)).trans hx297_0; replace p297 := eq_true p297; replace q297 := eq_true q297
              have p298 : 0 ≤ ((ji55) : Int) := od_
              have q298 : (ji55) < (ab.length : Int) := od_
              obtain ⟨ad298, e298, hx298_0⟩ := Kd.at_int aj.out (ji55) p298 q298; have hw298_0 := hx298_0
              obtain rfl : ad294 = ad298 := (by injection e298)
              replace hx298_0 := (HB.out.cell (World.block_lt_of_cell? w _ hx298_0)).trans hx298_0; replace p298 := eq_true p298; replace q298 := eq_true q298
              refine start_ (n := 35) (S := fun w' => P7_ w' al (.int .u32 ad) (.int .i64 ae) (.slice (some ad294) ab.length ak) (.int .i64 af) (.int .i64 ag) (.int .i64 ah) (.int .i64 ai) (w'.cell? (ad294.add (ac).toNat) = some (.int .i64 (rd ab ac)) ∧ w'.cell? (ad294.add (ac).toNat) = some (.int .i64 (rd ab ac)) ∧ w'.cell? (ad294.add (ac).toNat) = some (.int .i64 (rd ab ac)) ∧ w'.cell? (ad294.add ((ji55)).toNat) = some (.int .i64 (rd ab (ji55))))) (ds := []) (tf 35 0) (by kernel_rfl) rfl rfl (ck7_ aa (⟨((HB.out.cell (World.block_lt_of_cell? w _ hw294_0)).trans hw294_0), ⟨((HB.out.cell (World.block_lt_of_cell? w _ hw295_0)).trans hw295_0), ⟨((HB.out.cell (World.block_lt_of_cell? w _ hw297_0)).trans hw297_0), ((HB.out.cell (World.block_lt_of_cell? w _ hw298_0)).trans hw298_0)⟩⟩⟩)) (fun hHeld => ?_); refine with_tabW lodgerref05_May.tab6 lodgerref05_May.bits6 (fun HT_ HW_ => ?_)
              generalize wr.drew = w63 at aa HB hx294_0 hx295_0 hx297_0 hx298_0 hHeld ⊢
              refine puU_ 0 61 (tf 35 1) HT_ ?_; refine puU_ 2 63 (tf 35 5) HT_ ?_; refine tkU_ 1 62 (tf 35 7) rfl rfl HT_ HW_ hHeld (by rintro w' ⟨s0, s1, s2, s3, s4, s5, s6, s7, s8, s9, s10⟩; go_simp; with_reducible rfl) ?_; refine puU_ 3 64 (tf 35 15) HT_ ?_; refine tkU_ 4 65 (tf 35 31) rfl rfl HT_ HW_ hHeld (by rintro w' ⟨s0, s1, s2, s3, s4, s5, s6, s7, s8, s9, s10⟩; go_simp; with_reducible rfl) ?_; refine puU_ 5 66 (tf 35 63) HT_ ?_; refine puU_ 6 67 (tf 35 127) HT_ ?_; refine puU_ 7 68 (tf 35 255) HT_ ?_; refine puU_ 9 70 (tf 35 767) HT_ ?_; refine puU_ 12 73 (tf 35 4863) HT_ ?_; refine tkU_ 8 69 (tf 35 5119) rfl rfl HT_ HW_ hHeld (by rintro w' ⟨s0, s1, s2, s3, s4, s5, s6, s7, s8, s9, s10⟩; go_simp; with_reducible rfl) ?_; refine puU_ 10 71 (tf 35 6143) HT_ ?_; refine tkU_ 11 72 (tf 35 8191) rfl rfl HT_ HW_ hHeld (by rintro w' ⟨s0, s1, s2, s3, s4, s5, s6, s7, s8, s9, s10⟩; go_simp; with_reducible rfl) ?_; refine tkU_ 13 74 (tf 35 16383) rfl rfl HT_ HW_ hHeld (by rintro w' ⟨s0, s1, s2, s3, s4, s5, s6, s7, s8, s9, s10⟩; go_simp; with_reducible rfl) ?_
              refine on_ (i := 14) (N := some 75) (tf 35 32767) HT_ (fun K hK => ?_)
              refine goes_ Try.func9 (by kernel_rfl) rfl #[.agg #[.int .u32 ad, .int .i64 ae]] (by rfl) rfl rfl am_ ?_
              with_reducible refine (lodgerref05_Many.calls k2 ad ae am _ A49.out).mono ?_
              rintro e w64 ⟨rfl, hb⟩
              refine ⟨_, rfl, ?_⟩
              replace aa := bB_ aa hb; replace HB := hS_ HB hb
              (try clear hb)
              (try clear hb2)
              (try clear hk)
              (try clear hi)
              refine hK.out _ _ ⟨(blk_cell aa.out 0).trans rfl, (blk_cell aa.out 1).trans rfl, (blk_cell aa.out 2).trans rfl, (blk_cell aa.out 3).trans rfl, (blk_cell aa.out 4).trans rfl, (blk_cell aa.out 5).trans rfl, (blk_cell aa.out 6).trans rfl, ((HB.out.cell (World.block_lt_of_cell? w _ hw294_0)).trans hw294_0), ((HB.out.cell (World.block_lt_of_cell? w _ hw295_0)).trans hw295_0), ((HB.out.cell (World.block_lt_of_cell? w _ hw297_0)).trans hw297_0), ((HB.out.cell (World.block_lt_of_cell? w _ hw298_0)).trans hw298_0)⟩ (fun hHeld => ?_)
              clear hK K
              refine norm_ (a' := ?_) ?_ ?_
              rotate_left
              ·show Act.put _ (some 75) _ = _
               simp only [Act.put, List.setIfInBounds_toArray, List.set_cons_zero, List.set_cons_succ, i64_w, i32_w]
               rfl
              refine puU_ 15 76 (tf 35 65535) HT_ ?_; refine puU_ 16 77 (tf 35 131071) HT_ ?_; refine puU_ 17 78 (tf 35 262143) HT_ ?_; refine puU_ 18 79 (tf 35 524287) HT_ ?_; refine puU_ 19 80 (tf 35 1048575) HT_ ?_; refine puU_ 20 81 (tf 35 2097151) HT_ ?_; refine puU_ 21 82 (tf 35 4194303) HT_ ?_; refine puU_ 23 84 (tf 35 12582911) HT_ ?_; refine puU_ 26 87 (tf 35 79691775) HT_ ?_; refine puU_ 28 89 (tf 35 348127231) HT_ ?_; refine puU_ 29 90 (tf 35 884998143) HT_ ?_; refine tkU_ 22 83 (tf 35 889192447) rfl rfl HT_ HW_ hHeld (by rintro w' ⟨s0, s1, s2, s3, s4, s5, s6, s7, s8, s9, s10⟩; go_simp; with_reducible rfl) ?_; refine puU_ 24 85 (tf 35 905969663) HT_ ?_; refine tkU_ 25 86 (tf 35 939524095) rfl rfl HT_ HW_ hHeld (by rintro w' ⟨s0, s1, s2, s3, s4, s5, s6, s7, s8, s9, s10⟩; go_simp; with_reducible rfl) ?_; refine tkU_ 27 88 (tf 35 1073741823) rfl rfl HT_ HW_ hHeld (by rintro w' ⟨s0, s1, s2, s3, s4, s5, s6, s7, s8, s9, s10⟩; go_simp; with_reducible rfl) ?_; refine puU_ 30 91 (tf 35 2147483647) HT_ ?_; refine tkU_ 31 92 (tf 35 4294967295) rfl rfl HT_ HW_ hHeld (by rintro w' ⟨s0, s1, s2, s3, s4, s5, s6, s7, s8, s9, s10⟩; go_simp; with_reducible rfl) ?_; refine puU_ 32 93 (tf 35 8589934591) HT_ ?_; refine puU_ 33 94 (tf 35 17179869183) HT_ ?_; refine puU_ 34 95 (tf 35 34359738367) HT_ ?_
              refine done_ (done_of HT_.out (by kernel_rfl)) ?_
              try go_wp2
              go_roundg k2
              case measure => have := e5.out; have := HK2.out; omega
              case rel => exact ⟨(wrap64 (ac + 1)), rs_, H', ⟨om2_ e5 HK2⟩, ⟨bk_ aa⟩, ⟨hB_ HB⟩⟩
            ·rw [if_neg c57] at H
             exact absurd H (by simp)
           ·rw [if_neg c56] at H
            exact absurd H (by simp)
          ·rw [if_neg c54] at H
           have fa : decide (0 < ac) = false := decide_eq_false c54
           clear c54
           have H' := Aside0.mk H
           clear H; obtain ⟨fE, fF, fG, fH, fI, fJ, fK, gm, gn, go, gp, gq, gr, gs⟩ := cz7_ (w := wr) aa
           try go_wp2
           replace aa := Aside0.mk (blk_drew aa.out); replace HB := Aside0.mk (below_drew1 HB.out)
           have p294 : 0 ≤ (ac : Int) := od_
           have q294 : ac < (ab.length : Int) := od_
           obtain ⟨ad294, e294, hx294_0⟩ := Kd.at_int aj.out ac p294 q294; have hw294_0 := hx294_0
           cases e294
           replace hx294_0 := (HB.out.cell (World.block_lt_of_cell? w _ hx294_0)).trans hx294_0; replace p294 := eq_true p294; replace q294 := eq_true q294
           have p295 : 0 ≤ (ac : Int) := od_
           have q295 : ac < (ab.length : Int) := od_
           obtain ⟨ad295, e295, hx295_0⟩ := Kd.at_int aj.out ac p295 q295; have hw295_0 := hx295_0
           obtain rfl : ad294 = ad295 := (by injection e295)
           replace hx295_0 := (HB.out.cell (World.block_lt_of_cell? w _ hx295_0)).trans hx295_0; replace p295 := eq_true p295; replace q295 := eq_true q295
           refine start_ (n := 35) (S := fun w' => P7_ w' al (.int .u32 ad) (.int .i64 ae) (.slice (some ad294) ab.length ak) (.int .i64 af) (.int .i64 ag) (.int .i64 ah) (.int .i64 ai) (w'.cell? (ad294.add (ac).toNat) = some (.int .i64 (rd ab ac)) ∧ w'.cell? (ad294.add (ac).toNat) = some (.int .i64 (rd ab ac)))) (ds := []) (tf 35 0) (by kernel_rfl) rfl rfl (ck7_ aa (⟨((HB.out.cell (World.block_lt_of_cell? w _ hw294_0)).trans hw294_0), ((HB.out.cell (World.block_lt_of_cell? w _ hw295_0)).trans hw295_0)⟩)) (fun hHeld => ?_); refine with_tabW lodgerref05_May.tab6 lodgerref05_May.bits6 (fun HT_ HW_ => ?_)
           generalize wr.drew = w66 at aa HB hx294_0 hx295_0 hHeld ⊢
           refine puU_ 0 61 (tf 35 1) HT_ ?_; refine puU_ 2 63 (tf 35 5) HT_ ?_; refine tkU_ 1 62 (tf 35 7) rfl rfl HT_ HW_ hHeld (by rintro w' ⟨s0, s1, s2, s3, s4, s5, s6, s7, s8⟩; go_simp; with_reducible rfl) ?_; refine puU_ 3 64 (tf 35 15) HT_ ?_; refine tkU_ 4 65 (tf 35 31) rfl rfl HT_ HW_ hHeld (by rintro w' ⟨s0, s1, s2, s3, s4, s5, s6, s7, s8⟩; go_simp; with_reducible rfl) ?_; refine puU_ 5 66 (tf 35 63) HT_ ?_; refine puU_ 6 67 (tf 35 127) HT_ ?_; refine puU_ 7 68 (tf 35 255) HT_ ?_; refine puU_ 9 70 (tf 35 767) HT_ ?_; refine puU_ 12 73 (tf 35 4863) HT_ ?_; refine tkU_ 8 69 (tf 35 5119) rfl rfl HT_ HW_ hHeld (by rintro w' ⟨s0, s1, s2, s3, s4, s5, s6, s7, s8⟩; go_simp; with_reducible rfl) ?_; refine puU_ 10 71 (tf 35 6143) HT_ ?_; refine tkU_ 11 72 (tf 35 8191) rfl rfl HT_ HW_ hHeld (by rintro w' ⟨s0, s1, s2, s3, s4, s5, s6, s7, s8⟩; go_simp; with_reducible rfl) ?_; refine tkU_ 13 74 (tf 35 16383) rfl rfl HT_ HW_ hHeld (by rintro w' ⟨s0, s1, s2, s3, s4, s5, s6, s7, s8⟩; go_simp; with_reducible rfl) ?_
           refine on_ (i := 14) (N := some 75) (tf 35 32767) HT_ (fun K hK => ?_)
           refine goes_ Try.func9 (by kernel_rfl) rfl #[.agg #[.int .u32 ad, .int .i64 ae]] (by rfl) rfl rfl am_ ?_
           with_reducible refine (lodgerref05_Many.calls k2 ad ae am _ A49.out).mono ?_
           rintro e w67 ⟨rfl, hb⟩
           refine ⟨_, rfl, ?_⟩
           replace aa := bB_ aa hb; replace HB := hS_ HB hb
           (try clear hb)
           (try clear hb2)
           (try clear hk)
           (try clear hi)
           refine hK.out _ _ ⟨(blk_cell aa.out 0).trans rfl, (blk_cell aa.out 1).trans rfl, (blk_cell aa.out 2).trans rfl, (blk_cell aa.out 3).trans rfl, (blk_cell aa.out 4).trans rfl, (blk_cell aa.out 5).trans rfl, (blk_cell aa.out 6).trans rfl, ((HB.out.cell (World.block_lt_of_cell? w _ hw294_0)).trans hw294_0), ((HB.out.cell (World.block_lt_of_cell? w _ hw295_0)).trans hw295_0)⟩ (fun hHeld => ?_)
           clear hK K
           refine norm_ (a' := ?_) ?_ ?_
           rotate_left
           ·show Act.put _ (some 75) _ = _
            simp only [Act.put, List.setIfInBounds_toArray, List.set_cons_zero, List.set_cons_succ, i64_w, i32_w]
            rfl
           refine puU_ 15 76 (tf 35 65535) HT_ ?_; refine puU_ 16 77 (tf 35 131071) HT_ ?_; refine puU_ 17 78 (tf 35 262143) HT_ ?_; refine puU_ 18 79 (tf 35 524287) HT_ ?_; refine puU_ 19 80 (tf 35 1048575) HT_ ?_; refine puU_ 20 81 (tf 35 2097151) HT_ ?_; refine pnU_ 21 82 (tf 35 4194303) HT_ ?_; refine pnU_ 22 83 (tf 35 8388607) HT_ ?_; refine pnU_ 23 84 (tf 35 16777215) HT_ ?_; refine pnU_ 24 85 (tf 35 33554431) HT_ ?_; refine pnU_ 25 86 (tf 35 67108863) HT_ ?_; refine pnU_ 26 87 (tf 35 134217727) HT_ ?_; refine pnU_ 27 88 (tf 35 268435455) HT_ ?_; refine pnU_ 28 89 (tf 35 536870911) HT_ ?_; refine pnU_ 29 90 (tf 35 1073741823) HT_ ?_; refine pnU_ 30 91 (tf 35 2147483647) HT_ ?_; refine pnU_ 31 92 (tf 35 4294967295) HT_ ?_; refine pnU_ 32 93 (tf 35 8589934591) HT_ ?_; refine puU_ 33 94 (tf 35 17179869183) HT_ ?_; refine puU_ 34 95 (tf 35 34359738367) HT_ ?_
           refine done_ (done_of HT_.out (by kernel_rfl)) ?_
           try go_wp2
           go_roundg k2
           case measure => have := e5.out; have := HK2.out; omega
           case rel => exact ⟨(wrap64 (ac + 1)), rs_, H', ⟨om2_ e5 HK2⟩, ⟨bk_ aa⟩, ⟨hB_ HB⟩⟩
       ·rw [if_neg c45] at H
        exact absurd H (by simp)
      ·rw [if_neg c44] at H
       have e7 : decide (ac < (ab.length : Int)) = false := decide_eq_false c44
       clear c44
       obtain rfl := Option.some.inj H
       obtain ⟨fL, fM, fN, fO, fP, fQ, fR, gt, gu, gv, gw, gx, gy, gz⟩ := cz7_ (w := wr) aa
       go_wp2
       go_ret
       exact ⟨er_, hB_ HB⟩

end Go.Proofs.Ytfhjeneegfmngaa.PSeekStays
