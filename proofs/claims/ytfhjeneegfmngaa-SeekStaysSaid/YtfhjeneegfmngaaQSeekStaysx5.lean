/- The walk of SeekStays, part of it: what the Go functions answer; no condition. -/
import Derived.Test.YtfhjeneegfmngaaQSeekStaysx0
import Derived.Test.YtfhjeneegfmngaaQSeekStaysx3
import Derived.Test.YtfhjeneegfmngaaQSeekStaysx4
namespace Go.Proofs.Ytfhjeneegfmngaa.PSeekStays
open Go.RowKit Go.Proofs.YtfhjeneegfmngaaW.PrintWords Go.Proofs.YtfhjeneegfmngaaW.PrintLast Go.Proofs.YtfhjeneegfmngaaW.PrintMore
attribute [local go_sem] max2_int min2_int max_two min_two max_three min_three max_four min_four   -- for this text's walks alone
set_option linter.unusedVariables false
set_option linter.unusedSimpArgs false

variable {tb_ : Int → Option Addr × Nat × Nat}

/-! ### lodgerref06_Leaves: function 12 -/
def lodgerref06_Leaves.l0 : Nat → Int → Int → Option (Int)
 | 0, _, _ => none
 | k + 1, x0, x3 => if (wrap64 (32 * x3)) < x0 then (lodgerref06_Leaves.l0 k x0 (wrap64 (x3 + 1))) else (some x3)
def lodgerref06_Leaves.f (k : Nat) (a0 : Int) : Option (Int) := lodgerref06_Leaves.l0 k a0 0
theorem lodgerref06_Leaves.mono_l : ∀ k, (∀ y0 y1, LeO (lodgerref06_Leaves.l0 k y0 y1) (lodgerref06_Leaves.l0 (k + 1) y0 y1))
 | 0 => fun _ _ r h => by simp [lodgerref06_Leaves.l0] at h
 | k + 1 => by
  have ih0 := lodgerref06_Leaves.mono_l k
  ·intro y0 y1
   unfold lodgerref06_Leaves.l0
   repeat' (with_reducible first | apply ih0 | exact LeO.refl _ | exact LeO.none _ | refine LeO.ite ?_ ?_ | refine LeO.bind ?_ (fun _ => ?_))
theorem lodgerref06_Leaves.mono : ∀ a0 k, LeO (lodgerref06_Leaves.f k a0) (lodgerref06_Leaves.f (k + 1) a0) := by
 intro a0 k
 have ih0 := lodgerref06_Leaves.mono_l k
 unfold lodgerref06_Leaves.f
 repeat' (with_reducible first | apply ih0 | exact LeO.refl _ | exact LeO.none _ | refine LeO.ite ?_ ?_ | refine LeO.bind ?_ (fun _ => ?_))
set_option maxHeartbeats 8000000 in
set_option maxRecDepth 100000 in
theorem lodgerref06_Leaves.calls (k : Nat) (a0 r : Int) (w : World) (h : lodgerref06_Leaves.f k a0 = some r) :
  Calls Try.prog 12 #[.int .i64 a0] w fun e w' => e = .returned (.int .i64 r) ∧ Drawn0 w w' := by
 have H : (lodgerref06_Leaves.l0 k a0 0) = some r := h
 clear h
 have H' := Aside0.mk H
 clear H
 go_enter Try.func12, Try.ntmps12
 go_wp2
 go_loopg [3] k (fun kq v3 w' => ∃ (aa : Int), v3 = .int .i64 aa ∧ Aside0 (lodgerref06_Leaves.l0 kq a0 aa = some r) ∧ Aside0 (kq ≤ k) ∧ Drawn0 w w')
 case atStart => exact ⟨(0), rs_, H', ⟨Nat.le_refl _⟩, dn_⟩
 case round =>
  clear H'
  try clear c1
  obtain ⟨aa, rfl, HA, HK1, ⟨m1, rfl⟩⟩ := hrel
  cases gk with
  | zero => exact absurd HA.out (by simp [lodgerref06_Leaves.l0])
  | succ k1 =>
   have H := HA.out; clear HA; simp only [lodgerref06_Leaves.l0] at H
   by_cases c2 : (wrap64 (32 * aa)) < a0
   ·rw [if_pos c2] at H
    have ab : decide ((wrap64 (32 * aa)) < a0) = true := decide_eq_true c2
    clear c2
    have H' := Aside0.mk H
    clear H
    go_wp2
    go_roundg k1
    case measure => have := HK1.out; omega
    case rel => exact ⟨(wrap64 (aa + 1)), rs_, H', ⟨om_ HK1⟩, dn_⟩
   ·rw [if_neg c2] at H
    have ab : decide ((wrap64 (32 * aa)) < a0) = false := decide_eq_false c2
    clear c2
    obtain rfl := Option.some.inj H
    go_wp2
    go_ret
    exact ⟨rs_, dn_⟩

/-! ### lodgerref06_Tops: function 10 -/
def lodgerref06_Tops.l0 : Nat → Int → Int → Option (Int)
 | 0, _, _ => none
 | k + 1, x0, x3 => (lodgerref06_Leaves.f k x0).bind fun t299 => (if (wrap64 (64 * x3)) < t299 then (lodgerref06_Tops.l0 k x0 (wrap64 (x3 + 1))) else (some x3))
def lodgerref06_Tops.f (k : Nat) (a0 : Int) : Option (Int) := lodgerref06_Tops.l0 k a0 0
theorem lodgerref06_Tops.mono_l : ∀ k, (∀ y0 y1, LeO (lodgerref06_Tops.l0 k y0 y1) (lodgerref06_Tops.l0 (k + 1) y0 y1))
 | 0 => fun _ _ r h => by simp [lodgerref06_Tops.l0] at h
 | k + 1 => by
  have ih0 := lodgerref06_Tops.mono_l k
  ·intro y0 y1
   unfold lodgerref06_Tops.l0
   repeat' (with_reducible first | apply ih0 | apply lodgerref06_Leaves.mono | exact LeO.refl _ | exact LeO.none _ | refine LeO.ite ?_ ?_ | refine LeO.bind ?_ (fun _ => ?_))
theorem lodgerref06_Tops.mono : ∀ a0 k, LeO (lodgerref06_Tops.f k a0) (lodgerref06_Tops.f (k + 1) a0) := by
 intro a0 k
 have ih0 := lodgerref06_Tops.mono_l k
 unfold lodgerref06_Tops.f
 repeat' (with_reducible first | apply ih0 | apply lodgerref06_Leaves.mono | exact LeO.refl _ | exact LeO.none _ | refine LeO.ite ?_ ?_ | refine LeO.bind ?_ (fun _ => ?_))
set_option maxHeartbeats 8000000 in
set_option maxRecDepth 100000 in
theorem lodgerref06_Tops.calls (k : Nat) (a0 r : Int) (w : World) (h : lodgerref06_Tops.f k a0 = some r) :
  Calls Try.prog 10 #[.int .i64 a0] w fun e w' => e = .returned (.int .i64 r) ∧ Drawn0 w w' := by
 have H : (lodgerref06_Tops.l0 k a0 0) = some r := h
 clear h
 have H' := Aside0.mk H
 clear H
 go_enter Try.func10, Try.ntmps10
 go_wp2
 go_loopg [3] k (fun kq v3 w' => ∃ (aa : Int), v3 = .int .i64 aa ∧ Aside0 (lodgerref06_Tops.l0 kq a0 aa = some r) ∧ Aside0 (kq ≤ k) ∧ Drawn0 w w')
 case atStart => exact ⟨(0), rs_, H', ⟨Nat.le_refl _⟩, dn_⟩
 case round =>
  clear H'
  try clear c1
  obtain ⟨aa, rfl, HA, HK1, ⟨m1, rfl⟩⟩ := hrel
  cases gk with
  | zero => exact absurd HA.out (by simp [lodgerref06_Tops.l0])
  | succ k1 =>
   have H := HA.out; clear HA; simp only [lodgerref06_Tops.l0] at H; replace H := bi_ H; obtain ⟨ab, A20, H⟩ := H
   replace H : (if (wrap64 (64 * aa)) < ab then (lodgerref06_Tops.l0 k1 a0 (wrap64 (aa + 1))) else (some aa)) = some r := H
   have A2 := Aside0.mk A20; clear A20
   by_cases c3 : (wrap64 (64 * aa)) < ab
   ·rw [if_pos c3] at H
    have ac : decide ((wrap64 (64 * aa)) < ab) = true := decide_eq_true c3
    clear c3
    have H' := Aside0.mk H
    clear H
    go_wp2_with (first | ((with_reducible refine gate_callee (f := 12) rfl ?_); refine goesL_ (some 7) rfl rfl Try.func12 (by kernel_rfl) rfl #[.int .i64 a0] rfl am_ ?_; (with_reducible refine (lodgerref06_Leaves.calls k1 a0 ab _ A2.out).mono ?_); rintro e w' ⟨rfl, ⟨nd, rfl⟩⟩; refine ⟨_, rfl, ?_⟩) | (go_at_call 12; (with_reducible refine (lodgerref06_Leaves.calls k1 a0 ab _ A2.out).mono ?_); rintro e w' ⟨rfl, ⟨nd, rfl⟩⟩))
    go_roundg k1
    case measure => have := HK1.out; omega
    case rel => exact ⟨(wrap64 (aa + 1)), rs_, H', ⟨om_ HK1⟩, dn_⟩
   ·rw [if_neg c3] at H
    have ac : decide ((wrap64 (64 * aa)) < ab) = false := decide_eq_false c3
    clear c3
    obtain rfl := Option.some.inj H
    go_wp2_with (first | ((with_reducible refine gate_callee (f := 12) rfl ?_); refine goesL_ (some 7) rfl rfl Try.func12 (by kernel_rfl) rfl #[.int .i64 a0] rfl am_ ?_; (with_reducible refine (lodgerref06_Leaves.calls k1 a0 ab _ A2.out).mono ?_); rintro e w' ⟨rfl, ⟨nd, rfl⟩⟩; refine ⟨_, rfl, ?_⟩) | (go_at_call 12; (with_reducible refine (lodgerref06_Leaves.calls k1 a0 ab _ A2.out).mono ?_); rintro e w' ⟨rfl, ⟨nd, rfl⟩⟩))
    go_ret
    exact ⟨rs_, dn_⟩

/-! ### lodgerref06_Cells: function 24 -/
def lodgerref06_Cells.f (k : Nat) (a0 : Int) : Option (Int) := (lodgerref06_Leaves.f k a0).bind fun t300 => ((lodgerref06_Tops.f k a0).bind fun t301 => (some (wrap64 ((wrap64 (t300 + t301)) + 1))))
theorem lodgerref06_Cells.mono : ∀ a0 k, LeO (lodgerref06_Cells.f k a0) (lodgerref06_Cells.f (k + 1) a0) := by
 intro a0 k
 unfold lodgerref06_Cells.f
 repeat' (with_reducible first | apply lodgerref06_Leaves.mono | apply lodgerref06_Tops.mono | exact LeO.refl _ | exact LeO.none _ | refine LeO.ite ?_ ?_ | refine LeO.bind ?_ (fun _ => ?_))
set_option maxHeartbeats 8000000 in
set_option maxRecDepth 100000 in
theorem lodgerref06_Cells.calls (k : Nat) (a0 r : Int) (w : World) (h : lodgerref06_Cells.f k a0 = some r) :
  Calls Try.prog 24 #[.int .i64 a0] w fun e w' => e = .returned (.int .i64 r) ∧ Drawn0 w w' := by
 have H : ((lodgerref06_Leaves.f k a0).bind fun ab => ((lodgerref06_Tops.f k a0).bind fun aa => (some (wrap64 ((wrap64 (ab + aa)) + 1))))) = some r := h
 clear h
 replace H := bi_ H
 obtain ⟨ab, A20, H⟩ := H
 replace H : ((lodgerref06_Tops.f k a0).bind fun aa => (some (wrap64 ((wrap64 (ab + aa)) + 1)))) = some r := H
 have A2 := Aside0.mk A20
 clear A20
 replace H := bi_ H
 obtain ⟨aa, A30, H⟩ := H
 replace H : (some (wrap64 ((wrap64 (ab + aa)) + 1))) = some r := H
 have A3 := Aside0.mk A30
 clear A30
 obtain rfl := Option.some.inj H
 go_enter Try.func24, Try.ntmps24
 go_wp2_with (first | ((with_reducible refine gate_callee (f := 12) rfl ?_); refine goesL_ (some 4) rfl rfl Try.func12 (by kernel_rfl) rfl #[.int .i64 a0] rfl am_ ?_; (with_reducible refine (lodgerref06_Leaves.calls k a0 ab _ A2.out).mono ?_); rintro e w' ⟨rfl, ⟨nd, rfl⟩⟩; refine ⟨_, rfl, ?_⟩) | ((with_reducible refine gate_callee (f := 10) rfl ?_); refine goesL_ (some 6) rfl rfl Try.func10 (by kernel_rfl) rfl #[.int .i64 a0] rfl am_ ?_; (with_reducible refine (lodgerref06_Tops.calls k a0 aa _ A3.out).mono ?_); rintro e w' ⟨rfl, ⟨nd, rfl⟩⟩; refine ⟨_, rfl, ?_⟩) | (go_at_call 12; (with_reducible refine (lodgerref06_Leaves.calls k a0 ab _ A2.out).mono ?_); rintro e w' ⟨rfl, ⟨nd, rfl⟩⟩) | (go_at_call 10; (with_reducible refine (lodgerref06_Tops.calls k a0 aa _ A3.out).mono ?_); rintro e w' ⟨rfl, ⟨nd, rfl⟩⟩))
 go_ret
 exact ⟨rs_, dn_⟩

/-! ### lodgerref08_Fits: function 8 -/
def lodgerref08_Fits.f (k : Nat) (a0_0 a0_1 : Int) (l0_2 : List Int) (a0_3 a0_4 : Int) (a0_5 a0_6 : Int) (l1 : List Int) : Option (Bool) := (lodgerref05_May.f k a0_0 a0_1 l0_2 a0_3 a0_4 a0_5 a0_6).bind fun t303 => (if t303 = true then ((lodgerref05_Many.f k a0_0 a0_1).bind fun t304 => (if t304 ≤ 4096 then ((lodgerref05_Many.f k a0_0 a0_1).bind fun t305 => ((lodgerref06_Cells.f k t305).bind fun t306 => (some ((l1.length : Int) == t306)))) else (some false))) else (some false))
theorem lodgerref08_Fits.mono : ∀ a0 a1 a2 a3 a4 a5 a6 a7 k, LeO (lodgerref08_Fits.f k a0 a1 a2 a3 a4 a5 a6 a7) (lodgerref08_Fits.f (k + 1) a0 a1 a2 a3 a4 a5 a6 a7) := by
 intro a0 a1 a2 a3 a4 a5 a6 a7 k
 unfold lodgerref08_Fits.f
 repeat' (with_reducible first | apply lodgerref05_Many.mono | apply lodgerref05_May.mono | apply lodgerref06_Cells.mono | exact LeO.refl _ | exact LeO.none _ | refine LeO.ite ?_ ?_ | refine LeO.bind ?_ (fun _ => ?_))
set_option maxHeartbeats 8000000 in
set_option maxRecDepth 100000 in
theorem lodgerref08_Fits.calls (k : Nat) (ab ac : Int) (al : Option Addr) (am : Nat) (ad : List Int) (af ag : Int) (ah ai : Int) (A1 : Option Addr) (c1 : Nat) (l1 : List Int) (r : Bool) (w : World) (hr0_2 : Kd.C (Kd.int .i64) w al ad.length ad) (hc0_2 : ad.length ≤ am) (hr1 : Kd.C (Kd.int .u64) w A1 l1.length l1) (hc1 : l1.length ≤ c1) (h : lodgerref08_Fits.f k ab ac ad af ag ah ai l1 = some r) :
  Calls Try.prog 8 #[.agg #[.int .u32 ab, .int .i64 ac, .slice al ad.length am, .int .i64 af, .int .i64 ag, .int .i64 ah, .int .i64 ai], .slice A1 l1.length c1] w fun e w' => e = .returned (.bool r) ∧ Below w.heap.size w w' := by
 have hu27 := Try.underlying27
 have hu24 := Try.underlying24
 have ao := Aside0.mk hr0_2
 have an := Aside0.mk hc0_2
 clear hr0_2 hc0_2
 have bU := Aside0.mk hr1
 have bT := Aside0.mk hc1
 clear hr1 hc1
 have HB := Aside0.mk (Below.refl w.heap.size w)
 have H : ((lodgerref05_May.f k ab ac ad af ag ah ai).bind fun ap => (if ap = true then ((lodgerref05_Many.f k ab ac).bind fun ae => (if ae ≤ 4096 then ((lodgerref05_Many.f k ab ac).bind fun ak => ((lodgerref06_Cells.f k ak).bind fun aj => (some ((l1.length : Int) == aj)))) else (some false))) else (some false))) = some r := h
 clear h
 replace H := bi_ H
 obtain ⟨ap, A30, H⟩ := H
 replace H : (if ap = true then ((lodgerref05_Many.f k ab ac).bind fun ae => (if ae ≤ 4096 then ((lodgerref05_Many.f k ab ac).bind fun ak => ((lodgerref06_Cells.f k ak).bind fun aj => (some ((l1.length : Int) == aj)))) else (some false))) else (some false)) = some r := H
 have A3 := Aside0.mk A30
 clear A30
 by_cases c4 : ap = true
 ·subst c4
  have H1 : ((lodgerref05_Many.f k ab ac).bind fun ae => (if ae ≤ 4096 then ((lodgerref05_Many.f k ab ac).bind fun ak => ((lodgerref06_Cells.f k ak).bind fun aj => (some ((l1.length : Int) == aj)))) else (some false))) = some r := pf_ rfl H
  clear H; have H := H1; clear H1; replace H := bi_ H; obtain ⟨ae, A50, H⟩ := H
  replace H : (if ae ≤ 4096 then ((lodgerref05_Many.f k ab ac).bind fun ak => ((lodgerref06_Cells.f k ak).bind fun aj => (some ((l1.length : Int) == aj)))) else (some false)) = some r := H
  have A5 := Aside0.mk A50; clear A50
  by_cases c6 : ae ≤ 4096
  ·rw [if_pos c6] at H
   have av : decide (ae ≤ 4096) = true := decide_eq_true c6
   clear c6; replace H := bi_ H; obtain ⟨ak, A70, H⟩ := H
   replace H : ((lodgerref06_Cells.f k ak).bind fun aj => (some ((l1.length : Int) == aj))) = some r := H
   have A7 := Aside0.mk A70; clear A70; have E_ := A5.out.symm.trans A7.out; replace E_ := Option.some.inj E_; subst E_; replace H := bi_ H; obtain ⟨aj, A80, H⟩ := H
   replace H : (some ((l1.length : Int) == aj)) = some r := H
   have A8 := Aside0.mk A80; clear A80
   obtain rfl := Option.some.inj H
   go_enter Try.func8, Try.ntmps8
   go_wp2_with (first | ((with_reducible refine gd_ 2 ?_); (try (refine gate_guard (by rfl) ?_; dsimp only)); refine bx_ (N := 2) (cs := #[.int .u32 ab, .int .i64 ac, .slice al ad.length am, .int .i64 af, .int .i64 ag, .int .i64 ah, .int .i64 ai]) (t := 27) ?_; intro au hg w9 aa hb; have ar := gG_ hg HB; have aq := gG_ hg HB; replace HB := hS_ HB hb; clear hb hg; obtain ⟨aw, ax, ay, az, aA, aB, aC, bc, bd, be, bf, bg, bh, bi⟩ := cz7_ (w := w9) aa) | ((with_reducible refine gate_callee (f := 23) rfl ?_); refine goesL_ (some 6) rfl rfl Try.func23 (by kernel_rfl) rfl #[.agg #[.int .u32 ab, .int .i64 ac, .slice al ad.length am, .int .i64 af, .int .i64 ag, .int .i64 ah, .int .i64 ai]] rfl am_ ?_; (with_reducible refine (lodgerref05_May.calls k ab ac _ _ ad af ag ah ai true _ ?side1 ?side2 A3.out).mono ?_); (case side1 => exact cC_ ao HB); (case side2 => exact an.out); rintro e w11 ⟨rfl, hb⟩; refine ⟨_, rfl, ?_⟩; replace HB := hS_ HB hb; replace aa := bB_ aa hb; (try clear hb); obtain ⟨aD, aE, aF, aG, aH, aI, aJ, bj, bk, bl, bm, bn, bo, bp⟩ := cz7_ (w := w11) aa) | (go_at_call 9; (with_reducible refine (lodgerref05_Many.calls k ab ac ae _ A5.out).mono ?_); rintro e w13 ⟨rfl, hb⟩; replace HB := hS_ HB hb; replace aa := bB_ aa hb; (try clear hb); obtain ⟨aK, aL, aM, aN, aO, aP, aQ, bq, br, bs, bt, bu, bv, bw⟩ := cz7_ (w := w13) aa) | (go_at_call 9; (with_reducible refine (lodgerref05_Many.calls k ab ac ae _ A7.out).mono ?_); rintro e w15 ⟨rfl, hb⟩; replace HB := hS_ HB hb; replace aa := bB_ aa hb; (try clear hb)) | (go_at_call 24; (with_reducible refine (lodgerref06_Cells.calls k ae aj _ A8.out).mono ?_); rintro e w' ⟨rfl, ⟨nd, rfl⟩⟩))
   go_ret
   exact ⟨er_, hB_ HB⟩
  ·rw [if_neg c6] at H
   have av : decide (ae ≤ 4096) = false := decide_eq_false c6
   clear c6
   obtain rfl := Option.some.inj H
   go_enter Try.func8, Try.ntmps8
   go_wp2_with (first | ((with_reducible refine gd_ 2 ?_); (try (refine gate_guard (by rfl) ?_; dsimp only)); refine bx_ (N := 2) (cs := #[.int .u32 ab, .int .i64 ac, .slice al ad.length am, .int .i64 af, .int .i64 ag, .int .i64 ah, .int .i64 ai]) (t := 27) ?_; intro au hg w16 aa hb; have ar := gG_ hg HB; have aq := gG_ hg HB; replace HB := hS_ HB hb; clear hb hg; obtain ⟨aR, aS, aT, aU, aV, aW, aX, bx, bz, bA, bB, bC, bD, bE⟩ := cz7_ (w := w16) aa) | ((with_reducible refine gate_callee (f := 23) rfl ?_); refine goesL_ (some 6) rfl rfl Try.func23 (by kernel_rfl) rfl #[.agg #[.int .u32 ab, .int .i64 ac, .slice al ad.length am, .int .i64 af, .int .i64 ag, .int .i64 ah, .int .i64 ai]] rfl am_ ?_; (with_reducible refine (lodgerref05_May.calls k ab ac _ _ ad af ag ah ai true _ ?side1 ?side2 A3.out).mono ?_); (case side1 => exact cC_ ao HB); (case side2 => exact an.out); rintro e w18 ⟨rfl, hb⟩; refine ⟨_, rfl, ?_⟩; replace HB := hS_ HB hb; replace aa := bB_ aa hb; (try clear hb); obtain ⟨aY, aZ, a0, a1, a2, a3, a4, bF, bG, bH, bI, bJ, bK, bL⟩ := cz7_ (w := w18) aa) | (go_at_call 9; (with_reducible refine (lodgerref05_Many.calls k ab ac ae _ A5.out).mono ?_); rintro e w20 ⟨rfl, hb⟩; replace HB := hS_ HB hb; replace aa := bB_ aa hb; (try clear hb)))
   go_ret
   exact ⟨er_, hB_ HB⟩
 ·replace c4 := Bool.eq_false_iff.mpr c4
  subst c4
  have H1 : (some false) = some r := nf_ H
  clear H; have H := H1; clear H1
  obtain rfl := Option.some.inj H
  go_enter Try.func8, Try.ntmps8
  go_wp2_with (first | ((with_reducible refine gd_ 2 ?_); (try (refine gate_guard (by rfl) ?_; dsimp only)); refine bx_ (N := 2) (cs := #[.int .u32 ab, .int .i64 ac, .slice al ad.length am, .int .i64 af, .int .i64 ag, .int .i64 ah, .int .i64 ai]) (t := 27) ?_; intro au hg w21 aa hb; have ar := gG_ hg HB; have aq := gG_ hg HB; replace HB := hS_ HB hb; clear hb hg; obtain ⟨a5, a6, a7, a8, a9, ba, bb, bM, bN, bO, bP, bQ, bR, bS⟩ := cz7_ (w := w21) aa) | ((with_reducible refine gate_callee (f := 23) rfl ?_); refine goesL_ (some 6) rfl rfl Try.func23 (by kernel_rfl) rfl #[.agg #[.int .u32 ab, .int .i64 ac, .slice al ad.length am, .int .i64 af, .int .i64 ag, .int .i64 ah, .int .i64 ai]] rfl am_ ?_; (with_reducible refine (lodgerref05_May.calls k ab ac _ _ ad af ag ah ai false _ ?side1 ?side2 A3.out).mono ?_); (case side1 => exact cC_ ao HB); (case side2 => exact an.out); rintro e w23 ⟨rfl, hb⟩; refine ⟨_, rfl, ?_⟩; replace HB := hS_ HB hb; (try clear hb)))
  go_ret
  exact ⟨er_, hB_ HB⟩

end Go.Proofs.Ytfhjeneegfmngaa.PSeekStays
