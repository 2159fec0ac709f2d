/- The walk of SeekFull, part of it: what the Go functions answer; no condition. -/
import Derived.Test.YtfhjeneegfmngaaQSeekFullx0
import Derived.Test.YtfhjeneegfmngaaQSeekFullx3
import Derived.Test.YtfhjeneegfmngaaQSeekFullx4
namespace Go.Proofs.Ytfhjeneegfmngaa.PSeekFull
open Go.RowKit Go.Proofs.YtfhjeneegfmngaaW.PrintWords Go.Proofs.YtfhjeneegfmngaaW.PrintLast Go.Proofs.YtfhjeneegfmngaaW.PrintMore
attribute [local go_sem] max2_int min2_int max_two min_two max_three min_three max_four min_four   -- for this text's walks alone
set_option linter.unusedVariables false
set_option linter.unusedSimpArgs false

variable {tb_ : Int → Option Addr × Nat × Nat}

/-! ### lodgerref06_Leaves: function 12 -/
def lodgerref06_Leaves.l0 : Nat → Int → Int → Option (Int)
 | 0, _, _ => none
 | k + 1, x0, x3 => if (wrap64 (32 * x3)) < x0 then (lodgerref06_Leaves.l0 k x0 (wrap64 (x3 + 1))) else (some x3)
def lodgerref06_Leaves.f (k : Nat) (a0 : Int) : Option (Int) := lodgerref06_Leaves.l0 k a0 0
theorem lodgerref06_Leaves.mono_l : ∀ k, (∀ y0 y1, LeO (lodgerref06_Leaves.l0 k y0 y1) (lodgerref06_Leaves.l0 (k + 1) y0 y1))
 | 0 => fun _ _ r h => by simp [lodgerref06_Leaves.l0] at h
 | k + 1 => by
  have ih0 := lodgerref06_Leaves.mono_l k
  ·intro y0 y1
   unfold lodgerref06_Leaves.l0
   repeat' (with_reducible first | apply ih0 | exact LeO.refl _ | exact LeO.none _ | refine LeO.ite ?_ ?_ | refine LeO.bind ?_ (fun _ => ?_))
theorem lodgerref06_Leaves.mono : ∀ a0 k, LeO (lodgerref06_Leaves.f k a0) (lodgerref06_Leaves.f (k + 1) a0) := by
 intro a0 k
 have ih0 := lodgerref06_Leaves.mono_l k
 unfold lodgerref06_Leaves.f
 repeat' (with_reducible first | apply ih0 | exact LeO.refl _ | exact LeO.none _ | refine LeO.ite ?_ ?_ | refine LeO.bind ?_ (fun _ => ?_))
set_option maxHeartbeats 8000000 in
set_option maxRecDepth 100000 in
theorem lodgerref06_Leaves.calls (k : Nat) (a0 r : Int) (w : World) (h : lodgerref06_Leaves.f k a0 = some r) :
  Calls Try.prog 12 #[.int .i64 a0] w fun e w' => e = .returned (.int .i64 r) ∧ Drawn0 w w' := by
 have H : (lodgerref06_Leaves.l0 k a0 0) = some r := h
 clear h
 have H' := Aside0.mk H
 clear H
 go_enter Try.func12, Try.ntmps12
 go_wp2
 go_loopg [3] k (fun kq v3 w' => ∃ (aa : Int), v3 = .int .i64 aa ∧ Aside0 (lodgerref06_Leaves.l0 kq a0 aa = some r) ∧ Aside0 (kq ≤ k) ∧ Drawn0 w w')
 case atStart => exact ⟨(0), rs_, H', ⟨Nat.le_refl _⟩, dn_⟩
 case round =>
  clear H'
  try clear c1
  obtain ⟨aa, rfl, HA, HK1, ⟨m1, rfl⟩⟩ := hrel
  cases gk with
  | zero => exact absurd HA.out (by simp [lodgerref06_Leaves.l0])
  | succ k1 =>
   have H := HA.out; clear HA; simp only [lodgerref06_Leaves.l0] at H
   by_cases c2 : (wrap64 (32 * aa)) < a0
   ·rw [if_pos c2] at H
    have ab : decide ((wrap64 (32 * aa)) < a0) = true := decide_eq_true c2
    clear c2
    have H' := Aside0.mk H
    clear H
    go_wp2
    go_roundg k1
    case measure => have := HK1.out; omega
    case rel => exact ⟨(wrap64 (aa + 1)), rs_, H', ⟨om_ HK1⟩, dn_⟩
   ·rw [if_neg c2] at H
    have ab : decide ((wrap64 (32 * aa)) < a0) = false := decide_eq_false c2
    clear c2
    obtain rfl := Option.some.inj H
    go_wp2
    go_ret
    exact ⟨rs_, dn_⟩

/-! ### lodgerref06_Tops: function 10 -/
def lodgerref06_Tops.l0 : Nat → Int → Int → Option (Int)
 | 0, _, _ => none
 | k + 1, x0, x3 => (lodgerref06_Leaves.f k x0).bind fun t299 => (if (wrap64 (64 * x3)) < t299 then (lodgerref06_Tops.l0 k x0 (wrap64 (x3 + 1))) else (some x3))
def lodgerref06_Tops.f (k : Nat) (a0 : Int) : Option (Int) := lodgerref06_Tops.l0 k a0 0
theorem lodgerref06_Tops.mono_l : ∀ k, (∀ y0 y1, LeO (lodgerref06_Tops.l0 k y0 y1) (lodgerref06_Tops.l0 (k + 1) y0 y1))
 | 0 => fun _ _ r h => by simp [lodgerref06_Tops.l0] at h
 | k + 1 => by
  have ih0 := lodgerref06_Tops.mono_l k
  ·intro y0 y1
   unfold lodgerref06_Tops.l0
   repeat' (with_reducible first | apply ih0 | apply lodgerref06_Leaves.mono | exact LeO.refl _ | exact LeO.none _ | refine LeO.ite ?_ ?_ | refine LeO.bind ?_ (fun _ => ?_))
theorem lodgerref06_Tops.mono : ∀ a0 k, LeO (lodgerref06_Tops.f k a0) (lodgerref06_Tops.f (k + 1) a0) := by
 intro a0 k
 have ih0 := lodgerref06_Tops.mono_l k
 unfold lodgerref06_Tops.f
 repeat' (with_reducible first | apply ih0 | apply lodgerref06_Leaves.mono | exact LeO.refl _ | exact LeO.none _ | refine LeO.ite ?_ ?_ | refine LeO.bind ?_ (fun _ => ?_))
set_option maxHeartbeats 8000000 in
set_option maxRecDepth 100000 in
theorem lodgerref06_Tops.calls (k : Nat) (a0 r : Int) (w : World) (h : lodgerref06_Tops.f k a0 = some r) :
  Calls Try.prog 10 #[.int .i64 a0] w fun e w' => e = .returned (.int .i64 r) ∧ Drawn0 w w' := by
 have H : (lodgerref06_Tops.l0 k a0 0) = some r := h
 clear h
 have H' := Aside0.mk H
 clear H
 go_enter Try.func10, Try.ntmps10
 go_wp2
 go_loopg [3] k (fun kq v3 w' => ∃ (aa : Int), v3 = .int .i64 aa ∧ Aside0 (lodgerref06_Tops.l0 kq a0 aa = some r) ∧ Aside0 (kq ≤ k) ∧ Drawn0 w w')
 case atStart => exact ⟨(0), rs_, H', ⟨Nat.le_refl _⟩, dn_⟩
 case round =>
  clear H'
  try clear c1
  obtain ⟨aa, rfl, HA, HK1, ⟨m1, rfl⟩⟩ := hrel
  cases gk with
  | zero => exact absurd HA.out (by simp [lodgerref06_Tops.l0])
  | succ k1 =>
   have H := HA.out; clear HA; simp only [lodgerref06_Tops.l0] at H; replace H := bi_ H; obtain ⟨ab, A20, H⟩ := H
   replace H : (if (wrap64 (64 * aa)) < ab then (lodgerref06_Tops.l0 k1 a0 (wrap64 (aa + 1))) else (some aa)) = some r := H
   have A2 := Aside0.mk A20; clear A20
   by_cases c3 : (wrap64 (64 * aa)) < ab
   ·rw [if_pos c3] at H
    have ac : decide ((wrap64 (64 * aa)) < ab) = true := decide_eq_true c3
    clear c3
    have H' := Aside0.mk H
    clear H
    go_wp2_with (first | ((with_reducible refine gate_callee (f := 12) rfl ?_); refine goesL_ (some 7) rfl rfl Try.func12 (by kernel_rfl) rfl #[.int .i64 a0] rfl am_ ?_; (with_reducible refine (lodgerref06_Leaves.calls k1 a0 ab _ A2.out).mono ?_); rintro e w' ⟨rfl, ⟨nd, rfl⟩⟩; refine ⟨_, rfl, ?_⟩) | (go_at_call 12; (with_reducible refine (lodgerref06_Leaves.calls k1 a0 ab _ A2.out).mono ?_); rintro e w' ⟨rfl, ⟨nd, rfl⟩⟩))
    go_roundg k1
    case measure => have := HK1.out; omega
    case rel => exact ⟨(wrap64 (aa + 1)), rs_, H', ⟨om_ HK1⟩, dn_⟩
   ·rw [if_neg c3] at H
    have ac : decide ((wrap64 (64 * aa)) < ab) = false := decide_eq_false c3
    clear c3
    obtain rfl := Option.some.inj H
    go_wp2_with (first | ((with_reducible refine gate_callee (f := 12) rfl ?_); refine goesL_ (some 7) rfl rfl Try.func12 (by kernel_rfl) rfl #[.int .i64 a0] rfl am_ ?_; (with_reducible refine (lodgerref06_Leaves.calls k1 a0 ab _ A2.out).mono ?_); rintro e w' ⟨rfl, ⟨nd, rfl⟩⟩; refine ⟨_, rfl, ?_⟩) | (go_at_call 12; (with_reducible refine (lodgerref06_Leaves.calls k1 a0 ab _ A2.out).mono ?_); rintro e w' ⟨rfl, ⟨nd, rfl⟩⟩))
    go_ret
    exact ⟨rs_, dn_⟩

/-! ### lodgerref06_Cells: function 24 -/
def lodgerref06_Cells.f (k : Nat) (a0 : Int) : Option (Int) := (lodgerref06_Leaves.f k a0).bind fun t300 => ((lodgerref06_Tops.f k a0).bind fun t301 => (some (wrap64 ((wrap64 (t300 + t301)) + 1))))
theorem lodgerref06_Cells.mono : ∀ a0 k, LeO (lodgerref06_Cells.f k a0) (lodgerref06_Cells.f (k + 1) a0) := by
 intro a0 k
 unfold lodgerref06_Cells.f
 repeat' (with_reducible first | apply lodgerref06_Leaves.mono | apply lodgerref06_Tops.mono | exact LeO.refl _ | exact LeO.none _ | refine LeO.ite ?_ ?_ | refine LeO.bind ?_ (fun _ => ?_))
set_option maxHeartbeats 8000000 in
set_option maxRecDepth 100000 in
theorem lodgerref06_Cells.calls (k : Nat) (a0 r : Int) (w : World) (h : lodgerref06_Cells.f k a0 = some r) :
  Calls Try.prog 24 #[.int .i64 a0] w fun e w' => e = .returned (.int .i64 r) ∧ Drawn0 w w' := by
 have H : ((lodgerref06_Leaves.f k a0).bind fun ab => ((lodgerref06_Tops.f k a0).bind fun aa => (some (wrap64 ((wrap64 (ab + aa)) + 1))))) = some r := h
 clear h
 replace H := bi_ H
 obtain ⟨ab, A20, H⟩ := H
 replace H : ((lodgerref06_Tops.f k a0).bind fun aa => (some (wrap64 ((wrap64 (ab + aa)) + 1)))) = some r := H
 have A2 := Aside0.mk A20
 clear A20
 replace H := bi_ H
 obtain ⟨aa, A30, H⟩ := H
 replace H : (some (wrap64 ((wrap64 (ab + aa)) + 1))) = some r := H
 have A3 := Aside0.mk A30
 clear A30
 obtain rfl := Option.some.inj H
 go_enter Try.func24, Try.ntmps24
 go_wp2_with (first | ((with_reducible refine gate_callee (f := 12) rfl ?_); refine goesL_ (some 4) rfl rfl Try.func12 (by kernel_rfl) rfl #[.int .i64 a0] rfl am_ ?_; (with_reducible refine (lodgerref06_Leaves.calls k a0 ab _ A2.out).mono ?_); rintro e w' ⟨rfl, ⟨nd, rfl⟩⟩; refine ⟨_, rfl, ?_⟩) | ((with_reducible refine gate_callee (f := 10) rfl ?_); refine goesL_ (some 6) rfl rfl Try.func10 (by kernel_rfl) rfl #[.int .i64 a0] rfl am_ ?_; (with_reducible refine (lodgerref06_Tops.calls k a0 aa _ A3.out).mono ?_); rintro e w' ⟨rfl, ⟨nd, rfl⟩⟩; refine ⟨_, rfl, ?_⟩) | (go_at_call 12; (with_reducible refine (lodgerref06_Leaves.calls k a0 ab _ A2.out).mono ?_); rintro e w' ⟨rfl, ⟨nd, rfl⟩⟩) | (go_at_call 10; (with_reducible refine (lodgerref06_Tops.calls k a0 aa _ A3.out).mono ?_); rintro e w' ⟨rfl, ⟨nd, rfl⟩⟩))
 go_ret
 exact ⟨rs_, dn_⟩

/-! ### lodgerref08_Fits: function 8 -/
def lodgerref08_Fits.f (k : Nat) (a0_0 a0_1 : Int) (l0_2 : List Int) (a0_3 a0_4 : Int) (a0_5 a0_6 : Int) (l1 : List Int) : Option (Bool) := (lodgerref05_May.f k a0_0 a0_1 l0_2 a0_3 a0_4 a0_5 a0_6).bind fun t303 => (if t303 = true then ((lodgerref05_Many.f k a0_0 a0_1).bind fun t304 => (if t304 ≤ 4096 then ((lodgerref05_Many.f k a0_0 a0_1).bind fun t305 => ((lodgerref06_Cells.f k t305).bind fun t306 => (some ((l1.length : Int) == t306)))) else (some false))) else (some false))
theorem lodgerref08_Fits.mono : ∀ a0 a1 a2 a3 a4 a5 a6 a7 k, LeO (lodgerref08_Fits.f k a0 a1 a2 a3 a4 a5 a6 a7) (lodgerref08_Fits.f (k + 1) a0 a1 a2 a3 a4 a5 a6 a7) := by
 intro a0 a1 a2 a3 a4 a5 a6 a7 k
 unfold lodgerref08_Fits.f
 repeat' (with_reducible first | apply lodgerref05_Many.mono | apply lodgerref05_May.mono | apply lodgerref06_Cells.mono | exact LeO.refl _ | exact LeO.none _ | refine LeO.ite ?_ ?_ | refine LeO.bind ?_ (fun _ => ?_))
set_option maxHeartbeats 8000000 in
set_option maxRecDepth 100000 in
theorem lodgerref08_Fits.calls (k : Nat) (ab ac : Int) (al : Option Addr) (am : Nat) (ad : List Int) (af ag : Int) (ah ai : Int) (A1 : Option Addr) (c1 : Nat) (l1 : List Int) (r : Bool) (w : World) (hr0_2 : Kd.C (Kd.int .i64) w al ad.length ad) (hc0_2 : ad.length ≤ am) (hr1 : Kd.C (Kd.int .u64) w A1 l1.length l1) (hc1 : l1.length ≤ c1) (h : lodgerref08_Fits.f k ab ac ad af ag ah ai l1 = some r) :
  Calls Try.prog 8 #[.agg #[.int .u32 ab, .int .i64 ac, .slice al ad.length am, .int .i64 af, .int .i64 ag, .int .i64 ah, .int .i64 ai], .slice A1 l1.length c1] w fun e w' => e = .returned (.bool r) ∧ Below w.heap.size w w' := by
 have hu27 := Try.underlying27
 have hu24 := Try.underlying24
 have ao := Aside0.mk hr0_2
 have an := Aside0.mk hc0_2
 clear hr0_2 hc0_2
 have bU := Aside0.mk hr1
 have bT := Aside0.mk hc1
 clear hr1 hc1
 have HB := Aside0.mk (Below.refl w.heap.size w)
 have H : ((lodgerref05_May.f k ab ac ad af ag ah ai).bind fun ap => (if ap = true then ((lodgerref05_Many.f k ab ac).bind fun ae => (if ae ≤ 4096 then ((lodgerref05_Many.f k ab ac).bind fun ak => ((lodgerref06_Cells.f k ak).bind fun aj => (some ((l1.length : Int) == aj)))) else (some false))) else (some false))) = some r := h
 clear h
 replace H := bi_ H
 obtain ⟨ap, A30, H⟩ := H
 replace H : (if ap = true then ((lodgerref05_Many.f k ab ac).bind fun ae => (if ae ≤ 4096 then ((lodgerref05_Many.f k ab ac).bind fun ak => ((lodgerref06_Cells.f k ak).bind fun aj => (some ((l1.length : Int) == aj)))) else (some false))) else (some false)) = some r := H
 have A3 := Aside0.mk A30
 clear A30
 by_cases c4 : ap = true
 ·subst c4
  have H1 : ((lodgerref05_Many.f k ab ac).bind fun ae => (if ae ≤ 4096 then ((lodgerref05_Many.f k ab ac).bind fun ak => ((lodgerref06_Cells.f k ak).bind fun aj => (some ((l1.length : Int) == aj)))) else (some false))) = some r := pf_ rfl H
  clear H; have H := H1; clear H1; replace H := bi_ H; obtain ⟨ae, A50, H⟩ := H
  replace H : (if ae ≤ 4096 then ((lodgerref05_Many.f k ab ac).bind fun ak => ((lodgerref06_Cells.f k ak).bind fun aj => (some ((l1.length : Int) == aj)))) else (some false)) = some r := H
  have A5 := Aside0.mk A50; clear A50
  by_cases c6 : ae ≤ 4096
  ·rw [if_pos c6] at H
   have av : decide (ae ≤ 4096) = true := decide_eq_true c6
   clear c6; replace H := bi_ H; obtain ⟨ak, A70, H⟩ := H
   replace H : ((lodgerref06_Cells.f k ak).bind fun aj => (some ((l1.length : Int) == aj))) = some r := H
   have A7 := Aside0.mk A70; clear A70; have E_ := A5.out.symm.trans A7.out; replace E_ := Option.some.inj E_; subst E_; replace H := bi_ H; obtain ⟨aj, A80, H⟩ := H
   replace H : (some ((l1.length : Int) == aj)) = some r := H
   have A8 := Aside0.mk A80; clear A80
   obtain rfl := Option.some.inj H
   go_enter Try.func8, Try.ntmps8
   go_wp2_with (first | ((with_reducible refine gd_ 2 ?_); (try (refine gate_guard (by rfl) ?_; dsimp only)); refine bx_ (N := 2) (cs := #[.int .u32 ab, .int .i64 ac, .slice al ad.length am, .int .i64 af, .int .i64 ag, .int .i64 ah, .int .i64 ai]) (t := 27) ?_; intro au hg w9 aa hb; have ar := gG_ hg HB; have aq := gG_ hg HB; replace HB := hS_ HB hb; clear hb hg; obtain ⟨aw, ax, ay, az, aA, aB, aC, bc, bd, be, bf, bg, bh, bi⟩ := cz7_ (w := w9) aa) | ((with_reducible refine gate_callee (f := 23) rfl ?_); refine goesL_ (some 6) rfl rfl Try.func23 (by kernel_rfl) rfl #[.agg #[.int .u32 ab, .int .i64 ac, .slice al ad.length am, .int .i64 af, .int .i64 ag, .int .i64 ah, .int .i64 ai]] rfl am_ ?_; (with_reducible refine (lodgerref05_May.calls k ab ac _ _ ad af ag ah ai true _ ?side1 ?side2 A3.out).mono ?_); (case side1 => exact cC_ ao HB); (case side2 => exact an.out); rintro e w11 ⟨rfl, hb⟩; refine ⟨_, rfl, ?_⟩; replace HB := hS_ HB hb; replace aa := bB_ aa hb; (try clear hb); obtain ⟨aD, aE, aF, aG, aH, aI, aJ, bj, bk, bl, bm, bn, bo, bp⟩ := cz7_ (w := w11) aa) | (go_at_call 9; (with_reducible refine (lodgerref05_Many.calls k ab ac ae _ A5.out).mono ?_); rintro e w13 ⟨rfl, hb⟩; replace HB := hS_ HB hb; replace aa := bB_ aa hb; (try clear hb); obtain ⟨aK, aL, aM, aN, aO, aP, aQ, bq, br, bs, bt, bu, bv, bw⟩ := cz7_ (w := w13) aa) | (go_at_call 9; (with_reducible refine (lodgerref05_Many.calls k ab ac ae _ A7.out).mono ?_); rintro e w15 ⟨rfl, hb⟩; replace HB := hS_ HB hb; replace aa := bB_ aa hb; (try clear hb)) | (go_at_call 24; (with_reducible refine (lodgerref06_Cells.calls k ae aj _ A8.out).mono ?_); rintro e w' ⟨rfl, ⟨nd, rfl⟩⟩))
   go_ret
   exact ⟨er_, hB_ HB⟩
  ·rw [if_neg c6] at H
   have av : decide (ae ≤ 4096) = false := decide_eq_false c6
   clear c6
   obtain rfl := Option.some.inj H
   go_enter Try.func8, Try.ntmps8
   go_wp2_with (first | ((with_reducible refine gd_ 2 ?_); (try (refine gate_guard (by rfl) ?_; dsimp only)); refine bx_ (N := 2) (cs := #[.int .u32 ab, .int .i64 ac, .slice al ad.length am, .int .i64 af, .int .i64 ag, .int .i64 ah, .int .i64 ai]) (t := 27) ?_; intro au hg w16 aa hb; have ar := gG_ hg HB; have aq := gG_ hg HB; replace HB := hS_ HB hb; clear hb hg; obtain ⟨aR, aS, aT, aU, aV, aW, aX, bx, bz, bA, bB, bC, bD, bE⟩ := cz7_ (w := w16) aa) | ((with_reducible refine gate_callee (f := 23) rfl ?_); refine goesL_ (some 6) rfl rfl Try.func23 (by kernel_rfl) rfl #[.agg #[.int .u32 ab, .int .i64 ac, .slice al ad.length am, .int .i64 af, .int .i64 ag, .int .i64 ah, .int .i64 ai]] rfl am_ ?_; (with_reducible refine (lodgerref05_May.calls k ab ac _ _ ad af ag ah ai true _ ?side1 ?side2 A3.out).mono ?_); (case side1 => exact cC_ ao HB); (case side2 => exact an.out); rintro e w18 ⟨rfl, hb⟩; refine ⟨_, rfl, ?_⟩; replace HB := hS_ HB hb; replace aa := bB_ aa hb; (try clear hb); obtain ⟨aY, aZ, a0, a1, a2, a3, a4, bF, bG, bH, bI, bJ, bK, bL⟩ := cz7_ (w := w18) aa) | (go_at_call 9; (with_reducible refine (lodgerref05_Many.calls k ab ac ae _ A5.out).mono ?_); rintro e w20 ⟨rfl, hb⟩; replace HB := hS_ HB hb; replace aa := bB_ aa hb; (try clear hb)))
   go_ret
   exact ⟨er_, hB_ HB⟩
 ·replace c4 := Bool.eq_false_iff.mpr c4
  subst c4
  have H1 : (some false) = some r := nf_ H
  clear H; have H := H1; clear H1
  obtain rfl := Option.some.inj H
  go_enter Try.func8, Try.ntmps8
  go_wp2_with (first | ((with_reducible refine gd_ 2 ?_); (try (refine gate_guard (by rfl) ?_; dsimp only)); refine bx_ (N := 2) (cs := #[.int .u32 ab, .int .i64 ac, .slice al ad.length am, .int .i64 af, .int .i64 ag, .int .i64 ah, .int .i64 ai]) (t := 27) ?_; intro au hg w21 aa hb; have ar := gG_ hg HB; have aq := gG_ hg HB; replace HB := hS_ HB hb; clear hb hg; obtain ⟨a5, a6, a7, a8, a9, ba, bb, bM, bN, bO, bP, bQ, bR, bS⟩ := cz7_ (w := w21) aa) | ((with_reducible refine gate_callee (f := 23) rfl ?_); refine goesL_ (some 6) rfl rfl Try.func23 (by kernel_rfl) rfl #[.agg #[.int .u32 ab, .int .i64 ac, .slice al ad.length am, .int .i64 af, .int .i64 ag, .int .i64 ah, .int .i64 ai]] rfl am_ ?_; (with_reducible refine (lodgerref05_May.calls k ab ac _ _ ad af ag ah ai false _ ?side1 ?side2 A3.out).mono ?_); (case side1 => exact cC_ ao HB); (case side2 => exact an.out); rintro e w23 ⟨rfl, hb⟩; refine ⟨_, rfl, ?_⟩; replace HB := hS_ HB hb; (try clear hb)))
  go_ret
  exact ⟨er_, hB_ HB⟩

/-! ### lodgerref12_Rest: function 17 -/
def lodgerref12_Rest.f (a0 a1 : Int) : Option (Int) := if a1 = 0 then (none) else (some (wrap64 (a0 - (wrap64 ((wrap64 (Int.tdiv a0 a1)) * a1)))))
set_option maxHeartbeats 8000000 in
set_option maxRecDepth 100000 in
theorem lodgerref12_Rest.calls (a0 a1 r : Int) (w : World) (h : lodgerref12_Rest.f a0 a1 = some r) :
  Calls Try.prog 17 #[.int .i64 a0, .int .i64 a1] w fun e w' => e = .returned (.int .i64 r) ∧ Drawn0 w w' := by
 have H : (if a1 = 0 then (none) else (some (wrap64 (a0 - (wrap64 ((wrap64 (Int.tdiv a0 a1)) * a1)))))) = some r := h
 clear h
 by_cases c3 : a1 = 0
 ·rw [if_pos c3] at H
  exact absurd H (by simp)
 ·rw [if_neg c3] at H
  have aa : (a1 == 0) = false := beq_eq_false_iff_ne.mpr c3
  have ab : (a1 != 0) = true := bne_iff_ne.mpr c3
  obtain rfl := Option.some.inj H
  go_enter Try.func17, Try.ntmps17
  go_wp2
  go_ret
  exact ⟨rs_, dn_⟩

/-! ### lodgerref02_Set: function 21 -/
def lodgerref02_Set.l0 : Nat → Int → Int → List Int → Int → Option (List Int)
 | 0, _, _, _, _ => none
 | k + 1, x1, x2, x7, x8 => if x8 < (x7.length : Int) then (if x8 = x1 then (if 0 ≤ x8 then (lodgerref02_Set.l0 k x1 x2 (x7.set (x8 : Int).toNat x2) (wrap64 (x8 + 1))) else (none)) else (lodgerref02_Set.l0 k x1 x2 x7 (wrap64 (x8 + 1)))) else (some x7)
def lodgerref02_Set.f (k : Nat) (l0 : List Int) (a1 a2 : Int) : Option (List Int) := (some (([] : List Int) : List Int)).bind fun y307 => (if y307.length + l0.length < 17592186044416 then (lodgerref02_Set.l0 k a1 a2 (y307 ++ l0) 0) else (none))
theorem lodgerref02_Set.mono_l : ∀ k, (∀ y0 y1 y2 y3, LeO (lodgerref02_Set.l0 k y0 y1 y2 y3) (lodgerref02_Set.l0 (k + 1) y0 y1 y2 y3))
 | 0 => fun _ _ _ _ r h => by simp [lodgerref02_Set.l0] at h
 | k + 1 => by
  have ih0 := lodgerref02_Set.mono_l k
  ·intro y0 y1 y2 y3
   unfold lodgerref02_Set.l0
   repeat' (with_reducible first | apply ih0 | exact LeO.refl _ | exact LeO.none _ | refine LeO.ite ?_ ?_ | refine LeO.bind ?_ (fun _ => ?_))
theorem lodgerref02_Set.mono : ∀ a0 a1 a2 k, LeO (lodgerref02_Set.f k a0 a1 a2) (lodgerref02_Set.f (k + 1) a0 a1 a2) := by
 intro a0 a1 a2 k
 have ih0 := lodgerref02_Set.mono_l k
 unfold lodgerref02_Set.f
 repeat' (with_reducible first | apply ih0 | exact LeO.refl _ | exact LeO.none _ | refine LeO.ite ?_ ?_ | refine LeO.bind ?_ (fun _ => ?_))
set_option maxHeartbeats 8000000 in
set_option maxRecDepth 100000 in
theorem lodgerref02_Set.calls (k : Nat) (A0 : Option Addr) (c0 : Nat) (l0 : List Int) (a1 a2 : Int) (r : List Int) (w : World) (hr0 : Kd.C (Kd.int .u64) w A0 l0.length l0) (hc0 : l0.length ≤ c0) (h : lodgerref02_Set.f k l0 a1 a2 = some r) :
  Calls Try.prog 21 #[.slice A0 l0.length c0, .int .i64 a1, .int .u64 a2] w fun e w' => ∃ v0_ : Value, e = .returned (v0_) ∧ Kd.R (Kd.int .u64) 39 w' w.heap.size (fun _ => True) v0_ r ∧ Below w.heap.size w w' := by
 have an := Aside0.mk hr0
 have ax := Aside0.mk hc0
 clear hr0 hc0
 have HB := Aside0.mk (Below.refl w.heap.size w)
 have H : ((some (([] : List Int) : List Int)).bind fun ad => (if ad.length + l0.length < 17592186044416 then (lodgerref02_Set.l0 k a1 a2 (ad ++ l0) 0) else (none))) = some r := h
 clear h
 obtain ⟨ad, hy307⟩ : ∃ y_ : List Int, y_ = (([] : List Int)) := ⟨_, rfl⟩
 replace H : (if ad.length + l0.length < 17592186044416 then (lodgerref02_Set.l0 k a1 a2 (ad ++ l0) 0) else (none)) = some r := rp_ hy307 H
 have Ny307 := Aside0.mk hy307
 clear hy307
 by_cases c4 : ad.length + l0.length < 17592186044416
 ·rw [if_pos c4] at H
  have LMc4 := Aside0.mk c4; clear c4; obtain ⟨ah, hy310⟩ : ∃ y_ : List Int, y_ = (ad ++ l0) := ⟨_, rfl⟩
  replace H : (lodgerref02_Set.l0 k a1 a2 ah 0) = some r := rp_ hy310 H
  have Ny310 := Aside0.mk hy310; clear hy310
  have H' := Aside0.mk H
  clear H
  go_enter Try.func21, Try.ntmps21
  go_wp2_with (first | ((with_reducible refine gd_ 9 ?_); refine Kd.R_lit (Kd.int .u64) _ 39 ?hg (N := 9) ?hd (xs := ([] : List Int)) (inner := []) (ok := fun _ => True) (okp := fun _ => True) ?hr ?hp (fun _ hk => hk) trivial (Below.refl _ _) (Nat.le_refl _) (by simp) ?_; (case hd => rfl); (case hg => rfl); (case hr => first | (go_simp; done) | (go_simp; rfl)); (case hp => exact (Reps.none _ _)); intro v308 w5 ho6 hb hg_ hnew_; clear hg_ hnew_; (first | rw [← Ny307.out] at ho6 | (simp only [Int.reduceToNat] at ho6; rw [← Ny307.out] at ho6)); have af := Aside0.mk (Kd.R_lower ho6 (below_size (hB_ HB))); replace HB := hS_ HB hb; clear hb ho6) | ((with_reducible refine gate_builtin (b := .append) (xs := #[.tmp 9, .tmp 10]) rfl ?_); at_builtin; refine Kd.R_append_rows (Kd.int .u64) (w0 := w) w.heap.size rfl (.tmp 9) (.tmp 10) 28 39 (.int .u64 0) 8 rfl Try.underlying28 info39 rfl (by decide) (by omega) v308 ad l0 _ _ _ (fun _ => True) (fun _ => False) rfl rfl ?aO ?aR (fun _ _ h => h) (fun _ h => h.elim) ?aF ?aB ?aS ?aL ?_; (case aR => exact cC_ an HB); (case aB => exact (hB_ HB)); (case aF => exact (fun _ _ => trivial)); (case aO => exact (rR_ af)); (case aS => exact (below_size (hB_ HB))); (case aL => have := LMc4.out; omega); intro v311 w7 ho hb hg hat; rw [← Ny310.out] at ho; replace HB := Aside0.mk (hb); have ai := Aside0.mk (ho); clear af ho hb hg hat))
  go_loopg [8] k (fun kq v8 w' => ∃ (ac : List Int) (aa : Int), v8 = .int .i64 aa ∧ Aside0 (lodgerref02_Set.l0 kq a1 a2 ac aa = some r) ∧ Aside0 (kq ≤ k) ∧ Aside0 (Kd.R (Kd.int .u64) 39 w' w.heap.size (fun _ => True) v311 ac) ∧ Aside0 (Below w.heap.size w w'))
  case atStart => exact ⟨(ah), (0), rs_, H', ⟨Nat.le_refl _⟩, ⟨rR_ ai⟩, ⟨hB_ HB⟩⟩
  case round =>
   clear H'
   try clear c2
   try clear p2
   try clear c4
   obtain ⟨ac, aa, rfl, HA, HK1, ab, HB⟩ := hrel
   cases gk with
   | zero => exact absurd HA.out (by simp [lodgerref02_Set.l0])
   | succ k1 =>
    have H := HA.out; clear HA; simp only [lodgerref02_Set.l0] at H
    by_cases c8 : aa < (ac.length : Int)
    ·rw [if_pos c8] at H
     have aj : decide (aa < (ac.length : Int)) = true := decide_eq_true c8
     clear c8
     by_cases c9 : aa = a1
     ·rw [if_pos c9] at H
      have ak : (aa == a1) = true := beq_iff_eq.mpr c9
      have al : (aa != a1) = false := bne_eq_false_iff_eq.mpr c9
      clear c9
      by_cases c10 : 0 ≤ aa
      ·rw [if_pos c10] at H
       have ao : decide (0 ≤ aa) = true := decide_eq_true c10
       clear c10; obtain ⟨ae, hy313⟩ : ∃ y_ : List Int, y_ = (ac.set (aa : Int).toNat a2) := ⟨_, rfl⟩
       replace H : (lodgerref02_Set.l0 k1 a1 a2 ae (wrap64 (aa + 1))) = some r := rp_ hy313 H
       have Ny313 := Aside0.mk hy313; clear hy313
       have H' := Aside0.mk H
       clear H; obtain ⟨ap, am, eo12⟩ := Kd.R_slice ab.out; subst eo12
       have p11 : 0 ≤ (aa : Int) := od_
       have q11 : (aa : Int) < ((ac.length : Int) : Int) := od_
       obtain ⟨go11, au, eo11, ag, gl11, cl11, HG11⟩ := Kd.R_form ab.out (by omega)
       (first | cases eo11 | (injection eo11 with ea_ en_ ec_; (first | subst ea_ | (injection ea_ with ea_; subst ea_)); subst ec_; clear en_))
       have GB11 := Aside0.mk ag; have GG11 := Aside0.mk HG11; clear ag gl11 HG11; obtain ⟨hx11_0, hf11_0⟩ := Kd.R_celln 0 ab.out (aa : Int) p11 q11; replace p11 := eq_true p11; replace q11 := eq_true q11; have HP13 := Kd.R_putg ab.out (aa : Int) a2
       go_wp2_with (first | ((with_reducible refine gate_store (t := 39) (p := 24) rfl ?_); refine store_event (t := 39) (p := 24) (v := ?vo_w14) (w1 := (wr.setCell ⟨go11, (aa : Int).toNat, none⟩ (.int .u64 a2))) ?hg ?ho ?hn ?hr ?_; (case ho => rfl); (case hg => rfl); (case hn => rfl); (case hr => first | (go_simp; done) | (go_simp; rfl)); intro w14 hw; have hg : wr.grownBy w14 (some go11) := (by rw [hw]; exact HP13.2); have hp_ : Kd.R (Kd.int .u64) 39 w14 w.heap.size (fun _ => True) (.slice (some ⟨go11, 0, none⟩) ac.length am) ae := (by rw [hw, Ny313.out]; exact HP13.1); clear HP13; replace ab := Aside0.mk (hp_); replace HB := Aside0.mk ((by rw [hw]; exact below_set (HB.out) GB11.out : Below w.heap.size w w14)); clear hg hw hp_))
       go_roundg k1
       case measure => have := HK1.out; omega
       case rel => exact ⟨(ae), (wrap64 (aa + 1)), rs_, H', ⟨om_ HK1⟩, ⟨rR_ ab⟩, ⟨hB_ HB⟩⟩
      ·rw [if_neg c10] at H
       exact absurd H (by simp)
     ·rw [if_neg c9] at H
      have ak : (aa == a1) = false := beq_eq_false_iff_ne.mpr c9
      have al : (aa != a1) = true := bne_iff_ne.mpr c9
      have H' := Aside0.mk H
      clear H; obtain ⟨aq, av, eo15⟩ := Kd.R_slice ab.out; subst eo15
      go_wp2
      go_roundg k1
      case measure => have := HK1.out; omega
      case rel => exact ⟨(ac), (wrap64 (aa + 1)), rs_, H', ⟨om_ HK1⟩, ⟨rR_ ab⟩, ⟨hB_ HB⟩⟩
    ·rw [if_neg c8] at H
     have aj : decide (aa < (ac.length : Int)) = false := decide_eq_false c8
     clear c8
     obtain rfl := Option.some.inj H
     obtain ⟨ar, aw, eo16⟩ := Kd.R_slice ab.out; subst eo16
     go_wp2
     go_ret
     exact ⟨_, er_, rR_ ab, hB_ HB⟩
 ·rw [if_neg c4] at H
  exact absurd H (by simp)

/-! ### lodgerref12_Range: function 22 -/
def lodgerref12_Range.f (k : Nat) (a0 a1 a2 : Int) : Option (Int × Int) := (lodgerref06_Leaves.f k a0).bind fun t314 => (if a1 = 0 then (none) else (some (wrap64 (Int.tdiv (wrap64 ((wrap64 (a2 * t314)) - (Int.tmod (wrap64 (a2 * t314)) a1))) a1), wrap64 (Int.tdiv (wrap64 ((wrap64 ((wrap64 (a2 + 1)) * t314)) - (Int.tmod (wrap64 ((wrap64 (a2 + 1)) * t314)) a1))) a1))))
theorem lodgerref12_Range.mono : ∀ a0 a1 a2 k, LeO (lodgerref12_Range.f k a0 a1 a2) (lodgerref12_Range.f (k + 1) a0 a1 a2) := by
 intro a0 a1 a2 k
 unfold lodgerref12_Range.f
 repeat' (with_reducible first | apply lodgerref06_Leaves.mono | exact LeO.refl _ | exact LeO.none _ | refine LeO.ite ?_ ?_ | refine LeO.bind ?_ (fun _ => ?_))
set_option maxHeartbeats 8000000 in
set_option maxRecDepth 100000 in
theorem lodgerref12_Range.calls (k : Nat) (a0 a1 : Int) (a2 r1 r2 : Int) (w : World) (h : lodgerref12_Range.f k a0 a1 a2 = some (r1, r2)) :
  Calls Try.prog 22 #[.int .i64 a0, .int .i64 a1, .int .i64 a2] w fun e w' => e = .returned (.tuple #[.int .i64 r1, .int .i64 r2]) ∧ Drawn0 w w' := by
 have H : ((lodgerref06_Leaves.f k a0).bind fun aa => (if a1 = 0 then (none) else (some (wrap64 (Int.tdiv (wrap64 ((wrap64 (a2 * aa)) - (Int.tmod (wrap64 (a2 * aa)) a1))) a1), wrap64 (Int.tdiv (wrap64 ((wrap64 ((wrap64 (a2 + 1)) * aa)) - (Int.tmod (wrap64 ((wrap64 (a2 + 1)) * aa)) a1))) a1))))) = some (r1, r2) := h
 clear h
 replace H := bi_ H
 obtain ⟨aa, A40, H⟩ := H
 replace H : (if a1 = 0 then (none) else (some (wrap64 (Int.tdiv (wrap64 ((wrap64 (a2 * aa)) - (Int.tmod (wrap64 (a2 * aa)) a1))) a1), wrap64 (Int.tdiv (wrap64 ((wrap64 ((wrap64 (a2 + 1)) * aa)) - (Int.tmod (wrap64 ((wrap64 (a2 + 1)) * aa)) a1))) a1)))) = some (r1, r2) := H
 have A4 := Aside0.mk A40
 clear A40
 by_cases c5 : a1 = 0
 ·rw [if_pos c5] at H
  exact absurd H (by simp)
 ·rw [if_neg c5] at H
  have ab : (a1 == 0) = false := beq_eq_false_iff_ne.mpr c5
  have ac : (a1 != 0) = true := bne_iff_ne.mpr c5
  simp only [Option.some.injEq, Prod.mk.injEq] at H; obtain ⟨rfl, rfl⟩ := H
  go_enter Try.func22, Try.ntmps22
  go_wp2_with (first | (go_at_call 12; (with_reducible refine (lodgerref06_Leaves.calls k a0 aa _ A4.out).mono ?_); rintro e w' ⟨rfl, ⟨nd, rfl⟩⟩; (try first | exact ⟨rfl, _, World.drewN_drewN _ _ _⟩ | exact ⟨rfl, _, Eq.trans (World.drewN_drewN _ _ _) (congrArg (World.drewN _) (Nat.add_assoc _ _ _))⟩)))
  repeat (go_quiet (first | (go_at_call 12; (with_reducible refine (lodgerref06_Leaves.calls k a0 aa _ A4.out).mono ?_); rintro e w' ⟨rfl, ⟨nd, rfl⟩⟩; (try first | exact ⟨rfl, _, World.drewN_drewN _ _ _⟩ | exact ⟨rfl, _, Eq.trans (World.drewN_drewN _ _ _) (congrArg (World.drewN _) (Nat.add_assoc _ _ _))⟩))); try go_wp2_with (first | (go_at_call 12; (with_reducible refine (lodgerref06_Leaves.calls k a0 aa _ A4.out).mono ?_); rintro e w' ⟨rfl, ⟨nd, rfl⟩⟩; (try first | exact ⟨rfl, _, World.drewN_drewN _ _ _⟩ | exact ⟨rfl, _, Eq.trans (World.drewN_drewN _ _ _) (congrArg (World.drewN _) (Nat.add_assoc _ _ _))⟩))))
  go_ret2
  exact ⟨rs_, dn_⟩

end Go.Proofs.Ytfhjeneegfmngaa.PSeekFull
