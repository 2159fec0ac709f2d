/- The walk of SeekStays, part of it: what the Go functions answer; no condition. -/
import Derived.Test.YtfhjeneegfmngaaQSeekStaysx0
namespace Go.Proofs.Ytfhjeneegfmngaa.PSeekStays
open Go.RowKit Go.Proofs.YtfhjeneegfmngaaW.PrintWords Go.Proofs.YtfhjeneegfmngaaW.PrintLast Go.Proofs.YtfhjeneegfmngaaW.PrintMore
attribute [local go_sem] max2_int min2_int max_two min_two max_three min_three max_four min_four   -- for this text's walks alone
set_option linter.unusedVariables false
set_option linter.unusedSimpArgs false

variable {tb_ : Int → Option Addr × Nat × Nat}

/-! ### lodgerref02_Same: function 19 -/
def lodgerref02_Same.l0 : Nat → List Int → List Int → Int → Option (Bool)
 | 0, _, _, _ => none
 | k + 1, x0, x1, x5 => if x5 < (x0.length : Int) then (if 0 ≤ x5 then (if x5 < (x1.length : Int) then (if (rd x0 x5) = (rd x1 x5) then (lodgerref02_Same.l0 k x0 x1 (wrap64 (x5 + 1))) else (some false)) else (none)) else (none)) else (some true)
def lodgerref02_Same.f (k : Nat) (l0 l1 : List Int) : Option (Bool) := if (l0.length : Int) = (l1.length : Int) then (lodgerref02_Same.l0 k l0 l1 0) else (some false)
theorem lodgerref02_Same.mono_l : ∀ k, (∀ y0 y1 y2, LeO (lodgerref02_Same.l0 k y0 y1 y2) (lodgerref02_Same.l0 (k + 1) y0 y1 y2))
 | 0 => fun _ _ _ r h => by simp [lodgerref02_Same.l0] at h
 | k + 1 => by
  have ih0 := lodgerref02_Same.mono_l k
  ·intro y0 y1 y2
   unfold lodgerref02_Same.l0
   repeat' (with_reducible first | apply ih0 | exact LeO.refl _ | exact LeO.none _ | refine LeO.ite ?_ ?_ | refine LeO.bind ?_ (fun _ => ?_))
theorem lodgerref02_Same.mono : ∀ a0 a1 k, LeO (lodgerref02_Same.f k a0 a1) (lodgerref02_Same.f (k + 1) a0 a1) := by
 intro a0 a1 k
 have ih0 := lodgerref02_Same.mono_l k
 unfold lodgerref02_Same.f
 repeat' (with_reducible first | apply ih0 | exact LeO.refl _ | exact LeO.none _ | refine LeO.ite ?_ ?_ | refine LeO.bind ?_ (fun _ => ?_))
set_option maxHeartbeats 8000000 in
set_option maxRecDepth 100000 in
theorem lodgerref02_Same.calls (k : Nat) (A0 : Option Addr) (c0 : Nat) (l0 : List Int) (A1 : Option Addr) (c1 : Nat) (l1 : List Int) (r : Bool) (w : World) (hr0 : Kd.C (Kd.int .u64) w A0 l0.length l0) (hc0 : l0.length ≤ c0) (hr1 : Kd.C (Kd.int .u64) w A1 l1.length l1) (hc1 : l1.length ≤ c1) (h : lodgerref02_Same.f k l0 l1 = some r) :
  Calls Try.prog 19 #[.slice A0 l0.length c0, .slice A1 l1.length c1] w fun e w' => e = .returned (.bool r) ∧ Drawn0 w w' := by
 have ae := Aside0.mk hr0
 have al := Aside0.mk hc0
 clear hr0 hc0
 have af := Aside0.mk hr1
 have am := Aside0.mk hc1
 clear hr1 hc1
 have H : (if (l0.length : Int) = (l1.length : Int) then (lodgerref02_Same.l0 k l0 l1 0) else (some false)) = some r := h
 clear h
 by_cases c3 : (l0.length : Int) = (l1.length : Int)
 ·rw [if_pos c3] at H
  have ab : ((l0.length : Int) == (l1.length : Int)) = true := beq_iff_eq.mpr c3
  have ac : ((l0.length : Int) != (l1.length : Int)) = false := bne_eq_false_iff_eq.mpr c3
  have ad : (l0.length == l1.length) = true := by first | simpa using c3 | (simp at c3 ⊢; omega)
  clear c3
  have H' := Aside0.mk H
  clear H
  go_enter Try.func19, Try.ntmps19
  go_wp2
  repeat (go_quiet (fail); try go_wp2)
  go_loopg [5] k (fun kq v5 w' => ∃ (aa : Int), v5 = .int .i64 aa ∧ Aside0 (lodgerref02_Same.l0 kq l0 l1 aa = some r) ∧ Aside0 (kq ≤ k) ∧ Drawn0 w w')
  case atStart => exact ⟨(0), rs_, H', ⟨Nat.le_refl _⟩, dn_⟩
  case round =>
   clear H'
   try clear c1
   try clear p2
   try clear c3
   try clear ab
   try clear ac
   try clear ad
   obtain ⟨aa, rfl, HA, HK1, ⟨m1, rfl⟩⟩ := hrel
   cases gk with
   | zero => exact absurd HA.out (by simp [lodgerref02_Same.l0])
   | succ k1 =>
    have H := HA.out; clear HA; simp only [lodgerref02_Same.l0] at H
    by_cases c4 : aa < (l0.length : Int)
    ·rw [if_pos c4] at H
     have ag : decide (aa < (l0.length : Int)) = true := decide_eq_true c4
     clear c4
     by_cases c5 : 0 ≤ aa
     ·rw [if_pos c5] at H
      have aj : decide (0 ≤ aa) = true := decide_eq_true c5
      clear c5
      by_cases c6 : aa < (l1.length : Int)
      ·rw [if_pos c6] at H
       have ak : decide (aa < (l1.length : Int)) = true := decide_eq_true c6
       clear c6
       by_cases c7 : (rd l0 aa) = (rd l1 aa)
       ·rw [if_pos c7] at H
        have ah : ((rd l0 aa) == (rd l1 aa)) = true := beq_iff_eq.mpr c7
        have ai : ((rd l0 aa) != (rd l1 aa)) = false := bne_eq_false_iff_eq.mpr c7
        clear c7
        have H' := Aside0.mk H
        clear H
        have p312 : 0 ≤ (aa : Int) := od_
        have q312 : aa < (l0.length : Int) := od_
        obtain ⟨ad312, e312, hx312_0⟩ := Kd.at_int ae.out aa p312 q312
        cases e312
        replace p312 := eq_true p312; replace q312 := eq_true q312
        have p313 : 0 ≤ (aa : Int) := od_
        have q313 : aa < (l1.length : Int) := od_
        obtain ⟨ad313, e313, hx313_0⟩ := Kd.at_int af.out aa p313 q313
        cases e313
        replace p313 := eq_true p313; replace q313 := eq_true q313
        go_wp2
        repeat (go_quiet (fail); try go_wp2)
        go_roundg k1
        case measure => have := HK1.out; omega
        case rel => exact ⟨(wrap64 (aa + 1)), rs_, H', ⟨om_ HK1⟩, dn_⟩
       ·rw [if_neg c7] at H
        have ah : ((rd l0 aa) == (rd l1 aa)) = false := beq_eq_false_iff_ne.mpr c7
        have ai : ((rd l0 aa) != (rd l1 aa)) = true := bne_iff_ne.mpr c7
        obtain rfl := Option.some.inj H
        have p312 : 0 ≤ (aa : Int) := od_
        have q312 : aa < (l0.length : Int) := od_
        obtain ⟨ad312, e312, hx312_0⟩ := Kd.at_int ae.out aa p312 q312
        cases e312
        replace p312 := eq_true p312; replace q312 := eq_true q312
        have p313 : 0 ≤ (aa : Int) := od_
        have q313 : aa < (l1.length : Int) := od_
        obtain ⟨ad313, e313, hx313_0⟩ := Kd.at_int af.out aa p313 q313
        cases e313
        replace p313 := eq_true p313; replace q313 := eq_true q313
        go_wp2
        repeat (go_quiet (fail); try go_wp2)
        go_ret
        exact ⟨rs_, dn_⟩
      ·rw [if_neg c6] at H
       exact absurd H (by simp)
     ·rw [if_neg c5] at H
      exact absurd H (by simp)
    ·rw [if_neg c4] at H
     have ag : decide (aa < (l0.length : Int)) = false := decide_eq_false c4
     clear c4
     obtain rfl := Option.some.inj H
     go_wp2
     repeat (go_quiet (fail); try go_wp2)
     go_ret
     exact ⟨rs_, dn_⟩
 ·rw [if_neg c3] at H
  have ab : ((l0.length : Int) == (l1.length : Int)) = false := beq_eq_false_iff_ne.mpr c3
  have ac : ((l0.length : Int) != (l1.length : Int)) = true := bne_iff_ne.mpr c3
  have ad : (l0.length == l1.length) = false := by first | simpa using c3 | (simp at c3 ⊢; omega)
  obtain rfl := Option.some.inj H
  go_enter Try.func19, Try.ntmps19
  go_wp2
  repeat (go_quiet (fail); try go_wp2)
  go_ret
  exact ⟨rs_, dn_⟩

theorem lodgerref02_Same.refl_ {l : List Int} (hl : l.length ≤ maxLen) : ∃ k, lodgerref02_Same.f k l l = some true := by
  unfold maxLen at hl
  have all : ∀ (d : Nat) (i : Int) (k : Nat), 0 ≤ i → i ≤ (l.length : Int) → (l.length : Int) - i = d → d < k → lodgerref02_Same.l0 k l l i = some true := by
    intro d
    induction d with
    | zero =>
      intro i k h0 h1 hd hk
      obtain ⟨k, rfl⟩ : ∃ m, k = m + 1 := ⟨k - 1, by omega⟩
      simp only [lodgerref02_Same.l0]; rw [if_neg (by omega)]
    | succ d ih =>
      intro i k h0 h1 hd hk
      obtain ⟨k, rfl⟩ : ∃ m, k = m + 1 := ⟨k - 1, by omega⟩
      simp only [lodgerref02_Same.l0]
      rw [if_pos (by omega), if_pos (by omega), if_pos (by omega), if_pos trivial, show wrap64 (i + 1) = i + 1 by unfold wrap64; omega]
      exact ih (i + 1) k (by omega) (by omega) (by omega) (by omega)
  refine ⟨l.length + 1, ?_⟩
  unfold lodgerref02_Same.f
  rw [if_pos rfl]
  exact all l.length 0 (l.length + 1) (by omega) (by omega) (by omega) (by omega)
theorem sameq_ {tb_ : Int → Option Addr × Nat × Nat} {x y : Int} {w : World} (h : x = y ∧ qs_ x) (hG : Lg tb_ w) : Calls Try.prog 19 #[rho_ tb_ x, rho_ tb_ y] w fun e w' => e = .returned (.bool true) ∧ Drawn0 w w' := by
  obtain ⟨rfl, hq⟩ := h
  obtain ⟨l, h1, h2, h3, h4⟩ : Rdq .u64 tb_ x w := by obtain rfl := hq; exact hG.2.2.2
  obtain ⟨k, hk⟩ := lodgerref02_Same.refl_ h4
  have := lodgerref02_Same.calls (k := k) (r := true) (w := w) (h := hk) (hr0 := h2) (hc0 := h3) (hr1 := h2) (hc1 := h3)
  rw [← h1] at this
  exact this
/-! ### lodgerref08_Addrs: function 44 -/
def lodgerref08_Addrs.l0 : Nat → List Int → List Int → Int → Option (Bool)
 | 0, _, _, _ => none
 | k + 1, x0, x1, x5 => if x5 < (x0.length : Int) then (if 0 ≤ x5 then (if x5 < (x1.length : Int) then (if (rd x0 x5) = (rd x1 x5) then (lodgerref08_Addrs.l0 k x0 x1 (wrap64 (x5 + 1))) else (some false)) else (none)) else (none)) else (some true)
def lodgerref08_Addrs.f (k : Nat) (l0 l1 : List Int) : Option (Bool) := if (l0.length : Int) = (l1.length : Int) then (lodgerref08_Addrs.l0 k l0 l1 0) else (some false)
theorem lodgerref08_Addrs.mono_l : ∀ k, (∀ y0 y1 y2, LeO (lodgerref08_Addrs.l0 k y0 y1 y2) (lodgerref08_Addrs.l0 (k + 1) y0 y1 y2))
 | 0 => fun _ _ _ r h => by simp [lodgerref08_Addrs.l0] at h
 | k + 1 => by
  have ih0 := lodgerref08_Addrs.mono_l k
  ·intro y0 y1 y2
   unfold lodgerref08_Addrs.l0
   repeat' (with_reducible first | apply ih0 | exact LeO.refl _ | exact LeO.none _ | refine LeO.ite ?_ ?_ | refine LeO.bind ?_ (fun _ => ?_))
theorem lodgerref08_Addrs.mono : ∀ a0 a1 k, LeO (lodgerref08_Addrs.f k a0 a1) (lodgerref08_Addrs.f (k + 1) a0 a1) := by
 intro a0 a1 k
 have ih0 := lodgerref08_Addrs.mono_l k
 unfold lodgerref08_Addrs.f
 repeat' (with_reducible first | apply ih0 | exact LeO.refl _ | exact LeO.none _ | refine LeO.ite ?_ ?_ | refine LeO.bind ?_ (fun _ => ?_))
set_option maxHeartbeats 8000000 in
set_option maxRecDepth 100000 in
theorem lodgerref08_Addrs.calls (k : Nat) (A0 : Option Addr) (c0 : Nat) (l0 : List Int) (A1 : Option Addr) (c1 : Nat) (l1 : List Int) (r : Bool) (w : World) (hr0 : Kd.C (Kd.int .u32) w A0 l0.length l0) (hc0 : l0.length ≤ c0) (hr1 : Kd.C (Kd.int .u32) w A1 l1.length l1) (hc1 : l1.length ≤ c1) (h : lodgerref08_Addrs.f k l0 l1 = some r) :
  Calls Try.prog 44 #[.slice A0 l0.length c0, .slice A1 l1.length c1] w fun e w' => e = .returned (.bool r) ∧ Drawn0 w w' := by
 have ae := Aside0.mk hr0
 have al := Aside0.mk hc0
 clear hr0 hc0
 have af := Aside0.mk hr1
 have am := Aside0.mk hc1
 clear hr1 hc1
 have H : (if (l0.length : Int) = (l1.length : Int) then (lodgerref08_Addrs.l0 k l0 l1 0) else (some false)) = some r := h
 clear h
 by_cases c3 : (l0.length : Int) = (l1.length : Int)
 ·rw [if_pos c3] at H
  have ab : ((l0.length : Int) == (l1.length : Int)) = true := beq_iff_eq.mpr c3
  have ac : ((l0.length : Int) != (l1.length : Int)) = false := bne_eq_false_iff_eq.mpr c3
  have ad : (l0.length == l1.length) = true := by first | simpa using c3 | (simp at c3 ⊢; omega)
  clear c3
  have H' := Aside0.mk H
  clear H
  go_enter Try.func44, Try.ntmps44
  go_wp2
  repeat (go_quiet (fail); try go_wp2)
  go_loopg [5] k (fun kq v5 w' => ∃ (aa : Int), v5 = .int .i64 aa ∧ Aside0 (lodgerref08_Addrs.l0 kq l0 l1 aa = some r) ∧ Aside0 (kq ≤ k) ∧ Drawn0 w w')
  case atStart => exact ⟨(0), rs_, H', ⟨Nat.le_refl _⟩, dn_⟩
  case round =>
   clear H'
   try clear c1
   try clear p2
   try clear c3
   try clear ab
   try clear ac
   try clear ad
   obtain ⟨aa, rfl, HA, HK1, ⟨m1, rfl⟩⟩ := hrel
   cases gk with
   | zero => exact absurd HA.out (by simp [lodgerref08_Addrs.l0])
   | succ k1 =>
    have H := HA.out; clear HA; simp only [lodgerref08_Addrs.l0] at H
    by_cases c4 : aa < (l0.length : Int)
    ·rw [if_pos c4] at H
     have ag : decide (aa < (l0.length : Int)) = true := decide_eq_true c4
     clear c4
     by_cases c5 : 0 ≤ aa
     ·rw [if_pos c5] at H
      have aj : decide (0 ≤ aa) = true := decide_eq_true c5
      clear c5
      by_cases c6 : aa < (l1.length : Int)
      ·rw [if_pos c6] at H
       have ak : decide (aa < (l1.length : Int)) = true := decide_eq_true c6
       clear c6
       by_cases c7 : (rd l0 aa) = (rd l1 aa)
       ·rw [if_pos c7] at H
        have ah : ((rd l0 aa) == (rd l1 aa)) = true := beq_iff_eq.mpr c7
        have ai : ((rd l0 aa) != (rd l1 aa)) = false := bne_eq_false_iff_eq.mpr c7
        clear c7
        have H' := Aside0.mk H
        clear H
        have p314 : 0 ≤ (aa : Int) := od_
        have q314 : aa < (l0.length : Int) := od_
        obtain ⟨ad314, e314, hx314_0⟩ := Kd.at_int ae.out aa p314 q314
        cases e314
        replace p314 := eq_true p314; replace q314 := eq_true q314
        have p315 : 0 ≤ (aa : Int) := od_
        have q315 : aa < (l1.length : Int) := od_
        obtain ⟨ad315, e315, hx315_0⟩ := Kd.at_int af.out aa p315 q315
        cases e315
        replace p315 := eq_true p315; replace q315 := eq_true q315
        go_wp2
        repeat (go_quiet (fail); try go_wp2)
        go_roundg k1
        case measure => have := HK1.out; omega
        case rel => exact ⟨(wrap64 (aa + 1)), rs_, H', ⟨om_ HK1⟩, dn_⟩
       ·rw [if_neg c7] at H
        have ah : ((rd l0 aa) == (rd l1 aa)) = false := beq_eq_false_iff_ne.mpr c7
        have ai : ((rd l0 aa) != (rd l1 aa)) = true := bne_iff_ne.mpr c7
        obtain rfl := Option.some.inj H
        have p314 : 0 ≤ (aa : Int) := od_
        have q314 : aa < (l0.length : Int) := od_
        obtain ⟨ad314, e314, hx314_0⟩ := Kd.at_int ae.out aa p314 q314
        cases e314
        replace p314 := eq_true p314; replace q314 := eq_true q314
        have p315 : 0 ≤ (aa : Int) := od_
        have q315 : aa < (l1.length : Int) := od_
        obtain ⟨ad315, e315, hx315_0⟩ := Kd.at_int af.out aa p315 q315
        cases e315
        replace p315 := eq_true p315; replace q315 := eq_true q315
        go_wp2
        repeat (go_quiet (fail); try go_wp2)
        go_ret
        exact ⟨rs_, dn_⟩
      ·rw [if_neg c6] at H
       exact absurd H (by simp)
     ·rw [if_neg c5] at H
      exact absurd H (by simp)
    ·rw [if_neg c4] at H
     have ag : decide (aa < (l0.length : Int)) = false := decide_eq_false c4
     clear c4
     obtain rfl := Option.some.inj H
     go_wp2
     repeat (go_quiet (fail); try go_wp2)
     go_ret
     exact ⟨rs_, dn_⟩
 ·rw [if_neg c3] at H
  have ab : ((l0.length : Int) == (l1.length : Int)) = false := beq_eq_false_iff_ne.mpr c3
  have ac : ((l0.length : Int) != (l1.length : Int)) = true := bne_iff_ne.mpr c3
  have ad : (l0.length == l1.length) = false := by first | simpa using c3 | (simp at c3 ⊢; omega)
  obtain rfl := Option.some.inj H
  go_enter Try.func44, Try.ntmps44
  go_wp2
  repeat (go_quiet (fail); try go_wp2)
  go_ret
  exact ⟨rs_, dn_⟩

theorem lodgerref08_Addrs.refl_ {l : List Int} (hl : l.length ≤ maxLen) : ∃ k, lodgerref08_Addrs.f k l l = some true := by
  unfold maxLen at hl
  have all : ∀ (d : Nat) (i : Int) (k : Nat), 0 ≤ i → i ≤ (l.length : Int) → (l.length : Int) - i = d → d < k → lodgerref08_Addrs.l0 k l l i = some true := by
    intro d
    induction d with
    | zero =>
      intro i k h0 h1 hd hk
      obtain ⟨k, rfl⟩ : ∃ m, k = m + 1 := ⟨k - 1, by omega⟩
      simp only [lodgerref08_Addrs.l0]; rw [if_neg (by omega)]
    | succ d ih =>
      intro i k h0 h1 hd hk
      obtain ⟨k, rfl⟩ : ∃ m, k = m + 1 := ⟨k - 1, by omega⟩
      simp only [lodgerref08_Addrs.l0]
      rw [if_pos (by omega), if_pos (by omega), if_pos (by omega), if_pos trivial, show wrap64 (i + 1) = i + 1 by unfold wrap64; omega]
      exact ih (i + 1) k (by omega) (by omega) (by omega) (by omega)
  refine ⟨l.length + 1, ?_⟩
  unfold lodgerref08_Addrs.f
  rw [if_pos rfl]
  exact all l.length 0 (l.length + 1) (by omega) (by omega) (by omega) (by omega)
theorem addrq_ {tb_ : Int → Option Addr × Nat × Nat} {x y : Int} {w : World} (h : x = y ∧ qa_ x) (hG : Lg tb_ w) : Calls Try.prog 44 #[rho_ tb_ x, rho_ tb_ y] w fun e w' => e = .returned (.bool true) ∧ Drawn0 w w' := by
  obtain ⟨rfl, hq⟩ := h
  obtain ⟨l, h1, h2, h3, h4⟩ : Rdq .u32 tb_ x w := by rcases hq with rfl | rfl; (exact hG.1); exact hG.2.1
  obtain ⟨k, hk⟩ := lodgerref08_Addrs.refl_ h4
  have := lodgerref08_Addrs.calls (k := k) (r := true) (w := w) (h := hk) (hr0 := h2) (hc0 := h3) (hr1 := h2) (hc1 := h3)
  rw [← h1] at this
  exact this
/-! ### lodgerref08_Asks: function 34 -/
def lodgerref08_Asks.f (a0_0 a0_1 : Int) (a0_2 a1_0 : Int) (a1_1 a1_2 : Int) : Option (Bool) := if a0_0 = a1_0 then (if a0_1 = a1_1 then (if (a0_2 = a1_2 ∧ qa_ a0_2) then (some true) else (none)) else (some false)) else (some false)
set_option maxHeartbeats 8000000 in
set_option maxRecDepth 100000 in
theorem lodgerref08_Asks.calls (ad ae : Int) (af ag : Int) (ah ai : Int) (r : Bool) (w : World) (hG : Lg tb_ w) (h : lodgerref08_Asks.f ad ae af ag ah ai = some r) :
  Calls Try.prog 34 #[.agg #[.int .i64 ad, .int .u32 ae, rho_ tb_ af], .agg #[.int .i64 ag, .int .u32 ah, rho_ tb_ ai]] w fun e w' => e = .returned (.bool r) ∧ Below w.heap.size w w' := by
 have hu34 := Try.underlying34
 have HB := Aside0.mk (Below.refl w.heap.size w)
 have HG := Aside0.mk hG
 clear hG
 have H : (if ad = ag then (if ae = ah then (if (af = ai ∧ qa_ af) then (some true) else (none)) else (some false)) else (some false)) = some r := h
 clear h
 by_cases c3 : ad = ag
 ·rw [if_pos c3] at H
  have aq : (ad == ag) = true := beq_iff_eq.mpr c3
  have ar : (ad != ag) = false := bne_eq_false_iff_eq.mpr c3
  clear c3
  by_cases c4 : ae = ah
  ·rw [if_pos c4] at H
   have au : (ae == ah) = true := beq_iff_eq.mpr c4
   have av : (ae != ah) = false := bne_eq_false_iff_eq.mpr c4
   clear c4
   by_cases c5 : (af = ai ∧ qa_ af)
   ·rw [if_pos c5] at H
    have ba := eq_true c5
    have bb : decide ((af = ai ∧ qa_ af)) = true := decide_eq_true c5
    clear c5
    obtain rfl := Option.some.inj H
    go_enter Try.func34, Try.ntmps34
    go_wp2_with (first | (go_at_call 44; refine (addrq_ (of_eq_true (by assumption)) (Lg_below HG.out (hB_ HB))).mono ?_; rintro e w' ⟨rfl, ⟨nd, rfl⟩⟩) | ((with_reducible refine gd_ 2 ?_); refine bx_ (N := 2) (cs := #[.int .i64 ad, .int .u32 ae, rho_ tb_ af]) (t := 34) ?_; intro ao hg w6 aa hb; have am := gG_ hg HB; have ak := gG_ hg HB; replace HB := hS_ HB hb; clear hb hg) | ((with_reducible refine gd_ 3 ?_); refine bx_ (N := 3) (cs := #[.int .i64 ag, .int .u32 ah, rho_ tb_ ai]) (t := 34) ?_; intro ap hg w7 aj hb; have an := gG_ hg HB; have al := gG_ hg HB; replace HB := hS_ HB hb; have ab := nL_ hg aa; have ac := nG_ hg aa; replace aa := bB_ aa hb; clear hb hg; have bc := ab.out; have bd := ac.out; obtain ⟨a0, a1, a2, a3, a4, a5⟩ := cz3_ (w := w7) aa; obtain ⟨aw, ax, ay, aL, aM, aN⟩ := cz3_ (w := w7) aj))
    go_ret
    exact ⟨er_, hB_ HB⟩
   ·rw [if_neg c5] at H
    exact absurd H (by simp)
  ·rw [if_neg c4] at H
   have au : (ae == ah) = false := beq_eq_false_iff_ne.mpr c4
   have av : (ae != ah) = true := bne_iff_ne.mpr c4
   obtain rfl := Option.some.inj H
   go_enter Try.func34, Try.ntmps34
   go_wp2_with (first | (go_at_call 44; refine (addrq_ (of_eq_true (by assumption)) (Lg_below HG.out (hB_ HB))).mono ?_; rintro e w' ⟨rfl, ⟨nd, rfl⟩⟩) | ((with_reducible refine gd_ 2 ?_); refine bx_ (N := 2) (cs := #[.int .i64 ad, .int .u32 ae, rho_ tb_ af]) (t := 34) ?_; intro ao hg w11 aa hb; have am := gG_ hg HB; have ak := gG_ hg HB; replace HB := hS_ HB hb; clear hb hg) | ((with_reducible refine gd_ 3 ?_); refine bx_ (N := 3) (cs := #[.int .i64 ag, .int .u32 ah, rho_ tb_ ai]) (t := 34) ?_; intro ap hg w12 aj hb; have an := gG_ hg HB; have al := gG_ hg HB; replace HB := hS_ HB hb; have ab := nL_ hg aa; have ac := nG_ hg aa; replace aa := bB_ aa hb; clear hb hg; have a6 := ab.out; have a8 := ac.out; obtain ⟨az, aA, aB, aO, aP, aQ⟩ := cz3_ (w := w12) aa; obtain ⟨aC, aD, aE, aR, aS, aT⟩ := cz3_ (w := w12) aj))
   go_ret
   exact ⟨er_, hB_ HB⟩
 ·rw [if_neg c3] at H
  have aq : (ad == ag) = false := beq_eq_false_iff_ne.mpr c3
  have ar : (ad != ag) = true := bne_iff_ne.mpr c3
  obtain rfl := Option.some.inj H
  go_enter Try.func34, Try.ntmps34
  go_wp2_with (first | (go_at_call 44; refine (addrq_ (of_eq_true (by assumption)) (Lg_below HG.out (hB_ HB))).mono ?_; rintro e w' ⟨rfl, ⟨nd, rfl⟩⟩) | ((with_reducible refine gd_ 2 ?_); refine bx_ (N := 2) (cs := #[.int .i64 ad, .int .u32 ae, rho_ tb_ af]) (t := 34) ?_; intro ao hg w16 aa hb; have am := gG_ hg HB; have ak := gG_ hg HB; replace HB := hS_ HB hb; clear hb hg) | ((with_reducible refine gd_ 3 ?_); refine bx_ (N := 3) (cs := #[.int .i64 ag, .int .u32 ah, rho_ tb_ ai]) (t := 34) ?_; intro ap hg w17 aj hb; have an := gG_ hg HB; have al := gG_ hg HB; replace HB := hS_ HB hb; have ab := nL_ hg aa; have ac := nG_ hg aa; replace aa := bB_ aa hb; clear hb hg; have a7 := ab.out; have a9 := ac.out; obtain ⟨aF, aG, aH, aU, aV, aW⟩ := cz3_ (w := w17) aa; obtain ⟨aI, aJ, aK, aX, aY, aZ⟩ := cz3_ (w := w17) aj))
  go_ret
  exact ⟨er_, hB_ HB⟩

/-! ### lodgerref08_Errs: function 45 -/
def lodgerref08_Errs.l0 : Nat → List Int → List Int → Int → Option (Bool)
 | 0, _, _, _ => none
 | k + 1, x0, x1, x5 => if x5 < (x0.length : Int) then (if 0 ≤ x5 then (if x5 < (x1.length : Int) then (if (rd x0 x5) = (rd x1 x5) then (lodgerref08_Errs.l0 k x0 x1 (wrap64 (x5 + 1))) else (some false)) else (none)) else (none)) else (some true)
def lodgerref08_Errs.f (k : Nat) (l0 l1 : List Int) : Option (Bool) := if (l0.length : Int) = (l1.length : Int) then (lodgerref08_Errs.l0 k l0 l1 0) else (some false)
theorem lodgerref08_Errs.mono_l : ∀ k, (∀ y0 y1 y2, LeO (lodgerref08_Errs.l0 k y0 y1 y2) (lodgerref08_Errs.l0 (k + 1) y0 y1 y2))
 | 0 => fun _ _ _ r h => by simp [lodgerref08_Errs.l0] at h
 | k + 1 => by
  have ih0 := lodgerref08_Errs.mono_l k
  ·intro y0 y1 y2
   unfold lodgerref08_Errs.l0
   repeat' (with_reducible first | apply ih0 | exact LeO.refl _ | exact LeO.none _ | refine LeO.ite ?_ ?_ | refine LeO.bind ?_ (fun _ => ?_))
theorem lodgerref08_Errs.mono : ∀ a0 a1 k, LeO (lodgerref08_Errs.f k a0 a1) (lodgerref08_Errs.f (k + 1) a0 a1) := by
 intro a0 a1 k
 have ih0 := lodgerref08_Errs.mono_l k
 unfold lodgerref08_Errs.f
 repeat' (with_reducible first | apply ih0 | exact LeO.refl _ | exact LeO.none _ | refine LeO.ite ?_ ?_ | refine LeO.bind ?_ (fun _ => ?_))
set_option maxHeartbeats 8000000 in
set_option maxRecDepth 100000 in
theorem lodgerref08_Errs.calls (k : Nat) (A0 : Option Addr) (c0 : Nat) (l0 : List Int) (A1 : Option Addr) (c1 : Nat) (l1 : List Int) (r : Bool) (w : World) (hr0 : Kd.C (Kd.int .i64) w A0 l0.length l0) (hc0 : l0.length ≤ c0) (hr1 : Kd.C (Kd.int .i64) w A1 l1.length l1) (hc1 : l1.length ≤ c1) (h : lodgerref08_Errs.f k l0 l1 = some r) :
  Calls Try.prog 45 #[.slice A0 l0.length c0, .slice A1 l1.length c1] w fun e w' => e = .returned (.bool r) ∧ Drawn0 w w' := by
 have ae := Aside0.mk hr0
 have al := Aside0.mk hc0
 clear hr0 hc0
 have af := Aside0.mk hr1
 have am := Aside0.mk hc1
 clear hr1 hc1
 have H : (if (l0.length : Int) = (l1.length : Int) then (lodgerref08_Errs.l0 k l0 l1 0) else (some false)) = some r := h
 clear h
 by_cases c3 : (l0.length : Int) = (l1.length : Int)
 ·rw [if_pos c3] at H
  have ab : ((l0.length : Int) == (l1.length : Int)) = true := beq_iff_eq.mpr c3
  have ac : ((l0.length : Int) != (l1.length : Int)) = false := bne_eq_false_iff_eq.mpr c3
  have ad : (l0.length == l1.length) = true := by first | simpa using c3 | (simp at c3 ⊢; omega)
  clear c3
  have H' := Aside0.mk H
  clear H
  go_enter Try.func45, Try.ntmps45
  go_wp2
  repeat (go_quiet (fail); try go_wp2)
  go_loopg [5] k (fun kq v5 w' => ∃ (aa : Int), v5 = .int .i64 aa ∧ Aside0 (lodgerref08_Errs.l0 kq l0 l1 aa = some r) ∧ Aside0 (kq ≤ k) ∧ Drawn0 w w')
  case atStart => exact ⟨(0), rs_, H', ⟨Nat.le_refl _⟩, dn_⟩
  case round =>
   clear H'
   try clear c1
   try clear p2
   try clear c3
   try clear ab
   try clear ac
   try clear ad
   obtain ⟨aa, rfl, HA, HK1, ⟨m1, rfl⟩⟩ := hrel
   cases gk with
   | zero => exact absurd HA.out (by simp [lodgerref08_Errs.l0])
   | succ k1 =>
    have H := HA.out; clear HA; simp only [lodgerref08_Errs.l0] at H
    by_cases c4 : aa < (l0.length : Int)
    ·rw [if_pos c4] at H
     have ag : decide (aa < (l0.length : Int)) = true := decide_eq_true c4
     clear c4
     by_cases c5 : 0 ≤ aa
     ·rw [if_pos c5] at H
      have aj : decide (0 ≤ aa) = true := decide_eq_true c5
      clear c5
      by_cases c6 : aa < (l1.length : Int)
      ·rw [if_pos c6] at H
       have ak : decide (aa < (l1.length : Int)) = true := decide_eq_true c6
       clear c6
       by_cases c7 : (rd l0 aa) = (rd l1 aa)
       ·rw [if_pos c7] at H
        have ah : ((rd l0 aa) == (rd l1 aa)) = true := beq_iff_eq.mpr c7
        have ai : ((rd l0 aa) != (rd l1 aa)) = false := bne_eq_false_iff_eq.mpr c7
        clear c7
        have H' := Aside0.mk H
        clear H
        have p318 : 0 ≤ (aa : Int) := od_
        have q318 : aa < (l0.length : Int) := od_
        obtain ⟨ad318, e318, hx318_0⟩ := Kd.at_int ae.out aa p318 q318
        cases e318
        replace p318 := eq_true p318; replace q318 := eq_true q318
        have p319 : 0 ≤ (aa : Int) := od_
        have q319 : aa < (l1.length : Int) := od_
        obtain ⟨ad319, e319, hx319_0⟩ := Kd.at_int af.out aa p319 q319
        cases e319
        replace p319 := eq_true p319; replace q319 := eq_true q319
        go_wp2
        repeat (go_quiet (fail); try go_wp2)
        go_roundg k1
        case measure => have := HK1.out; omega
        case rel => exact ⟨(wrap64 (aa + 1)), rs_, H', ⟨om_ HK1⟩, dn_⟩
       ·rw [if_neg c7] at H
        have ah : ((rd l0 aa) == (rd l1 aa)) = false := beq_eq_false_iff_ne.mpr c7
        have ai : ((rd l0 aa) != (rd l1 aa)) = true := bne_iff_ne.mpr c7
        obtain rfl := Option.some.inj H
        have p318 : 0 ≤ (aa : Int) := od_
        have q318 : aa < (l0.length : Int) := od_
        obtain ⟨ad318, e318, hx318_0⟩ := Kd.at_int ae.out aa p318 q318
        cases e318
        replace p318 := eq_true p318; replace q318 := eq_true q318
        have p319 : 0 ≤ (aa : Int) := od_
        have q319 : aa < (l1.length : Int) := od_
        obtain ⟨ad319, e319, hx319_0⟩ := Kd.at_int af.out aa p319 q319
        cases e319
        replace p319 := eq_true p319; replace q319 := eq_true q319
        go_wp2
        repeat (go_quiet (fail); try go_wp2)
        go_ret
        exact ⟨rs_, dn_⟩
      ·rw [if_neg c6] at H
       exact absurd H (by simp)
     ·rw [if_neg c5] at H
      exact absurd H (by simp)
    ·rw [if_neg c4] at H
     have ag : decide (aa < (l0.length : Int)) = false := decide_eq_false c4
     clear c4
     obtain rfl := Option.some.inj H
     go_wp2
     repeat (go_quiet (fail); try go_wp2)
     go_ret
     exact ⟨rs_, dn_⟩
 ·rw [if_neg c3] at H
  have ab : ((l0.length : Int) == (l1.length : Int)) = false := beq_eq_false_iff_ne.mpr c3
  have ac : ((l0.length : Int) != (l1.length : Int)) = true := bne_iff_ne.mpr c3
  have ad : (l0.length == l1.length) = false := by first | simpa using c3 | (simp at c3 ⊢; omega)
  obtain rfl := Option.some.inj H
  go_enter Try.func45, Try.ntmps45
  go_wp2
  repeat (go_quiet (fail); try go_wp2)
  go_ret
  exact ⟨rs_, dn_⟩

theorem lodgerref08_Errs.refl_ {l : List Int} (hl : l.length ≤ maxLen) : ∃ k, lodgerref08_Errs.f k l l = some true := by
  unfold maxLen at hl
  have all : ∀ (d : Nat) (i : Int) (k : Nat), 0 ≤ i → i ≤ (l.length : Int) → (l.length : Int) - i = d → d < k → lodgerref08_Errs.l0 k l l i = some true := by
    intro d
    induction d with
    | zero =>
      intro i k h0 h1 hd hk
      obtain ⟨k, rfl⟩ : ∃ m, k = m + 1 := ⟨k - 1, by omega⟩
      simp only [lodgerref08_Errs.l0]; rw [if_neg (by omega)]
    | succ d ih =>
      intro i k h0 h1 hd hk
      obtain ⟨k, rfl⟩ : ∃ m, k = m + 1 := ⟨k - 1, by omega⟩
      simp only [lodgerref08_Errs.l0]
      rw [if_pos (by omega), if_pos (by omega), if_pos (by omega), if_pos trivial, show wrap64 (i + 1) = i + 1 by unfold wrap64; omega]
      exact ih (i + 1) k (by omega) (by omega) (by omega) (by omega)
  refine ⟨l.length + 1, ?_⟩
  unfold lodgerref08_Errs.f
  rw [if_pos rfl]
  exact all l.length 0 (l.length + 1) (by omega) (by omega) (by omega) (by omega)
theorem errq_ {tb_ : Int → Option Addr × Nat × Nat} {x y : Int} {w : World} (h : x = y ∧ qe_ x) (hG : Lg tb_ w) : Calls Try.prog 45 #[rho_ tb_ x, rho_ tb_ y] w fun e w' => e = .returned (.bool true) ∧ Drawn0 w w' := by
  obtain ⟨rfl, hq⟩ := h
  obtain ⟨l, h1, h2, h3, h4⟩ : Rdq .i64 tb_ x w := by obtain rfl := hq; exact hG.2.2.1
  obtain ⟨k, hk⟩ := lodgerref08_Errs.refl_ h4
  have := lodgerref08_Errs.calls (k := k) (r := true) (w := w) (h := hk) (hr0 := h2) (hc0 := h3) (hr1 := h2) (hc1 := h3)
  rw [← h1] at this
  exact this
/-! ### lodgerref08_Answers: function 35 -/
def lodgerref08_Answers.f (a0_0 a0_1 : Int) (a0_2 : Bool) (a0_3 a0_4 : Int) (a1_0 a1_1 : Int) (a1_2 : Bool) (a1_3 a1_4 : Int) : Option (Bool) := if a0_0 = a1_0 then (if a0_1 = a1_1 then (if (a0_2 == a1_2) = true then (if (a0_3 = a1_3 ∧ qa_ a0_3) then (if (a0_4 = a1_4 ∧ qe_ a0_4) then (some true) else (none)) else (none)) else (some false)) else (some false)) else (some false)
set_option maxHeartbeats 8000000 in
set_option maxRecDepth 100000 in
theorem lodgerref08_Answers.calls (af ag : Int) (ad : Bool) (ah ai : Int) (aj ak : Int) (ae : Bool) (am an : Int) (r : Bool) (w : World) (hG : Lg tb_ w) (h : lodgerref08_Answers.f af ag ad ah ai aj ak ae am an = some r) :
  Calls Try.prog 35 #[.agg #[.int .i64 af, .int .u32 ag, .bool ad, rho_ tb_ ah, rho_ tb_ ai], .agg #[.int .i64 aj, .int .u32 ak, .bool ae, rho_ tb_ am, rho_ tb_ an]] w fun e w' => e = .returned (.bool r) ∧ Below w.heap.size w w' := by
 have hu38 := Try.underlying38
 have HB := Aside0.mk (Below.refl w.heap.size w)
 have HG := Aside0.mk hG
 clear hG
 have H : (if af = aj then (if ag = ak then (if (ad == ae) = true then (if (ah = am ∧ qa_ ah) then (if (ai = an ∧ qe_ ai) then (some true) else (none)) else (none)) else (some false)) else (some false)) else (some false)) = some r := h
 clear h
 by_cases c3 : af = aj
 ·rw [if_pos c3] at H
  have aw : (af == aj) = true := beq_iff_eq.mpr c3
  have ax : (af != aj) = false := bne_eq_false_iff_eq.mpr c3
  clear c3
  by_cases c4 : ag = ak
  ·rw [if_pos c4] at H
   have ay : (ag == ak) = true := beq_iff_eq.mpr c4
   have az : (ag != ak) = false := bne_eq_false_iff_eq.mpr c4
   clear c4
   by_cases c5 : (ad == ae) = true
   ·rw [if_pos c5] at H
    have aA : (ad == ae) = true := c5
    (try (have aB : decide (ad = ae) = true := by simpa using c5))
    (try (have aC : (ad == ae) = true := by simpa using c5))
    clear c5
    by_cases c6 : (ah = am ∧ qa_ ah)
    ·rw [if_pos c6] at H
     have b5 := eq_true c6
     have b6 : decide ((ah = am ∧ qa_ ah)) = true := decide_eq_true c6
     clear c6
     by_cases c7 : (ai = an ∧ qe_ ai)
     ·rw [if_pos c7] at H
      have b7 := eq_true c7
      have b8 : decide ((ai = an ∧ qe_ ai)) = true := decide_eq_true c7
      clear c7
      obtain rfl := Option.some.inj H
      go_enter Try.func35, Try.ntmps35
      go_wp2_with (first | (go_at_call 44; refine (addrq_ (of_eq_true (by assumption)) (Lg_below HG.out (hB_ HB))).mono ?_; rintro e w' ⟨rfl, ⟨nd, rfl⟩⟩) | (go_at_call 45; refine (errq_ (of_eq_true (by assumption)) (Lg_below HG.out (hB_ HB))).mono ?_; rintro e w' ⟨rfl, ⟨nd, rfl⟩⟩) | ((with_reducible refine gd_ 2 ?_); refine bx_ (N := 2) (cs := #[.int .i64 af, .int .u32 ag, .bool ad, rho_ tb_ ah, rho_ tb_ ai]) (t := 38) ?_; intro au hg w8 aa hb; have aq := gG_ hg HB; have ao := gG_ hg HB; replace HB := hS_ HB hb; clear hb hg) | ((with_reducible refine gd_ 3 ?_); refine bx_ (N := 3) (cs := #[.int .i64 aj, .int .u32 ak, .bool ae, rho_ tb_ am, rho_ tb_ an]) (t := 38) ?_; intro av hg w9 al hb; have ar := gG_ hg HB; have ap := gG_ hg HB; replace HB := hS_ HB hb; have ab := nL_ hg aa; have ac := nG_ hg aa; replace aa := bB_ aa hb; clear hb hg; have bW := ab.out; have b0 := ac.out; obtain ⟨aD, aE, aF, aG, aH, bh, bi, bj, bk, bl⟩ := cz5_ (w := w9) aa; obtain ⟨aI, aJ, aK, aL, aM, bm, bn, bo, bp, bq⟩ := cz5_ (w := w9) al))
      go_ret
      exact ⟨er_, hB_ HB⟩
     ·rw [if_neg c7] at H
      exact absurd H (by simp)
    ·rw [if_neg c6] at H
     exact absurd H (by simp)
   ·rw [if_neg c5] at H
    have aA : (ad == ae) = false := by simpa using c5
    (try (have aB : decide (ad = ae) = false := by simpa using c5))
    (try (have aC : (ad == ae) = false := by simpa using c5))
    (try (have b4 : ¬ (ad = ae) := by simpa using c5))
    clear c5
    obtain rfl := Option.some.inj H
    go_enter Try.func35, Try.ntmps35
    go_wp2_with (first | (go_at_call 44; refine (addrq_ (of_eq_true (by assumption)) (Lg_below HG.out (hB_ HB))).mono ?_; rintro e w' ⟨rfl, ⟨nd, rfl⟩⟩) | (go_at_call 45; refine (errq_ (of_eq_true (by assumption)) (Lg_below HG.out (hB_ HB))).mono ?_; rintro e w' ⟨rfl, ⟨nd, rfl⟩⟩) | ((with_reducible refine gd_ 2 ?_); refine bx_ (N := 2) (cs := #[.int .i64 af, .int .u32 ag, .bool ad, rho_ tb_ ah, rho_ tb_ ai]) (t := 38) ?_; intro au hg w13 aa hb; have aq := gG_ hg HB; have ao := gG_ hg HB; replace HB := hS_ HB hb; clear hb hg) | ((with_reducible refine gd_ 3 ?_); refine bx_ (N := 3) (cs := #[.int .i64 aj, .int .u32 ak, .bool ae, rho_ tb_ am, rho_ tb_ an]) (t := 38) ?_; intro av hg w14 al hb; have ar := gG_ hg HB; have ap := gG_ hg HB; replace HB := hS_ HB hb; have ab := nL_ hg aa; have ac := nG_ hg aa; replace aa := bB_ aa hb; clear hb hg; have bX := ab.out; have b1 := ac.out; obtain ⟨aN, aO, aP, aQ, aR, br, bs, bt, bu, bv⟩ := cz5_ (w := w14) aa; obtain ⟨aS, aT, aU, aV, aW, bw, bx, bz, bA, bB⟩ := cz5_ (w := w14) al))
    go_ret
    exact ⟨er_, hB_ HB⟩
  ·rw [if_neg c4] at H
   have ay : (ag == ak) = false := beq_eq_false_iff_ne.mpr c4
   have az : (ag != ak) = true := bne_iff_ne.mpr c4
   obtain rfl := Option.some.inj H
   go_enter Try.func35, Try.ntmps35
   go_wp2_with (first | (go_at_call 44; refine (addrq_ (of_eq_true (by assumption)) (Lg_below HG.out (hB_ HB))).mono ?_; rintro e w' ⟨rfl, ⟨nd, rfl⟩⟩) | (go_at_call 45; refine (errq_ (of_eq_true (by assumption)) (Lg_below HG.out (hB_ HB))).mono ?_; rintro e w' ⟨rfl, ⟨nd, rfl⟩⟩) | ((with_reducible refine gd_ 2 ?_); refine bx_ (N := 2) (cs := #[.int .i64 af, .int .u32 ag, .bool ad, rho_ tb_ ah, rho_ tb_ ai]) (t := 38) ?_; intro au hg w18 aa hb; have aq := gG_ hg HB; have ao := gG_ hg HB; replace HB := hS_ HB hb; clear hb hg) | ((with_reducible refine gd_ 3 ?_); refine bx_ (N := 3) (cs := #[.int .i64 aj, .int .u32 ak, .bool ae, rho_ tb_ am, rho_ tb_ an]) (t := 38) ?_; intro av hg w19 al hb; have ar := gG_ hg HB; have ap := gG_ hg HB; replace HB := hS_ HB hb; have ab := nL_ hg aa; have ac := nG_ hg aa; replace aa := bB_ aa hb; clear hb hg; have bY := ab.out; have b2 := ac.out; obtain ⟨aX, aY, aZ, a0, a1, bC, bD, bE, bF, bG⟩ := cz5_ (w := w19) aa; obtain ⟨a2, a3, a4, a5, a6, bH, bI, bJ, bK, bL⟩ := cz5_ (w := w19) al))
   go_ret
   exact ⟨er_, hB_ HB⟩
 ·rw [if_neg c3] at H
  have aw : (af == aj) = false := beq_eq_false_iff_ne.mpr c3
  have ax : (af != aj) = true := bne_iff_ne.mpr c3
  obtain rfl := Option.some.inj H
  go_enter Try.func35, Try.ntmps35
  go_wp2_with (first | (go_at_call 44; refine (addrq_ (of_eq_true (by assumption)) (Lg_below HG.out (hB_ HB))).mono ?_; rintro e w' ⟨rfl, ⟨nd, rfl⟩⟩) | (go_at_call 45; refine (errq_ (of_eq_true (by assumption)) (Lg_below HG.out (hB_ HB))).mono ?_; rintro e w' ⟨rfl, ⟨nd, rfl⟩⟩) | ((with_reducible refine gd_ 2 ?_); refine bx_ (N := 2) (cs := #[.int .i64 af, .int .u32 ag, .bool ad, rho_ tb_ ah, rho_ tb_ ai]) (t := 38) ?_; intro au hg w23 aa hb; have aq := gG_ hg HB; have ao := gG_ hg HB; replace HB := hS_ HB hb; clear hb hg) | ((with_reducible refine gd_ 3 ?_); refine bx_ (N := 3) (cs := #[.int .i64 aj, .int .u32 ak, .bool ae, rho_ tb_ am, rho_ tb_ an]) (t := 38) ?_; intro av hg w24 al hb; have ar := gG_ hg HB; have ap := gG_ hg HB; replace HB := hS_ HB hb; have ab := nL_ hg aa; have ac := nG_ hg aa; replace aa := bB_ aa hb; clear hb hg; have bZ := ab.out; have b3 := ac.out; obtain ⟨a7, a8, a9, ba, bb, bM, bN, bO, bP, bQ⟩ := cz5_ (w := w24) aa; obtain ⟨bc, bd, be, bf, bg, bR, bS, bT, bU, bV⟩ := cz5_ (w := w24) al))
  go_ret
  exact ⟨er_, hB_ HB⟩

/-! ### lodgerref08_Same: function 20 -/
def lodgerref08_Same.f (a0_0 a0_1 : Int) (a0_2 a0_3 a0_4 : Int) (a0_5 : Bool) (a0_6 a0_7 : Int) (a0_8 a0_9 : Int) (a0_10 a0_11 : Int) (a0_12 a0_13 : Int) (a0_14 : Bool) (a0_15 a0_16 : Int) (a0_17 a0_18 : Int) (a0_19 a1_0 : Int) (a1_1 a1_2 : Int) (a1_3 a1_4 : Int) (a1_5 : Bool) (a1_6 a1_7 : Int) (a1_8 a1_9 : Int) (a1_10 a1_11 : Int) (a1_12 a1_13 : Int) (a1_14 : Bool) (a1_15 a1_16 : Int) (a1_17 a1_18 a1_19 : Int) : Option (Bool) := (lodgerref08_Asks.f a0_0 a0_1 a0_2 a1_0 a1_1 a1_2).bind fun t324 => (if t324 = true then ((lodgerref08_Answers.f a0_3 a0_4 a0_5 a0_6 a0_7 a1_3 a1_4 a1_5 a1_6 a1_7).bind fun t325 => (if t325 = true then (if a0_8 = a1_8 then (if a0_9 = a1_9 then (if a0_10 = a1_10 then (if a0_11 = a1_11 then (if a0_12 = a1_12 then (if a0_13 = a1_13 then (if (a0_14 == a1_14) = true then (if (a0_15 = a1_15 ∧ qs_ a0_15) then (if a0_16 = a1_16 then (if a0_17 = a1_17 then (if a0_18 = a1_18 then (some (a0_19 == a1_19)) else (some false)) else (some false)) else (some false)) else (none)) else (some false)) else (some false)) else (some false)) else (some false)) else (some false)) else (some false)) else (some false)) else (some false))) else (some false))
set_option maxHeartbeats 8000000 in
set_option maxRecDepth 100000 in
theorem lodgerref08_Same.calls (ac ad : Int) (ae af ag : Int) (ah : Bool) (ai aj : Int) (an ao : Int) (a0_10 a0_11 : Int) (a0_12 a0_13 : Int) (a0_14 : Bool) (a0_15 a0_16 : Int) (a0_17 a0_18 : Int) (a0_19 ak : Int) (al am : Int) (au av : Int) (aw : Bool) (ax ay : Int) (az aA : Int) (a1_10 a1_11 : Int) (a1_12 a1_13 : Int) (a1_14 : Bool) (a1_15 a1_16 : Int) (a1_17 a1_18 a1_19 : Int) (r : Bool) (w : World) (hG : Lg tb_ w) (h : lodgerref08_Same.f ac ad ae af ag ah ai aj an ao a0_10 a0_11 a0_12 a0_13 a0_14 a0_15 a0_16 a0_17 a0_18 a0_19 ak al am au av aw ax ay az aA a1_10 a1_11 a1_12 a1_13 a1_14 a1_15 a1_16 a1_17 a1_18 a1_19 = some r) :
  Calls Try.prog 20 #[.agg #[.int .i64 ac, .int .u32 ad, rho_ tb_ ae, .int .i64 af, .int .u32 ag, .bool ah, rho_ tb_ ai, rho_ tb_ aj, .int .i64 an, .int .i64 ao, .int .i64 a0_10, .int .i64 a0_11, .int .i64 a0_12, .int .u64 a0_13, .bool a0_14, rho_ tb_ a0_15, .int .i64 a0_16, .int .i64 a0_17, .int .i64 a0_18, .int .i64 a0_19], .agg #[.int .i64 ak, .int .u32 al, rho_ tb_ am, .int .i64 au, .int .u32 av, .bool aw, rho_ tb_ ax, rho_ tb_ ay, .int .i64 az, .int .i64 aA, .int .i64 a1_10, .int .i64 a1_11, .int .i64 a1_12, .int .u64 a1_13, .bool a1_14, rho_ tb_ a1_15, .int .i64 a1_16, .int .i64 a1_17, .int .i64 a1_18, .int .i64 a1_19]] w fun e w' => e = .returned (.bool r) ∧ Below w.heap.size w w' := by
 have hu41 := Try.underlying41
 have hu34 := Try.underlying34
 have hu38 := Try.underlying38
 have HB := Aside0.mk (Below.refl w.heap.size w)
 have HG := Aside0.mk hG
 clear hG
 have H : ((lodgerref08_Asks.f ac ad ae ak al am).bind fun aH => (if aH = true then ((lodgerref08_Answers.f af ag ah ai aj au av aw ax ay).bind fun aG => (if aG = true then (if an = az then (if ao = aA then (if a0_10 = a1_10 then (if a0_11 = a1_11 then (if a0_12 = a1_12 then (if a0_13 = a1_13 then (if (a0_14 == a1_14) = true then (if (a0_15 = a1_15 ∧ qs_ a0_15) then (if a0_16 = a1_16 then (if a0_17 = a1_17 then (if a0_18 = a1_18 then (some (a0_19 == a1_19)) else (some false)) else (some false)) else (some false)) else (none)) else (some false)) else (some false)) else (some false)) else (some false)) else (some false)) else (some false)) else (some false)) else (some false))) else (some false))) = some r := h
 clear h
 replace H := bi_ H
 obtain ⟨aH, A30, H⟩ := H
 replace H : (if aH = true then ((lodgerref08_Answers.f af ag ah ai aj au av aw ax ay).bind fun aG => (if aG = true then (if an = az then (if ao = aA then (if a0_10 = a1_10 then (if a0_11 = a1_11 then (if a0_12 = a1_12 then (if a0_13 = a1_13 then (if (a0_14 == a1_14) = true then (if (a0_15 = a1_15 ∧ qs_ a0_15) then (if a0_16 = a1_16 then (if a0_17 = a1_17 then (if a0_18 = a1_18 then (some (a0_19 == a1_19)) else (some false)) else (some false)) else (some false)) else (none)) else (some false)) else (some false)) else (some false)) else (some false)) else (some false)) else (some false)) else (some false)) else (some false))) else (some false)) = some r := H
 have A3 := Aside0.mk A30
 clear A30
 by_cases c4 : aH = true
 ·subst c4
  have H1 : ((lodgerref08_Answers.f af ag ah ai aj au av aw ax ay).bind fun aG => (if aG = true then (if an = az then (if ao = aA then (if a0_10 = a1_10 then (if a0_11 = a1_11 then (if a0_12 = a1_12 then (if a0_13 = a1_13 then (if (a0_14 == a1_14) = true then (if (a0_15 = a1_15 ∧ qs_ a0_15) then (if a0_16 = a1_16 then (if a0_17 = a1_17 then (if a0_18 = a1_18 then (some (a0_19 == a1_19)) else (some false)) else (some false)) else (some false)) else (none)) else (some false)) else (some false)) else (some false)) else (some false)) else (some false)) else (some false)) else (some false)) else (some false))) = some r := pf_ rfl H
  clear H; have H := H1; clear H1; replace H := bi_ H; obtain ⟨aG, A50, H⟩ := H
  replace H : (if aG = true then (if an = az then (if ao = aA then (if a0_10 = a1_10 then (if a0_11 = a1_11 then (if a0_12 = a1_12 then (if a0_13 = a1_13 then (if (a0_14 == a1_14) = true then (if (a0_15 = a1_15 ∧ qs_ a0_15) then (if a0_16 = a1_16 then (if a0_17 = a1_17 then (if a0_18 = a1_18 then (some (a0_19 == a1_19)) else (some false)) else (some false)) else (some false)) else (none)) else (some false)) else (some false)) else (some false)) else (some false)) else (some false)) else (some false)) else (some false)) else (some false)) = some r := H
  have A5 := Aside0.mk A50; clear A50
  by_cases c6 : aG = true
  ·subst c6
   have H1 : (if an = az then (if ao = aA then (if a0_10 = a1_10 then (if a0_11 = a1_11 then (if a0_12 = a1_12 then (if a0_13 = a1_13 then (if (a0_14 == a1_14) = true then (if (a0_15 = a1_15 ∧ qs_ a0_15) then (if a0_16 = a1_16 then (if a0_17 = a1_17 then (if a0_18 = a1_18 then (some (a0_19 == a1_19)) else (some false)) else (some false)) else (some false)) else (none)) else (some false)) else (some false)) else (some false)) else (some false)) else (some false)) else (some false)) else (some false)) = some r := pf_ rfl H
   clear H; have H := H1; clear H1
   by_cases c7 : an = az
   ·rw [if_pos c7] at H
    have kj : (an == az) = true := beq_iff_eq.mpr c7
    have kk : (an != az) = false := bne_eq_false_iff_eq.mpr c7
    clear c7
    by_cases c8 : ao = aA
    ·rw [if_pos c8] at H
     have kl : (ao == aA) = true := beq_iff_eq.mpr c8
     have km : (ao != aA) = false := bne_eq_false_iff_eq.mpr c8
     clear c8
     by_cases c9 : a0_10 = a1_10
     ·rw [if_pos c9] at H
      have kn : (a0_10 == a1_10) = true := beq_iff_eq.mpr c9
      have ko : (a0_10 != a1_10) = false := bne_eq_false_iff_eq.mpr c9
      clear c9
      by_cases c10 : a0_11 = a1_11
      ·rw [if_pos c10] at H
       have aI : (a0_11 == a1_11) = true := beq_iff_eq.mpr c10
       have aJ : (a0_11 != a1_11) = false := bne_eq_false_iff_eq.mpr c10
       clear c10
       by_cases c11 : a0_12 = a1_12
       ·rw [if_pos c11] at H
        have aK : (a0_12 == a1_12) = true := beq_iff_eq.mpr c11
        have aL : (a0_12 != a1_12) = false := bne_eq_false_iff_eq.mpr c11
        clear c11
        by_cases c12 : a0_13 = a1_13
        ·rw [if_pos c12] at H
         have aM : (a0_13 == a1_13) = true := beq_iff_eq.mpr c12
         have aN : (a0_13 != a1_13) = false := bne_eq_false_iff_eq.mpr c12
         clear c12
         by_cases c13 : (a0_14 == a1_14) = true
         ·rw [if_pos c13] at H
          have aO : (a0_14 == a1_14) = true := c13
          (try (have aP : decide (a0_14 = a1_14) = true := by simpa using c13))
          (try (have aQ : (a0_14 == a1_14) = true := by simpa using c13))
          clear c13
          by_cases c14 : (a0_15 = a1_15 ∧ qs_ a0_15)
          ·rw [if_pos c14] at H
           have Wu := eq_true c14
           have Wv : decide ((a0_15 = a1_15 ∧ qs_ a0_15)) = true := decide_eq_true c14
           clear c14
           by_cases c15 : a0_16 = a1_16
           ·rw [if_pos c15] at H
            have aR : (a0_16 == a1_16) = true := beq_iff_eq.mpr c15
            have aS : (a0_16 != a1_16) = false := bne_eq_false_iff_eq.mpr c15
            clear c15
            by_cases c16 : a0_17 = a1_17
            ·rw [if_pos c16] at H
             have aT : (a0_17 == a1_17) = true := beq_iff_eq.mpr c16
             have aU : (a0_17 != a1_17) = false := bne_eq_false_iff_eq.mpr c16
             clear c16
             by_cases c17 : a0_18 = a1_18
             ·rw [if_pos c17] at H
              have aV : (a0_18 == a1_18) = true := beq_iff_eq.mpr c17
              have aW : (a0_18 != a1_18) = false := bne_eq_false_iff_eq.mpr c17
              clear c17
              obtain rfl := Option.some.inj H
              go_enter Try.func20, Try.ntmps20
              simp only [List.append]
              go_wp2_with (first | (go_at_call 19; refine (sameq_ (of_eq_true (by assumption)) (Lg_below HG.out (hB_ HB))).mono ?_; rintro e w' ⟨rfl, ⟨nd, rfl⟩⟩) | ((with_reducible refine gd_ 2 ?_); refine bx_ (N := 2) (cs := #[.int .i64 ac, .int .u32 ad, rho_ tb_ ae, .int .i64 af, .int .u32 ag, .bool ah, rho_ tb_ ai, rho_ tb_ aj, .int .i64 an, .int .i64 ao, .int .i64 a0_10, .int .i64 a0_11, .int .i64 a0_12, .int .u64 a0_13, .bool a0_14, rho_ tb_ a0_15, .int .i64 a0_16, .int .i64 a0_17, .int .i64 a0_18, .int .i64 a0_19]) (t := 41) ?_; intro ap hg w18 aa hb; have aE := gG_ hg HB; have aC := gG_ hg HB; replace HB := hS_ HB hb; clear hb hg) | ((with_reducible refine gd_ 3 ?_); refine bx_ (N := 3) (cs := #[.int .i64 ak, .int .u32 al, rho_ tb_ am, .int .i64 au, .int .u32 av, .bool aw, rho_ tb_ ax, rho_ tb_ ay, .int .i64 az, .int .i64 aA, .int .i64 a1_10, .int .i64 a1_11, .int .i64 a1_12, .int .u64 a1_13, .bool a1_14, rho_ tb_ a1_15, .int .i64 a1_16, .int .i64 a1_17, .int .i64 a1_18, .int .i64 a1_19]) (t := 41) ?_; intro aB hg w19 ab hb; have aF := gG_ hg HB; have aD := gG_ hg HB; have aq := nL_ hg aa; have ar := nG_ hg aa; replace aa := Aside0.mk (blk_below (g := ap) (o := .cells #[.int .i64 ac, .int .u32 ad, rho_ tb_ ae, .int .i64 af, .int .u32 ag, .bool ah, rho_ tb_ ai, rho_ tb_ aj, .int .i64 an, .int .i64 ao, .int .i64 a0_10, .int .i64 a0_11, .int .i64 a0_12, .int .u64 a0_13, .bool a0_14, rho_ tb_ a0_15, .int .i64 a0_16, .int .i64 a0_17, .int .i64 a0_18, .int .i64 a0_19] 41 (0, 0)) (bk_ aa) hb); replace HB := hS_ HB hb; clear hb hg; have Ww := aq.out; have WE := ar.out; obtain ⟨H3, Pd⟩ := c20_0 (w := w19) aa; obtain ⟨H4, Pe⟩ := c20_1 (w := w19) aa; obtain ⟨H5, Pf⟩ := c20_2 (w := w19) aa; obtain ⟨H6, Pg⟩ := c20_3 (w := w19) aa; obtain ⟨H7, Ph⟩ := c20_4 (w := w19) aa; obtain ⟨H8, Pi⟩ := c20_5 (w := w19) aa; obtain ⟨H9, Pj⟩ := c20_6 (w := w19) aa; obtain ⟨Ia, Pk⟩ := c20_7 (w := w19) aa; obtain ⟨Ib, Pl⟩ := c20_8 (w := w19) aa; obtain ⟨Ic, Pm⟩ := c20_9 (w := w19) aa; obtain ⟨o6, AS⟩ := c20_10 (w := w19) aa; obtain ⟨o7, AT⟩ := c20_11 (w := w19) aa; obtain ⟨o8, AU⟩ := c20_12 (w := w19) aa; obtain ⟨o9, AV⟩ := c20_13 (w := w19) aa; obtain ⟨pa, AW⟩ := c20_14 (w := w19) aa; obtain ⟨pb, AX⟩ := c20_15 (w := w19) aa; obtain ⟨pc, AY⟩ := c20_16 (w := w19) aa; obtain ⟨pd, AZ⟩ := c20_17 (w := w19) aa; obtain ⟨pe, A0⟩ := c20_18 (w := w19) aa; obtain ⟨pf, A1⟩ := c20_19 (w := w19) aa; obtain ⟨Id, Pn⟩ := c20_0 (w := w19) ab; obtain ⟨Ie, Po⟩ := c20_1 (w := w19) ab; obtain ⟨If, Pp⟩ := c20_2 (w := w19) ab; obtain ⟨Ig, Pq⟩ := c20_3 (w := w19) ab; obtain ⟨Ih, Pr⟩ := c20_4 (w := w19) ab; obtain ⟨Ii, Ps⟩ := c20_5 (w := w19) ab; obtain ⟨Ij, Pt⟩ := c20_6 (w := w19) ab; obtain ⟨Ik, Pu⟩ := c20_7 (w := w19) ab; obtain ⟨Il, Pv⟩ := c20_8 (w := w19) ab; obtain ⟨Im, Pw⟩ := c20_9 (w := w19) ab; obtain ⟨pg, A2⟩ := c20_10 (w := w19) ab; obtain ⟨ph, A4⟩ := c20_11 (w := w19) ab; obtain ⟨pi, A6⟩ := c20_12 (w := w19) ab; obtain ⟨pj, A7⟩ := c20_13 (w := w19) ab; obtain ⟨pk, A8⟩ := c20_14 (w := w19) ab; obtain ⟨pl, A9⟩ := c20_15 (w := w19) ab; obtain ⟨pm, Ba⟩ := c20_16 (w := w19) ab; obtain ⟨po, Bb⟩ := c20_17 (w := w19) ab; obtain ⟨pp, Bc⟩ := c20_18 (w := w19) ab; obtain ⟨pq, Bd⟩ := c20_19 (w := w19) ab) | ((with_reducible refine gate_callee (f := 34) rfl ?_); refine goesL_ (some 9) rfl rfl Try.func34 (by kernel_rfl) rfl #[.agg #[.int .i64 ac, .int .u32 ad, rho_ tb_ ae], .agg #[.int .i64 ak, .int .u32 al, rho_ tb_ am]] rfl am_ ?_; (with_reducible refine (lodgerref08_Asks.calls ac ad ae ak al am true _ ?side1 A3.out).mono ?_); (case side1 => exact Lg_below HG.out (hB_ HB)); rintro e w23 ⟨rfl, hb⟩; refine ⟨_, rfl, ?_⟩; replace aa := Aside0.mk (blk_below (g := ap) (o := .cells #[.int .i64 ac, .int .u32 ad, rho_ tb_ ae, .int .i64 af, .int .u32 ag, .bool ah, rho_ tb_ ai, rho_ tb_ aj, .int .i64 an, .int .i64 ao, .int .i64 a0_10, .int .i64 a0_11, .int .i64 a0_12, .int .u64 a0_13, .bool a0_14, rho_ tb_ a0_15, .int .i64 a0_16, .int .i64 a0_17, .int .i64 a0_18, .int .i64 a0_19] 41 (0, 0)) (bk_ aa) hb); replace ab := Aside0.mk (blk_below (g := aB) (o := .cells #[.int .i64 ak, .int .u32 al, rho_ tb_ am, .int .i64 au, .int .u32 av, .bool aw, rho_ tb_ ax, rho_ tb_ ay, .int .i64 az, .int .i64 aA, .int .i64 a1_10, .int .i64 a1_11, .int .i64 a1_12, .int .u64 a1_13, .bool a1_14, rho_ tb_ a1_15, .int .i64 a1_16, .int .i64 a1_17, .int .i64 a1_18, .int .i64 a1_19] 41 (0, 0)) (bk_ ab) hb); replace HB := hS_ HB hb; (try clear hb); obtain ⟨In, Px⟩ := c20_0 (w := w23) aa; obtain ⟨Io, Py⟩ := c20_1 (w := w23) aa; obtain ⟨Ip, Pz⟩ := c20_2 (w := w23) aa; obtain ⟨Iq, PA⟩ := c20_3 (w := w23) aa; obtain ⟨Ir, PB⟩ := c20_4 (w := w23) aa; obtain ⟨Is, PC⟩ := c20_5 (w := w23) aa; obtain ⟨Iu, PD⟩ := c20_6 (w := w23) aa; obtain ⟨Iv, PE⟩ := c20_7 (w := w23) aa; obtain ⟨Iw, PF⟩ := c20_8 (w := w23) aa; obtain ⟨Ix, PG⟩ := c20_9 (w := w23) aa; obtain ⟨pr, Be⟩ := c20_10 (w := w23) aa; obtain ⟨ps, Bf⟩ := c20_11 (w := w23) aa; obtain ⟨pt, Bg⟩ := c20_12 (w := w23) aa; obtain ⟨px, Bh⟩ := c20_13 (w := w23) aa; obtain ⟨py, Bi⟩ := c20_14 (w := w23) aa; obtain ⟨pz, Bj⟩ := c20_15 (w := w23) aa; obtain ⟨pA, Bk⟩ := c20_16 (w := w23) aa; obtain ⟨pB, Bl⟩ := c20_17 (w := w23) aa; obtain ⟨pC, Bm⟩ := c20_18 (w := w23) aa; obtain ⟨pD, Bn⟩ := c20_19 (w := w23) aa; obtain ⟨Iy, PH⟩ := c20_0 (w := w23) ab; obtain ⟨Iz, PI⟩ := c20_1 (w := w23) ab; obtain ⟨IA, PJ⟩ := c20_2 (w := w23) ab; obtain ⟨IB, PK⟩ := c20_3 (w := w23) ab; obtain ⟨IC, PL⟩ := c20_4 (w := w23) ab; obtain ⟨ID, PM⟩ := c20_5 (w := w23) ab; obtain ⟨IE, PN⟩ := c20_6 (w := w23) ab; obtain ⟨IF, PO⟩ := c20_7 (w := w23) ab; obtain ⟨IG, PP⟩ := c20_8 (w := w23) ab; obtain ⟨II, PQ⟩ := c20_9 (w := w23) ab; obtain ⟨pE, Bo⟩ := c20_10 (w := w23) ab; obtain ⟨pF, Bp⟩ := c20_11 (w := w23) ab; obtain ⟨pG, Bq⟩ := c20_12 (w := w23) ab; obtain ⟨pH, Br⟩ := c20_13 (w := w23) ab; obtain ⟨pI, Bs⟩ := c20_14 (w := w23) ab; obtain ⟨pJ, Bt⟩ := c20_15 (w := w23) ab; obtain ⟨pK, Bu⟩ := c20_16 (w := w23) ab; obtain ⟨pL, Bv⟩ := c20_17 (w := w23) ab; obtain ⟨pM, Bw⟩ := c20_18 (w := w23) ab; obtain ⟨pN, Bx⟩ := c20_19 (w := w23) ab) | (go_at_call 35; (with_reducible refine (lodgerref08_Answers.calls af ag ah ai aj au av aw ax ay true _ (Lg_below HG.out (hB_ HB)) A5.out).mono ?_); rintro e w26 ⟨rfl, hb⟩; replace aa := Aside0.mk (blk_below (g := ap) (o := .cells #[.int .i64 ac, .int .u32 ad, rho_ tb_ ae, .int .i64 af, .int .u32 ag, .bool ah, rho_ tb_ ai, rho_ tb_ aj, .int .i64 an, .int .i64 ao, .int .i64 a0_10, .int .i64 a0_11, .int .i64 a0_12, .int .u64 a0_13, .bool a0_14, rho_ tb_ a0_15, .int .i64 a0_16, .int .i64 a0_17, .int .i64 a0_18, .int .i64 a0_19] 41 (0, 0)) (bk_ aa) hb); replace ab := Aside0.mk (blk_below (g := aB) (o := .cells #[.int .i64 ak, .int .u32 al, rho_ tb_ am, .int .i64 au, .int .u32 av, .bool aw, rho_ tb_ ax, rho_ tb_ ay, .int .i64 az, .int .i64 aA, .int .i64 a1_10, .int .i64 a1_11, .int .i64 a1_12, .int .u64 a1_13, .bool a1_14, rho_ tb_ a1_15, .int .i64 a1_16, .int .i64 a1_17, .int .i64 a1_18, .int .i64 a1_19] 41 (0, 0)) (bk_ ab) hb); replace HB := hS_ HB hb; (try clear hb); obtain ⟨IJ, PR⟩ := c20_0 (w := w26) aa; obtain ⟨IK, PS⟩ := c20_1 (w := w26) aa; obtain ⟨IL, PT⟩ := c20_2 (w := w26) aa; obtain ⟨IM, PU⟩ := c20_3 (w := w26) aa; obtain ⟨IN, PV⟩ := c20_4 (w := w26) aa; obtain ⟨IO, PW⟩ := c20_5 (w := w26) aa; obtain ⟨IP, PX⟩ := c20_6 (w := w26) aa; obtain ⟨IQ, PY⟩ := c20_7 (w := w26) aa; obtain ⟨IR, PZ⟩ := c20_8 (w := w26) aa; obtain ⟨IS, P0⟩ := c20_9 (w := w26) aa; obtain ⟨pO, By⟩ := c20_10 (w := w26) aa; obtain ⟨pP, Bz⟩ := c20_11 (w := w26) aa; obtain ⟨pQ, BA⟩ := c20_12 (w := w26) aa; obtain ⟨pR, BB⟩ := c20_13 (w := w26) aa; obtain ⟨pS, BC⟩ := c20_14 (w := w26) aa; obtain ⟨pT, BD⟩ := c20_15 (w := w26) aa; obtain ⟨pU, BE⟩ := c20_16 (w := w26) aa; obtain ⟨pV, BF⟩ := c20_17 (w := w26) aa; obtain ⟨pW, BG⟩ := c20_18 (w := w26) aa; obtain ⟨pX, BH⟩ := c20_19 (w := w26) aa; obtain ⟨IT, P1⟩ := c20_0 (w := w26) ab; obtain ⟨IU, P2⟩ := c20_1 (w := w26) ab; obtain ⟨IV, P3⟩ := c20_2 (w := w26) ab; obtain ⟨IW, P4⟩ := c20_3 (w := w26) ab; obtain ⟨IX, P5⟩ := c20_4 (w := w26) ab; obtain ⟨IY, P6⟩ := c20_5 (w := w26) ab; obtain ⟨IZ, P7⟩ := c20_6 (w := w26) ab; obtain ⟨I0, P8⟩ := c20_7 (w := w26) ab; obtain ⟨I1, P9⟩ := c20_8 (w := w26) ab; obtain ⟨I2, Qa⟩ := c20_9 (w := w26) ab; obtain ⟨pY, BI⟩ := c20_10 (w := w26) ab; obtain ⟨pZ, BJ⟩ := c20_11 (w := w26) ab; obtain ⟨p0, BK⟩ := c20_12 (w := w26) ab; obtain ⟨p1, BL⟩ := c20_13 (w := w26) ab; obtain ⟨p2, BM⟩ := c20_14 (w := w26) ab; obtain ⟨p3, BN⟩ := c20_15 (w := w26) ab; obtain ⟨p4, BO⟩ := c20_16 (w := w26) ab; obtain ⟨p5, BP⟩ := c20_17 (w := w26) ab; obtain ⟨p6, BQ⟩ := c20_18 (w := w26) ab; obtain ⟨p7, BR⟩ := c20_19 (w := w26) ab))
              go_ret
              exact ⟨er_, hB_ HB⟩
             ·rw [if_neg c17] at H
              have aV : (a0_18 == a1_18) = false := beq_eq_false_iff_ne.mpr c17
              have aW : (a0_18 != a1_18) = true := bne_iff_ne.mpr c17
              obtain rfl := Option.some.inj H
              go_enter Try.func20, Try.ntmps20
              simp only [List.append]
              go_wp2_with (first | (go_at_call 19; refine (sameq_ (of_eq_true (by assumption)) (Lg_below HG.out (hB_ HB))).mono ?_; rintro e w' ⟨rfl, ⟨nd, rfl⟩⟩) | ((with_reducible refine gd_ 2 ?_); refine bx_ (N := 2) (cs := #[.int .i64 ac, .int .u32 ad, rho_ tb_ ae, .int .i64 af, .int .u32 ag, .bool ah, rho_ tb_ ai, rho_ tb_ aj, .int .i64 an, .int .i64 ao, .int .i64 a0_10, .int .i64 a0_11, .int .i64 a0_12, .int .u64 a0_13, .bool a0_14, rho_ tb_ a0_15, .int .i64 a0_16, .int .i64 a0_17, .int .i64 a0_18, .int .i64 a0_19]) (t := 41) ?_; intro ap hg w29 aa hb; have aE := gG_ hg HB; have aC := gG_ hg HB; replace HB := hS_ HB hb; clear hb hg) | ((with_reducible refine gd_ 3 ?_); refine bx_ (N := 3) (cs := #[.int .i64 ak, .int .u32 al, rho_ tb_ am, .int .i64 au, .int .u32 av, .bool aw, rho_ tb_ ax, rho_ tb_ ay, .int .i64 az, .int .i64 aA, .int .i64 a1_10, .int .i64 a1_11, .int .i64 a1_12, .int .u64 a1_13, .bool a1_14, rho_ tb_ a1_15, .int .i64 a1_16, .int .i64 a1_17, .int .i64 a1_18, .int .i64 a1_19]) (t := 41) ?_; intro aB hg w30 ab hb; have aF := gG_ hg HB; have aD := gG_ hg HB; have aq := nL_ hg aa; have ar := nG_ hg aa; replace aa := Aside0.mk (blk_below (g := ap) (o := .cells #[.int .i64 ac, .int .u32 ad, rho_ tb_ ae, .int .i64 af, .int .u32 ag, .bool ah, rho_ tb_ ai, rho_ tb_ aj, .int .i64 an, .int .i64 ao, .int .i64 a0_10, .int .i64 a0_11, .int .i64 a0_12, .int .u64 a0_13, .bool a0_14, rho_ tb_ a0_15, .int .i64 a0_16, .int .i64 a0_17, .int .i64 a0_18, .int .i64 a0_19] 41 (0, 0)) (bk_ aa) hb); replace HB := hS_ HB hb; clear hb hg; have Wx := aq.out; have WF := ar.out; obtain ⟨I3, Qb⟩ := c20_0 (w := w30) aa; obtain ⟨I4, Qc⟩ := c20_1 (w := w30) aa; obtain ⟨I5, Qd⟩ := c20_2 (w := w30) aa; obtain ⟨I6, Qe⟩ := c20_3 (w := w30) aa; obtain ⟨I7, Qf⟩ := c20_4 (w := w30) aa; obtain ⟨I8, Qg⟩ := c20_5 (w := w30) aa; obtain ⟨I9, Qh⟩ := c20_6 (w := w30) aa; obtain ⟨Ja, Qi⟩ := c20_7 (w := w30) aa; obtain ⟨Jb, Qj⟩ := c20_8 (w := w30) aa; obtain ⟨Jc, Qk⟩ := c20_9 (w := w30) aa; obtain ⟨p8, BS⟩ := c20_10 (w := w30) aa; obtain ⟨p9, BT⟩ := c20_11 (w := w30) aa; obtain ⟨qa, BU⟩ := c20_12 (w := w30) aa; obtain ⟨qb, BV⟩ := c20_13 (w := w30) aa; obtain ⟨qc, BW⟩ := c20_14 (w := w30) aa; obtain ⟨qd, BX⟩ := c20_15 (w := w30) aa; obtain ⟨qe, BY⟩ := c20_16 (w := w30) aa; obtain ⟨qf, BZ⟩ := c20_17 (w := w30) aa; obtain ⟨qg, B0⟩ := c20_18 (w := w30) aa; obtain ⟨qh, B1⟩ := c20_19 (w := w30) aa; obtain ⟨Jd, Ql⟩ := c20_0 (w := w30) ab; obtain ⟨Je, Qm⟩ := c20_1 (w := w30) ab; obtain ⟨Jf, Qn⟩ := c20_2 (w := w30) ab; obtain ⟨Jg, Qo⟩ := c20_3 (w := w30) ab; obtain ⟨Jh, Qp⟩ := c20_4 (w := w30) ab; obtain ⟨Ji, Qq⟩ := c20_5 (w := w30) ab; obtain ⟨Jj, Qr⟩ := c20_6 (w := w30) ab; obtain ⟨Jk, Qs⟩ := c20_7 (w := w30) ab; obtain ⟨Jl, Qt⟩ := c20_8 (w := w30) ab; obtain ⟨Jm, Qu⟩ := c20_9 (w := w30) ab; obtain ⟨qi, B2⟩ := c20_10 (w := w30) ab; obtain ⟨qj, B3⟩ := c20_11 (w := w30) ab; obtain ⟨qk, B4⟩ := c20_12 (w := w30) ab; obtain ⟨ql, B5⟩ := c20_13 (w := w30) ab; obtain ⟨qm, B6⟩ := c20_14 (w := w30) ab; obtain ⟨qn, B7⟩ := c20_15 (w := w30) ab; obtain ⟨qo, B8⟩ := c20_16 (w := w30) ab; obtain ⟨qp, B9⟩ := c20_17 (w := w30) ab; obtain ⟨qq, Ca⟩ := c20_18 (w := w30) ab; obtain ⟨qr, Cb⟩ := c20_19 (w := w30) ab) | ((with_reducible refine gate_callee (f := 34) rfl ?_); refine goesL_ (some 9) rfl rfl Try.func34 (by kernel_rfl) rfl #[.agg #[.int .i64 ac, .int .u32 ad, rho_ tb_ ae], .agg #[.int .i64 ak, .int .u32 al, rho_ tb_ am]] rfl am_ ?_; (with_reducible refine (lodgerref08_Asks.calls ac ad ae ak al am true _ ?side1 A3.out).mono ?_); (case side1 => exact Lg_below HG.out (hB_ HB)); rintro e w34 ⟨rfl, hb⟩; refine ⟨_, rfl, ?_⟩; replace aa := Aside0.mk (blk_below (g := ap) (o := .cells #[.int .i64 ac, .int .u32 ad, rho_ tb_ ae, .int .i64 af, .int .u32 ag, .bool ah, rho_ tb_ ai, rho_ tb_ aj, .int .i64 an, .int .i64 ao, .int .i64 a0_10, .int .i64 a0_11, .int .i64 a0_12, .int .u64 a0_13, .bool a0_14, rho_ tb_ a0_15, .int .i64 a0_16, .int .i64 a0_17, .int .i64 a0_18, .int .i64 a0_19] 41 (0, 0)) (bk_ aa) hb); replace ab := Aside0.mk (blk_below (g := aB) (o := .cells #[.int .i64 ak, .int .u32 al, rho_ tb_ am, .int .i64 au, .int .u32 av, .bool aw, rho_ tb_ ax, rho_ tb_ ay, .int .i64 az, .int .i64 aA, .int .i64 a1_10, .int .i64 a1_11, .int .i64 a1_12, .int .u64 a1_13, .bool a1_14, rho_ tb_ a1_15, .int .i64 a1_16, .int .i64 a1_17, .int .i64 a1_18, .int .i64 a1_19] 41 (0, 0)) (bk_ ab) hb); replace HB := hS_ HB hb; (try clear hb); obtain ⟨Jn, Qv⟩ := c20_0 (w := w34) aa; obtain ⟨Jo, Qw⟩ := c20_1 (w := w34) aa; obtain ⟨Jp, Qx⟩ := c20_2 (w := w34) aa; obtain ⟨Jq, Qy⟩ := c20_3 (w := w34) aa; obtain ⟨Jr, Qz⟩ := c20_4 (w := w34) aa; obtain ⟨Js, QA⟩ := c20_5 (w := w34) aa; obtain ⟨Jt, QB⟩ := c20_6 (w := w34) aa; obtain ⟨Ju, QC⟩ := c20_7 (w := w34) aa; obtain ⟨Jv, QD⟩ := c20_8 (w := w34) aa; obtain ⟨Jw, QE⟩ := c20_9 (w := w34) aa; obtain ⟨qs, Cc⟩ := c20_10 (w := w34) aa; obtain ⟨qt, Cd⟩ := c20_11 (w := w34) aa; obtain ⟨qu, Ce⟩ := c20_12 (w := w34) aa; obtain ⟨qv, Cf⟩ := c20_13 (w := w34) aa; obtain ⟨qw, Cg⟩ := c20_14 (w := w34) aa; obtain ⟨qx, Ch⟩ := c20_15 (w := w34) aa; obtain ⟨qy, Ci⟩ := c20_16 (w := w34) aa; obtain ⟨qz, Cj⟩ := c20_17 (w := w34) aa; obtain ⟨qA, Ck⟩ := c20_18 (w := w34) aa; obtain ⟨qB, Cl⟩ := c20_19 (w := w34) aa; obtain ⟨Jx, QF⟩ := c20_0 (w := w34) ab; obtain ⟨Jy, QG⟩ := c20_1 (w := w34) ab; obtain ⟨Jz, QH⟩ := c20_2 (w := w34) ab; obtain ⟨JA, QI⟩ := c20_3 (w := w34) ab; obtain ⟨JB, QJ⟩ := c20_4 (w := w34) ab; obtain ⟨JC, QK⟩ := c20_5 (w := w34) ab; obtain ⟨JD, QL⟩ := c20_6 (w := w34) ab; obtain ⟨JE, QM⟩ := c20_7 (w := w34) ab; obtain ⟨JF, QN⟩ := c20_8 (w := w34) ab; obtain ⟨JG, QO⟩ := c20_9 (w := w34) ab; obtain ⟨qC, Cm⟩ := c20_10 (w := w34) ab; obtain ⟨qD, Cn⟩ := c20_11 (w := w34) ab; obtain ⟨qE, Co⟩ := c20_12 (w := w34) ab; obtain ⟨qF, Cp⟩ := c20_13 (w := w34) ab; obtain ⟨qG, Cq⟩ := c20_14 (w := w34) ab; obtain ⟨qH, Cr⟩ := c20_15 (w := w34) ab; obtain ⟨qI, Cs⟩ := c20_16 (w := w34) ab; obtain ⟨qJ, Ct⟩ := c20_17 (w := w34) ab; obtain ⟨qK, Cu⟩ := c20_18 (w := w34) ab; obtain ⟨qL, Cv⟩ := c20_19 (w := w34) ab) | (go_at_call 35; (with_reducible refine (lodgerref08_Answers.calls af ag ah ai aj au av aw ax ay true _ (Lg_below HG.out (hB_ HB)) A5.out).mono ?_); rintro e w37 ⟨rfl, hb⟩; replace aa := Aside0.mk (blk_below (g := ap) (o := .cells #[.int .i64 ac, .int .u32 ad, rho_ tb_ ae, .int .i64 af, .int .u32 ag, .bool ah, rho_ tb_ ai, rho_ tb_ aj, .int .i64 an, .int .i64 ao, .int .i64 a0_10, .int .i64 a0_11, .int .i64 a0_12, .int .u64 a0_13, .bool a0_14, rho_ tb_ a0_15, .int .i64 a0_16, .int .i64 a0_17, .int .i64 a0_18, .int .i64 a0_19] 41 (0, 0)) (bk_ aa) hb); replace ab := Aside0.mk (blk_below (g := aB) (o := .cells #[.int .i64 ak, .int .u32 al, rho_ tb_ am, .int .i64 au, .int .u32 av, .bool aw, rho_ tb_ ax, rho_ tb_ ay, .int .i64 az, .int .i64 aA, .int .i64 a1_10, .int .i64 a1_11, .int .i64 a1_12, .int .u64 a1_13, .bool a1_14, rho_ tb_ a1_15, .int .i64 a1_16, .int .i64 a1_17, .int .i64 a1_18, .int .i64 a1_19] 41 (0, 0)) (bk_ ab) hb); replace HB := hS_ HB hb; (try clear hb); obtain ⟨JH, QP⟩ := c20_0 (w := w37) aa; obtain ⟨JI, QQ⟩ := c20_1 (w := w37) aa; obtain ⟨JJ, QR⟩ := c20_2 (w := w37) aa; obtain ⟨JK, QS⟩ := c20_3 (w := w37) aa; obtain ⟨JL, QT⟩ := c20_4 (w := w37) aa; obtain ⟨JM, QU⟩ := c20_5 (w := w37) aa; obtain ⟨JN, QV⟩ := c20_6 (w := w37) aa; obtain ⟨JO, QW⟩ := c20_7 (w := w37) aa; obtain ⟨JP, QX⟩ := c20_8 (w := w37) aa; obtain ⟨JQ, QY⟩ := c20_9 (w := w37) aa; obtain ⟨qM, Cw⟩ := c20_10 (w := w37) aa; obtain ⟨qN, Cx⟩ := c20_11 (w := w37) aa; obtain ⟨qO, Cy⟩ := c20_12 (w := w37) aa; obtain ⟨qP, Cz⟩ := c20_13 (w := w37) aa; obtain ⟨qQ, CA⟩ := c20_14 (w := w37) aa; obtain ⟨qR, CB⟩ := c20_15 (w := w37) aa; obtain ⟨qS, CC⟩ := c20_16 (w := w37) aa; obtain ⟨qT, CD⟩ := c20_17 (w := w37) aa; obtain ⟨qU, CE⟩ := c20_18 (w := w37) aa; obtain ⟨qV, CF⟩ := c20_19 (w := w37) aa; obtain ⟨JR, QZ⟩ := c20_0 (w := w37) ab; obtain ⟨JS, Q0⟩ := c20_1 (w := w37) ab; obtain ⟨JT, Q1⟩ := c20_2 (w := w37) ab; obtain ⟨JU, Q2⟩ := c20_3 (w := w37) ab; obtain ⟨JV, Q3⟩ := c20_4 (w := w37) ab; obtain ⟨JW, Q4⟩ := c20_5 (w := w37) ab; obtain ⟨JX, Q5⟩ := c20_6 (w := w37) ab; obtain ⟨JY, Q6⟩ := c20_7 (w := w37) ab; obtain ⟨JZ, Q7⟩ := c20_8 (w := w37) ab; obtain ⟨J0, Q8⟩ := c20_9 (w := w37) ab; obtain ⟨qW, CG⟩ := c20_10 (w := w37) ab; obtain ⟨qX, CH⟩ := c20_11 (w := w37) ab; obtain ⟨qY, CI⟩ := c20_12 (w := w37) ab; obtain ⟨qZ, CJ⟩ := c20_13 (w := w37) ab; obtain ⟨q0, CK⟩ := c20_14 (w := w37) ab; obtain ⟨q1, CL⟩ := c20_15 (w := w37) ab; obtain ⟨q2, CM⟩ := c20_16 (w := w37) ab; obtain ⟨q3, CN⟩ := c20_17 (w := w37) ab; obtain ⟨q4, CO⟩ := c20_18 (w := w37) ab; obtain ⟨q5, CP⟩ := c20_19 (w := w37) ab))
              go_ret
              exact ⟨er_, hB_ HB⟩
            ·rw [if_neg c16] at H
             have aT : (a0_17 == a1_17) = false := beq_eq_false_iff_ne.mpr c16
             have aU : (a0_17 != a1_17) = true := bne_iff_ne.mpr c16
             obtain rfl := Option.some.inj H
             go_enter Try.func20, Try.ntmps20
             simp only [List.append]
             go_wp2_with (first | (go_at_call 19; refine (sameq_ (of_eq_true (by assumption)) (Lg_below HG.out (hB_ HB))).mono ?_; rintro e w' ⟨rfl, ⟨nd, rfl⟩⟩) | ((with_reducible refine gd_ 2 ?_); refine bx_ (N := 2) (cs := #[.int .i64 ac, .int .u32 ad, rho_ tb_ ae, .int .i64 af, .int .u32 ag, .bool ah, rho_ tb_ ai, rho_ tb_ aj, .int .i64 an, .int .i64 ao, .int .i64 a0_10, .int .i64 a0_11, .int .i64 a0_12, .int .u64 a0_13, .bool a0_14, rho_ tb_ a0_15, .int .i64 a0_16, .int .i64 a0_17, .int .i64 a0_18, .int .i64 a0_19]) (t := 41) ?_; intro ap hg w40 aa hb; have aE := gG_ hg HB; have aC := gG_ hg HB; replace HB := hS_ HB hb; clear hb hg) | ((with_reducible refine gd_ 3 ?_); refine bx_ (N := 3) (cs := #[.int .i64 ak, .int .u32 al, rho_ tb_ am, .int .i64 au, .int .u32 av, .bool aw, rho_ tb_ ax, rho_ tb_ ay, .int .i64 az, .int .i64 aA, .int .i64 a1_10, .int .i64 a1_11, .int .i64 a1_12, .int .u64 a1_13, .bool a1_14, rho_ tb_ a1_15, .int .i64 a1_16, .int .i64 a1_17, .int .i64 a1_18, .int .i64 a1_19]) (t := 41) ?_; intro aB hg w41 ab hb; have aF := gG_ hg HB; have aD := gG_ hg HB; have aq := nL_ hg aa; have ar := nG_ hg aa; replace aa := Aside0.mk (blk_below (g := ap) (o := .cells #[.int .i64 ac, .int .u32 ad, rho_ tb_ ae, .int .i64 af, .int .u32 ag, .bool ah, rho_ tb_ ai, rho_ tb_ aj, .int .i64 an, .int .i64 ao, .int .i64 a0_10, .int .i64 a0_11, .int .i64 a0_12, .int .u64 a0_13, .bool a0_14, rho_ tb_ a0_15, .int .i64 a0_16, .int .i64 a0_17, .int .i64 a0_18, .int .i64 a0_19] 41 (0, 0)) (bk_ aa) hb); replace HB := hS_ HB hb; clear hb hg; have Wy := aq.out; have WG := ar.out; obtain ⟨J1, Q9⟩ := c20_0 (w := w41) aa; obtain ⟨J2, Ra⟩ := c20_1 (w := w41) aa; obtain ⟨J3, Rb⟩ := c20_2 (w := w41) aa; obtain ⟨J4, Rc⟩ := c20_3 (w := w41) aa; obtain ⟨J5, Rd⟩ := c20_4 (w := w41) aa; obtain ⟨J6, Re⟩ := c20_5 (w := w41) aa; obtain ⟨J7, Rf⟩ := c20_6 (w := w41) aa; obtain ⟨J8, Rg⟩ := c20_7 (w := w41) aa; obtain ⟨J9, Rh⟩ := c20_8 (w := w41) aa; obtain ⟨Ka, Ri⟩ := c20_9 (w := w41) aa; obtain ⟨q6, CQ⟩ := c20_10 (w := w41) aa; obtain ⟨q7, CR⟩ := c20_11 (w := w41) aa; obtain ⟨q8, CS⟩ := c20_12 (w := w41) aa; obtain ⟨q9, CT⟩ := c20_13 (w := w41) aa; obtain ⟨ra, CU⟩ := c20_14 (w := w41) aa; obtain ⟨rb, CV⟩ := c20_15 (w := w41) aa; obtain ⟨rc, CW⟩ := c20_16 (w := w41) aa; obtain ⟨re, CX⟩ := c20_17 (w := w41) aa; obtain ⟨rf, CY⟩ := c20_18 (w := w41) aa; obtain ⟨rg, CZ⟩ := c20_19 (w := w41) aa; obtain ⟨Kb, Rj⟩ := c20_0 (w := w41) ab; obtain ⟨Kc, Rk⟩ := c20_1 (w := w41) ab; obtain ⟨Ke, Rl⟩ := c20_2 (w := w41) ab; obtain ⟨Kf, Rm⟩ := c20_3 (w := w41) ab; obtain ⟨Kg, Rn⟩ := c20_4 (w := w41) ab; obtain ⟨Kh, Ro⟩ := c20_5 (w := w41) ab; obtain ⟨Ki, Rp⟩ := c20_6 (w := w41) ab; obtain ⟨Kj, Rq⟩ := c20_7 (w := w41) ab; obtain ⟨Kk, Rr⟩ := c20_8 (w := w41) ab; obtain ⟨Kl, Rs⟩ := c20_9 (w := w41) ab; obtain ⟨rh, C0⟩ := c20_10 (w := w41) ab; obtain ⟨ri, C1⟩ := c20_11 (w := w41) ab; obtain ⟨rj, C2⟩ := c20_12 (w := w41) ab; obtain ⟨rk, C3⟩ := c20_13 (w := w41) ab; obtain ⟨rl, C4⟩ := c20_14 (w := w41) ab; obtain ⟨rm, C5⟩ := c20_15 (w := w41) ab; obtain ⟨rn, C6⟩ := c20_16 (w := w41) ab; obtain ⟨ro, C7⟩ := c20_17 (w := w41) ab; obtain ⟨rp, C8⟩ := c20_18 (w := w41) ab; obtain ⟨rq, C9⟩ := c20_19 (w := w41) ab) | ((with_reducible refine gate_callee (f := 34) rfl ?_); refine goesL_ (some 9) rfl rfl Try.func34 (by kernel_rfl) rfl #[.agg #[.int .i64 ac, .int .u32 ad, rho_ tb_ ae], .agg #[.int .i64 ak, .int .u32 al, rho_ tb_ am]] rfl am_ ?_; (with_reducible refine (lodgerref08_Asks.calls ac ad ae ak al am true _ ?side1 A3.out).mono ?_); (case side1 => exact Lg_below HG.out (hB_ HB)); rintro e w45 ⟨rfl, hb⟩; refine ⟨_, rfl, ?_⟩; replace aa := Aside0.mk (blk_below (g := ap) (o := .cells #[.int .i64 ac, .int .u32 ad, rho_ tb_ ae, .int .i64 af, .int .u32 ag, .bool ah, rho_ tb_ ai, rho_ tb_ aj, .int .i64 an, .int .i64 ao, .int .i64 a0_10, .int .i64 a0_11, .int .i64 a0_12, .int .u64 a0_13, .bool a0_14, rho_ tb_ a0_15, .int .i64 a0_16, .int .i64 a0_17, .int .i64 a0_18, .int .i64 a0_19] 41 (0, 0)) (bk_ aa) hb); replace ab := Aside0.mk (blk_below (g := aB) (o := .cells #[.int .i64 ak, .int .u32 al, rho_ tb_ am, .int .i64 au, .int .u32 av, .bool aw, rho_ tb_ ax, rho_ tb_ ay, .int .i64 az, .int .i64 aA, .int .i64 a1_10, .int .i64 a1_11, .int .i64 a1_12, .int .u64 a1_13, .bool a1_14, rho_ tb_ a1_15, .int .i64 a1_16, .int .i64 a1_17, .int .i64 a1_18, .int .i64 a1_19] 41 (0, 0)) (bk_ ab) hb); replace HB := hS_ HB hb; (try clear hb); obtain ⟨Km, Rt⟩ := c20_0 (w := w45) aa; obtain ⟨Kn, Ru⟩ := c20_1 (w := w45) aa; obtain ⟨Ko, Rv⟩ := c20_2 (w := w45) aa; obtain ⟨Kp, Rw⟩ := c20_3 (w := w45) aa; obtain ⟨Kq, Rx⟩ := c20_4 (w := w45) aa; obtain ⟨Kr, Ry⟩ := c20_5 (w := w45) aa; obtain ⟨Ks, Rz⟩ := c20_6 (w := w45) aa; obtain ⟨Kt, RA⟩ := c20_7 (w := w45) aa; obtain ⟨Ku, RB⟩ := c20_8 (w := w45) aa; obtain ⟨Kv, RC⟩ := c20_9 (w := w45) aa; obtain ⟨rr, Da⟩ := c20_10 (w := w45) aa; obtain ⟨rs, Db⟩ := c20_11 (w := w45) aa; obtain ⟨rt, Dc⟩ := c20_12 (w := w45) aa; obtain ⟨ru, Dd⟩ := c20_13 (w := w45) aa; obtain ⟨rv, De⟩ := c20_14 (w := w45) aa; obtain ⟨rx, Df⟩ := c20_15 (w := w45) aa; obtain ⟨ry, Dg⟩ := c20_16 (w := w45) aa; obtain ⟨rz, Dh⟩ := c20_17 (w := w45) aa; obtain ⟨rA, Di⟩ := c20_18 (w := w45) aa; obtain ⟨rB, Dj⟩ := c20_19 (w := w45) aa; obtain ⟨Kw, RD⟩ := c20_0 (w := w45) ab; obtain ⟨Kx, RE⟩ := c20_1 (w := w45) ab; obtain ⟨Ky, RF⟩ := c20_2 (w := w45) ab; obtain ⟨Kz, RG⟩ := c20_3 (w := w45) ab; obtain ⟨KA, RH⟩ := c20_4 (w := w45) ab; obtain ⟨KB, RI⟩ := c20_5 (w := w45) ab; obtain ⟨KC, RJ⟩ := c20_6 (w := w45) ab; obtain ⟨KD, RK⟩ := c20_7 (w := w45) ab; obtain ⟨KE, RL⟩ := c20_8 (w := w45) ab; obtain ⟨KF, RM⟩ := c20_9 (w := w45) ab; obtain ⟨rC, Dk⟩ := c20_10 (w := w45) ab; obtain ⟨rD, Dl⟩ := c20_11 (w := w45) ab; obtain ⟨rE, Dm⟩ := c20_12 (w := w45) ab; obtain ⟨rF, Dn⟩ := c20_13 (w := w45) ab; obtain ⟨rG, Do⟩ := c20_14 (w := w45) ab; obtain ⟨rH, Dp⟩ := c20_15 (w := w45) ab; obtain ⟨rI, Dq⟩ := c20_16 (w := w45) ab; obtain ⟨rJ, Dr⟩ := c20_17 (w := w45) ab; obtain ⟨rK, Ds⟩ := c20_18 (w := w45) ab; obtain ⟨rL, Dt⟩ := c20_19 (w := w45) ab) | (go_at_call 35; (with_reducible refine (lodgerref08_Answers.calls af ag ah ai aj au av aw ax ay true _ (Lg_below HG.out (hB_ HB)) A5.out).mono ?_); rintro e w48 ⟨rfl, hb⟩; replace aa := Aside0.mk (blk_below (g := ap) (o := .cells #[.int .i64 ac, .int .u32 ad, rho_ tb_ ae, .int .i64 af, .int .u32 ag, .bool ah, rho_ tb_ ai, rho_ tb_ aj, .int .i64 an, .int .i64 ao, .int .i64 a0_10, .int .i64 a0_11, .int .i64 a0_12, .int .u64 a0_13, .bool a0_14, rho_ tb_ a0_15, .int .i64 a0_16, .int .i64 a0_17, .int .i64 a0_18, .int .i64 a0_19] 41 (0, 0)) (bk_ aa) hb); replace ab := Aside0.mk (blk_below (g := aB) (o := .cells #[.int .i64 ak, .int .u32 al, rho_ tb_ am, .int .i64 au, .int .u32 av, .bool aw, rho_ tb_ ax, rho_ tb_ ay, .int .i64 az, .int .i64 aA, .int .i64 a1_10, .int .i64 a1_11, .int .i64 a1_12, .int .u64 a1_13, .bool a1_14, rho_ tb_ a1_15, .int .i64 a1_16, .int .i64 a1_17, .int .i64 a1_18, .int .i64 a1_19] 41 (0, 0)) (bk_ ab) hb); replace HB := hS_ HB hb; (try clear hb); obtain ⟨KG, RN⟩ := c20_0 (w := w48) aa; obtain ⟨KH, RO⟩ := c20_1 (w := w48) aa; obtain ⟨KI, RP⟩ := c20_2 (w := w48) aa; obtain ⟨KJ, RQ⟩ := c20_3 (w := w48) aa; obtain ⟨KK, RR⟩ := c20_4 (w := w48) aa; obtain ⟨KL, RS⟩ := c20_5 (w := w48) aa; obtain ⟨KM, RT⟩ := c20_6 (w := w48) aa; obtain ⟨KN, RU⟩ := c20_7 (w := w48) aa; obtain ⟨KO, RV⟩ := c20_8 (w := w48) aa; obtain ⟨KP, RW⟩ := c20_9 (w := w48) aa; obtain ⟨rM, Du⟩ := c20_10 (w := w48) aa; obtain ⟨rN, Dv⟩ := c20_11 (w := w48) aa; obtain ⟨rO, Dw⟩ := c20_12 (w := w48) aa; obtain ⟨rP, Dx⟩ := c20_13 (w := w48) aa; obtain ⟨rQ, Dy⟩ := c20_14 (w := w48) aa; obtain ⟨rR, Dz⟩ := c20_15 (w := w48) aa; obtain ⟨rS, DA⟩ := c20_16 (w := w48) aa; obtain ⟨rT, DB⟩ := c20_17 (w := w48) aa; obtain ⟨rU, DC⟩ := c20_18 (w := w48) aa; obtain ⟨rV, DD⟩ := c20_19 (w := w48) aa; obtain ⟨KQ, RX⟩ := c20_0 (w := w48) ab; obtain ⟨KR, RY⟩ := c20_1 (w := w48) ab; obtain ⟨KS, RZ⟩ := c20_2 (w := w48) ab; obtain ⟨KT, R0⟩ := c20_3 (w := w48) ab; obtain ⟨KU, R1⟩ := c20_4 (w := w48) ab; obtain ⟨KV, R2⟩ := c20_5 (w := w48) ab; obtain ⟨KW, R3⟩ := c20_6 (w := w48) ab; obtain ⟨KX, R4⟩ := c20_7 (w := w48) ab; obtain ⟨KY, R5⟩ := c20_8 (w := w48) ab; obtain ⟨KZ, R6⟩ := c20_9 (w := w48) ab; obtain ⟨rW, DE⟩ := c20_10 (w := w48) ab; obtain ⟨rX, DF⟩ := c20_11 (w := w48) ab; obtain ⟨rY, DG⟩ := c20_12 (w := w48) ab; obtain ⟨rZ, DH⟩ := c20_13 (w := w48) ab; obtain ⟨r0, DI⟩ := c20_14 (w := w48) ab; obtain ⟨r1, DJ⟩ := c20_15 (w := w48) ab; obtain ⟨r2, DK⟩ := c20_16 (w := w48) ab; obtain ⟨r3, DL⟩ := c20_17 (w := w48) ab; obtain ⟨r4, DM⟩ := c20_18 (w := w48) ab; obtain ⟨r5, DN⟩ := c20_19 (w := w48) ab))
             go_ret
             exact ⟨er_, hB_ HB⟩
           ·rw [if_neg c15] at H
            have aR : (a0_16 == a1_16) = false := beq_eq_false_iff_ne.mpr c15
            have aS : (a0_16 != a1_16) = true := bne_iff_ne.mpr c15
            obtain rfl := Option.some.inj H
            go_enter Try.func20, Try.ntmps20
            simp only [List.append]
            go_wp2_with (first | (go_at_call 19; refine (sameq_ (of_eq_true (by assumption)) (Lg_below HG.out (hB_ HB))).mono ?_; rintro e w' ⟨rfl, ⟨nd, rfl⟩⟩) | ((with_reducible refine gd_ 2 ?_); refine bx_ (N := 2) (cs := #[.int .i64 ac, .int .u32 ad, rho_ tb_ ae, .int .i64 af, .int .u32 ag, .bool ah, rho_ tb_ ai, rho_ tb_ aj, .int .i64 an, .int .i64 ao, .int .i64 a0_10, .int .i64 a0_11, .int .i64 a0_12, .int .u64 a0_13, .bool a0_14, rho_ tb_ a0_15, .int .i64 a0_16, .int .i64 a0_17, .int .i64 a0_18, .int .i64 a0_19]) (t := 41) ?_; intro ap hg w51 aa hb; have aE := gG_ hg HB; have aC := gG_ hg HB; replace HB := hS_ HB hb; clear hb hg) | ((with_reducible refine gd_ 3 ?_); refine bx_ (N := 3) (cs := #[.int .i64 ak, .int .u32 al, rho_ tb_ am, .int .i64 au, .int .u32 av, .bool aw, rho_ tb_ ax, rho_ tb_ ay, .int .i64 az, .int .i64 aA, .int .i64 a1_10, .int .i64 a1_11, .int .i64 a1_12, .int .u64 a1_13, .bool a1_14, rho_ tb_ a1_15, .int .i64 a1_16, .int .i64 a1_17, .int .i64 a1_18, .int .i64 a1_19]) (t := 41) ?_; intro aB hg w52 ab hb; have aF := gG_ hg HB; have aD := gG_ hg HB; have aq := nL_ hg aa; have ar := nG_ hg aa; replace aa := Aside0.mk (blk_below (g := ap) (o := .cells #[.int .i64 ac, .int .u32 ad, rho_ tb_ ae, .int .i64 af, .int .u32 ag, .bool ah, rho_ tb_ ai, rho_ tb_ aj, .int .i64 an, .int .i64 ao, .int .i64 a0_10, .int .i64 a0_11, .int .i64 a0_12, .int .u64 a0_13, .bool a0_14, rho_ tb_ a0_15, .int .i64 a0_16, .int .i64 a0_17, .int .i64 a0_18, .int .i64 a0_19] 41 (0, 0)) (bk_ aa) hb); replace HB := hS_ HB hb; clear hb hg; have Wz := aq.out; have WH := ar.out; obtain ⟨K0, R7⟩ := c20_0 (w := w52) aa; obtain ⟨K1, R8⟩ := c20_1 (w := w52) aa; obtain ⟨K2, R9⟩ := c20_2 (w := w52) aa; obtain ⟨K3, Sa⟩ := c20_3 (w := w52) aa; obtain ⟨K4, Sb⟩ := c20_4 (w := w52) aa; obtain ⟨K5, Sc⟩ := c20_5 (w := w52) aa; obtain ⟨K6, Sd⟩ := c20_6 (w := w52) aa; obtain ⟨K7, Se⟩ := c20_7 (w := w52) aa; obtain ⟨K8, Sf⟩ := c20_8 (w := w52) aa; obtain ⟨K9, Sg⟩ := c20_9 (w := w52) aa; obtain ⟨r6, DO⟩ := c20_10 (w := w52) aa; obtain ⟨r7, DP⟩ := c20_11 (w := w52) aa; obtain ⟨r8, DQ⟩ := c20_12 (w := w52) aa; obtain ⟨r9, DR⟩ := c20_13 (w := w52) aa; obtain ⟨sa, DS⟩ := c20_14 (w := w52) aa; obtain ⟨sb, DT⟩ := c20_15 (w := w52) aa; obtain ⟨sc, DU⟩ := c20_16 (w := w52) aa; obtain ⟨sd, DV⟩ := c20_17 (w := w52) aa; obtain ⟨se, DW⟩ := c20_18 (w := w52) aa; obtain ⟨sf, DX⟩ := c20_19 (w := w52) aa; obtain ⟨La, Sh⟩ := c20_0 (w := w52) ab; obtain ⟨Lb, Si⟩ := c20_1 (w := w52) ab; obtain ⟨Lc, Sj⟩ := c20_2 (w := w52) ab; obtain ⟨Ld, Sk⟩ := c20_3 (w := w52) ab; obtain ⟨Le, Sl⟩ := c20_4 (w := w52) ab; obtain ⟨Lf, Sm⟩ := c20_5 (w := w52) ab; obtain ⟨Lh, Sn⟩ := c20_6 (w := w52) ab; obtain ⟨Li, So⟩ := c20_7 (w := w52) ab; obtain ⟨Lj, Sp⟩ := c20_8 (w := w52) ab; obtain ⟨Lk, Sq⟩ := c20_9 (w := w52) ab; obtain ⟨sg, DY⟩ := c20_10 (w := w52) ab; obtain ⟨sh, DZ⟩ := c20_11 (w := w52) ab; obtain ⟨si, D0⟩ := c20_12 (w := w52) ab; obtain ⟨sj, D1⟩ := c20_13 (w := w52) ab; obtain ⟨sk, D2⟩ := c20_14 (w := w52) ab; obtain ⟨sl, D3⟩ := c20_15 (w := w52) ab; obtain ⟨sm, D4⟩ := c20_16 (w := w52) ab; obtain ⟨sn, D5⟩ := c20_17 (w := w52) ab; obtain ⟨so, D6⟩ := c20_18 (w := w52) ab; obtain ⟨sp, D7⟩ := c20_19 (w := w52) ab) | ((with_reducible refine gate_callee (f := 34) rfl ?_); refine goesL_ (some 9) rfl rfl Try.func34 (by kernel_rfl) rfl #[.agg #[.int .i64 ac, .int .u32 ad, rho_ tb_ ae], .agg #[.int .i64 ak, .int .u32 al, rho_ tb_ am]] rfl am_ ?_; (with_reducible refine (lodgerref08_Asks.calls ac ad ae ak al am true _ ?side1 A3.out).mono ?_); (case side1 => exact Lg_below HG.out (hB_ HB)); rintro e w56 ⟨rfl, hb⟩; refine ⟨_, rfl, ?_⟩; replace aa := Aside0.mk (blk_below (g := ap) (o := .cells #[.int .i64 ac, .int .u32 ad, rho_ tb_ ae, .int .i64 af, .int .u32 ag, .bool ah, rho_ tb_ ai, rho_ tb_ aj, .int .i64 an, .int .i64 ao, .int .i64 a0_10, .int .i64 a0_11, .int .i64 a0_12, .int .u64 a0_13, .bool a0_14, rho_ tb_ a0_15, .int .i64 a0_16, .int .i64 a0_17, .int .i64 a0_18, .int .i64 a0_19] 41 (0, 0)) (bk_ aa) hb); replace ab := Aside0.mk (blk_below (g := aB) (o := .cells #[.int .i64 ak, .int .u32 al, rho_ tb_ am, .int .i64 au, .int .u32 av, .bool aw, rho_ tb_ ax, rho_ tb_ ay, .int .i64 az, .int .i64 aA, .int .i64 a1_10, .int .i64 a1_11, .int .i64 a1_12, .int .u64 a1_13, .bool a1_14, rho_ tb_ a1_15, .int .i64 a1_16, .int .i64 a1_17, .int .i64 a1_18, .int .i64 a1_19] 41 (0, 0)) (bk_ ab) hb); replace HB := hS_ HB hb; (try clear hb); obtain ⟨Ll, Sr⟩ := c20_0 (w := w56) aa; obtain ⟨Lm, Ss⟩ := c20_1 (w := w56) aa; obtain ⟨Ln, St⟩ := c20_2 (w := w56) aa; obtain ⟨Lo, Su⟩ := c20_3 (w := w56) aa; obtain ⟨Lp, Sv⟩ := c20_4 (w := w56) aa; obtain ⟨Lq, Sw⟩ := c20_5 (w := w56) aa; obtain ⟨Lr, Sx⟩ := c20_6 (w := w56) aa; obtain ⟨Ls, Sy⟩ := c20_7 (w := w56) aa; obtain ⟨Lt, Sz⟩ := c20_8 (w := w56) aa; obtain ⟨Lu, SA⟩ := c20_9 (w := w56) aa; obtain ⟨sq, D8⟩ := c20_10 (w := w56) aa; obtain ⟨sr, D9⟩ := c20_11 (w := w56) aa; obtain ⟨ss, Ea⟩ := c20_12 (w := w56) aa; obtain ⟨st, Eb⟩ := c20_13 (w := w56) aa; obtain ⟨su, Ec⟩ := c20_14 (w := w56) aa; obtain ⟨sv, Ed⟩ := c20_15 (w := w56) aa; obtain ⟨sw, Ee⟩ := c20_16 (w := w56) aa; obtain ⟨sx, Ef⟩ := c20_17 (w := w56) aa; obtain ⟨sy, Eg⟩ := c20_18 (w := w56) aa; obtain ⟨sz, Eh⟩ := c20_19 (w := w56) aa; obtain ⟨Lv, SB⟩ := c20_0 (w := w56) ab; obtain ⟨Lw, SC⟩ := c20_1 (w := w56) ab; obtain ⟨Lx, SD⟩ := c20_2 (w := w56) ab; obtain ⟨Ly, SE⟩ := c20_3 (w := w56) ab; obtain ⟨Lz, SF⟩ := c20_4 (w := w56) ab; obtain ⟨LA, SG⟩ := c20_5 (w := w56) ab; obtain ⟨LB, SH⟩ := c20_6 (w := w56) ab; obtain ⟨LC, SI⟩ := c20_7 (w := w56) ab; obtain ⟨LD, SJ⟩ := c20_8 (w := w56) ab; obtain ⟨LE, SK⟩ := c20_9 (w := w56) ab; obtain ⟨sA, Ei⟩ := c20_10 (w := w56) ab; obtain ⟨sB, Ej⟩ := c20_11 (w := w56) ab; obtain ⟨sC, Ek⟩ := c20_12 (w := w56) ab; obtain ⟨sD, El⟩ := c20_13 (w := w56) ab; obtain ⟨sE, Em⟩ := c20_14 (w := w56) ab; obtain ⟨sF, En⟩ := c20_15 (w := w56) ab; obtain ⟨sG, Eo⟩ := c20_16 (w := w56) ab; obtain ⟨sH, Ep⟩ := c20_17 (w := w56) ab; obtain ⟨sI, Eq⟩ := c20_18 (w := w56) ab; obtain ⟨sJ, Er⟩ := c20_19 (w := w56) ab) | (go_at_call 35; (with_reducible refine (lodgerref08_Answers.calls af ag ah ai aj au av aw ax ay true _ (Lg_below HG.out (hB_ HB)) A5.out).mono ?_); rintro e w59 ⟨rfl, hb⟩; replace aa := Aside0.mk (blk_below (g := ap) (o := .cells #[.int .i64 ac, .int .u32 ad, rho_ tb_ ae, .int .i64 af, .int .u32 ag, .bool ah, rho_ tb_ ai, rho_ tb_ aj, .int .i64 an, .int .i64 ao, .int .i64 a0_10, .int .i64 a0_11, .int .i64 a0_12, .int .u64 a0_13, .bool a0_14, rho_ tb_ a0_15, .int .i64 a0_16, .int .i64 a0_17, .int .i64 a0_18, .int .i64 a0_19] 41 (0, 0)) (bk_ aa) hb); replace ab := Aside0.mk (blk_below (g := aB) (o := .cells #[.int .i64 ak, .int .u32 al, rho_ tb_ am, .int .i64 au, .int .u32 av, .bool aw, rho_ tb_ ax, rho_ tb_ ay, .int .i64 az, .int .i64 aA, .int .i64 a1_10, .int .i64 a1_11, .int .i64 a1_12, .int .u64 a1_13, .bool a1_14, rho_ tb_ a1_15, .int .i64 a1_16, .int .i64 a1_17, .int .i64 a1_18, .int .i64 a1_19] 41 (0, 0)) (bk_ ab) hb); replace HB := hS_ HB hb; (try clear hb); obtain ⟨LF, SL⟩ := c20_0 (w := w59) aa; obtain ⟨LG, SM⟩ := c20_1 (w := w59) aa; obtain ⟨LH, SN⟩ := c20_2 (w := w59) aa; obtain ⟨LI, SO⟩ := c20_3 (w := w59) aa; obtain ⟨LJ, SP⟩ := c20_4 (w := w59) aa; obtain ⟨LK, SQ⟩ := c20_5 (w := w59) aa; obtain ⟨LL, SR⟩ := c20_6 (w := w59) aa; obtain ⟨LM, SS⟩ := c20_7 (w := w59) aa; obtain ⟨LN, ST⟩ := c20_8 (w := w59) aa; obtain ⟨LO, SU⟩ := c20_9 (w := w59) aa; obtain ⟨sK, Es⟩ := c20_10 (w := w59) aa; obtain ⟨sL, Et⟩ := c20_11 (w := w59) aa; obtain ⟨sM, Eu⟩ := c20_12 (w := w59) aa; obtain ⟨sN, Ev⟩ := c20_13 (w := w59) aa; obtain ⟨sO, Ew⟩ := c20_14 (w := w59) aa; obtain ⟨sP, Ex⟩ := c20_15 (w := w59) aa; obtain ⟨sQ, Ey⟩ := c20_16 (w := w59) aa; obtain ⟨sR, Ez⟩ := c20_17 (w := w59) aa; obtain ⟨sS, EA⟩ := c20_18 (w := w59) aa; obtain ⟨sT, EB⟩ := c20_19 (w := w59) aa; obtain ⟨LP, SV⟩ := c20_0 (w := w59) ab; obtain ⟨LQ, SW⟩ := c20_1 (w := w59) ab; obtain ⟨LR, SX⟩ := c20_2 (w := w59) ab; obtain ⟨LS, SY⟩ := c20_3 (w := w59) ab; obtain ⟨LT, SZ⟩ := c20_4 (w := w59) ab; obtain ⟨LU, S0⟩ := c20_5 (w := w59) ab; obtain ⟨LV, S1⟩ := c20_6 (w := w59) ab; obtain ⟨LW, S2⟩ := c20_7 (w := w59) ab; obtain ⟨LX, S3⟩ := c20_8 (w := w59) ab; obtain ⟨LY, S4⟩ := c20_9 (w := w59) ab; obtain ⟨sU, EC⟩ := c20_10 (w := w59) ab; obtain ⟨sV, ED⟩ := c20_11 (w := w59) ab; obtain ⟨sW, EE⟩ := c20_12 (w := w59) ab; obtain ⟨sX, EF⟩ := c20_13 (w := w59) ab; obtain ⟨sY, EG⟩ := c20_14 (w := w59) ab; obtain ⟨sZ, EH⟩ := c20_15 (w := w59) ab; obtain ⟨s0, EI⟩ := c20_16 (w := w59) ab; obtain ⟨s1, EJ⟩ := c20_17 (w := w59) ab; obtain ⟨s2, EK⟩ := c20_18 (w := w59) ab; obtain ⟨s3, EL⟩ := c20_19 (w := w59) ab))
            go_ret
            exact ⟨er_, hB_ HB⟩
          ·rw [if_neg c14] at H
           exact absurd H (by simp)
         ·rw [if_neg c13] at H
          have aO : (a0_14 == a1_14) = false := by simpa using c13
          (try (have aP : decide (a0_14 = a1_14) = false := by simpa using c13))
          (try (have aQ : (a0_14 == a1_14) = false := by simpa using c13))
          (try (have Wt : ¬ (a0_14 = a1_14) := by simpa using c13))
          clear c13
          obtain rfl := Option.some.inj H
          go_enter Try.func20, Try.ntmps20
          simp only [List.append]
          go_wp2_with (first | (go_at_call 19; refine (sameq_ (of_eq_true (by assumption)) (Lg_below HG.out (hB_ HB))).mono ?_; rintro e w' ⟨rfl, ⟨nd, rfl⟩⟩) | ((with_reducible refine gd_ 2 ?_); refine bx_ (N := 2) (cs := #[.int .i64 ac, .int .u32 ad, rho_ tb_ ae, .int .i64 af, .int .u32 ag, .bool ah, rho_ tb_ ai, rho_ tb_ aj, .int .i64 an, .int .i64 ao, .int .i64 a0_10, .int .i64 a0_11, .int .i64 a0_12, .int .u64 a0_13, .bool a0_14, rho_ tb_ a0_15, .int .i64 a0_16, .int .i64 a0_17, .int .i64 a0_18, .int .i64 a0_19]) (t := 41) ?_; intro ap hg w62 aa hb; have aE := gG_ hg HB; have aC := gG_ hg HB; replace HB := hS_ HB hb; clear hb hg) | ((with_reducible refine gd_ 3 ?_); refine bx_ (N := 3) (cs := #[.int .i64 ak, .int .u32 al, rho_ tb_ am, .int .i64 au, .int .u32 av, .bool aw, rho_ tb_ ax, rho_ tb_ ay, .int .i64 az, .int .i64 aA, .int .i64 a1_10, .int .i64 a1_11, .int .i64 a1_12, .int .u64 a1_13, .bool a1_14, rho_ tb_ a1_15, .int .i64 a1_16, .int .i64 a1_17, .int .i64 a1_18, .int .i64 a1_19]) (t := 41) ?_; intro aB hg w63 ab hb; have aF := gG_ hg HB; have aD := gG_ hg HB; have aq := nL_ hg aa; have ar := nG_ hg aa; replace aa := Aside0.mk (blk_below (g := ap) (o := .cells #[.int .i64 ac, .int .u32 ad, rho_ tb_ ae, .int .i64 af, .int .u32 ag, .bool ah, rho_ tb_ ai, rho_ tb_ aj, .int .i64 an, .int .i64 ao, .int .i64 a0_10, .int .i64 a0_11, .int .i64 a0_12, .int .u64 a0_13, .bool a0_14, rho_ tb_ a0_15, .int .i64 a0_16, .int .i64 a0_17, .int .i64 a0_18, .int .i64 a0_19] 41 (0, 0)) (bk_ aa) hb); replace HB := hS_ HB hb; clear hb hg; have WA := aq.out; have WI := ar.out; obtain ⟨LZ, S5⟩ := c20_0 (w := w63) aa; obtain ⟨L0, S6⟩ := c20_1 (w := w63) aa; obtain ⟨L1, S7⟩ := c20_2 (w := w63) aa; obtain ⟨L2, S8⟩ := c20_3 (w := w63) aa; obtain ⟨L3, S9⟩ := c20_4 (w := w63) aa; obtain ⟨L4, Ta⟩ := c20_5 (w := w63) aa; obtain ⟨L5, Tb⟩ := c20_6 (w := w63) aa; obtain ⟨L6, Tc⟩ := c20_7 (w := w63) aa; obtain ⟨L7, Td⟩ := c20_8 (w := w63) aa; obtain ⟨L8, Te⟩ := c20_9 (w := w63) aa; obtain ⟨s4, EM⟩ := c20_10 (w := w63) aa; obtain ⟨s5, EN⟩ := c20_11 (w := w63) aa; obtain ⟨s6, EO⟩ := c20_12 (w := w63) aa; obtain ⟨s7, EP⟩ := c20_13 (w := w63) aa; obtain ⟨s8, EQ⟩ := c20_14 (w := w63) aa; obtain ⟨s9, ER⟩ := c20_15 (w := w63) aa; obtain ⟨ta, ES⟩ := c20_16 (w := w63) aa; obtain ⟨tb, ET⟩ := c20_17 (w := w63) aa; obtain ⟨tc, EU⟩ := c20_18 (w := w63) aa; obtain ⟨td, EV⟩ := c20_19 (w := w63) aa; obtain ⟨L9, Tf⟩ := c20_0 (w := w63) ab; obtain ⟨Ma, Tg⟩ := c20_1 (w := w63) ab; obtain ⟨Mb, Th⟩ := c20_2 (w := w63) ab; obtain ⟨Mc, Ti⟩ := c20_3 (w := w63) ab; obtain ⟨Md, Tj⟩ := c20_4 (w := w63) ab; obtain ⟨Me, Tk⟩ := c20_5 (w := w63) ab; obtain ⟨Mf, Tl⟩ := c20_6 (w := w63) ab; obtain ⟨Mg, Tm⟩ := c20_7 (w := w63) ab; obtain ⟨Mh, Tn⟩ := c20_8 (w := w63) ab; obtain ⟨Mi, To⟩ := c20_9 (w := w63) ab; obtain ⟨te, EW⟩ := c20_10 (w := w63) ab; obtain ⟨tg, EX⟩ := c20_11 (w := w63) ab; obtain ⟨th, EY⟩ := c20_12 (w := w63) ab; obtain ⟨ti, EZ⟩ := c20_13 (w := w63) ab; obtain ⟨tj, E0⟩ := c20_14 (w := w63) ab; obtain ⟨tl, E1⟩ := c20_15 (w := w63) ab; obtain ⟨tm, E2⟩ := c20_16 (w := w63) ab; obtain ⟨tn, E3⟩ := c20_17 (w := w63) ab; obtain ⟨tp, E4⟩ := c20_18 (w := w63) ab; obtain ⟨tq, E5⟩ := c20_19 (w := w63) ab) | ((with_reducible refine gate_callee (f := 34) rfl ?_); refine goesL_ (some 9) rfl rfl Try.func34 (by kernel_rfl) rfl #[.agg #[.int .i64 ac, .int .u32 ad, rho_ tb_ ae], .agg #[.int .i64 ak, .int .u32 al, rho_ tb_ am]] rfl am_ ?_; (with_reducible refine (lodgerref08_Asks.calls ac ad ae ak al am true _ ?side1 A3.out).mono ?_); (case side1 => exact Lg_below HG.out (hB_ HB)); rintro e w67 ⟨rfl, hb⟩; refine ⟨_, rfl, ?_⟩; replace aa := Aside0.mk (blk_below (g := ap) (o := .cells #[.int .i64 ac, .int .u32 ad, rho_ tb_ ae, .int .i64 af, .int .u32 ag, .bool ah, rho_ tb_ ai, rho_ tb_ aj, .int .i64 an, .int .i64 ao, .int .i64 a0_10, .int .i64 a0_11, .int .i64 a0_12, .int .u64 a0_13, .bool a0_14, rho_ tb_ a0_15, .int .i64 a0_16, .int .i64 a0_17, .int .i64 a0_18, .int .i64 a0_19] 41 (0, 0)) (bk_ aa) hb); replace ab := Aside0.mk (blk_below (g := aB) (o := .cells #[.int .i64 ak, .int .u32 al, rho_ tb_ am, .int .i64 au, .int .u32 av, .bool aw, rho_ tb_ ax, rho_ tb_ ay, .int .i64 az, .int .i64 aA, .int .i64 a1_10, .int .i64 a1_11, .int .i64 a1_12, .int .u64 a1_13, .bool a1_14, rho_ tb_ a1_15, .int .i64 a1_16, .int .i64 a1_17, .int .i64 a1_18, .int .i64 a1_19] 41 (0, 0)) (bk_ ab) hb); replace HB := hS_ HB hb; (try clear hb); obtain ⟨Mj, Tp⟩ := c20_0 (w := w67) aa; obtain ⟨Mk, Tq⟩ := c20_1 (w := w67) aa; obtain ⟨Ml, Tr⟩ := c20_2 (w := w67) aa; obtain ⟨Mm, Ts⟩ := c20_3 (w := w67) aa; obtain ⟨Mn, Tt⟩ := c20_4 (w := w67) aa; obtain ⟨Mo, Tu⟩ := c20_5 (w := w67) aa; obtain ⟨Mp, Tv⟩ := c20_6 (w := w67) aa; obtain ⟨Mq, Tw⟩ := c20_7 (w := w67) aa; obtain ⟨Mr, Tx⟩ := c20_8 (w := w67) aa; obtain ⟨Ms, Ty⟩ := c20_9 (w := w67) aa; obtain ⟨tr, E6⟩ := c20_10 (w := w67) aa; obtain ⟨ts, E7⟩ := c20_11 (w := w67) aa; obtain ⟨tt, E8⟩ := c20_12 (w := w67) aa; obtain ⟨tu, E9⟩ := c20_13 (w := w67) aa; obtain ⟨tw, Fa⟩ := c20_14 (w := w67) aa; obtain ⟨tx, Fb⟩ := c20_15 (w := w67) aa; obtain ⟨ty, Fc⟩ := c20_16 (w := w67) aa; obtain ⟨tz, Fd⟩ := c20_17 (w := w67) aa; obtain ⟨tA, Fe⟩ := c20_18 (w := w67) aa; obtain ⟨tB, Ff⟩ := c20_19 (w := w67) aa; obtain ⟨Mt, Tz⟩ := c20_0 (w := w67) ab; obtain ⟨Mu, TA⟩ := c20_1 (w := w67) ab; obtain ⟨Mv, TB⟩ := c20_2 (w := w67) ab; obtain ⟨Mw, TC⟩ := c20_3 (w := w67) ab; obtain ⟨Mx, TD⟩ := c20_4 (w := w67) ab; obtain ⟨My, TE⟩ := c20_5 (w := w67) ab; obtain ⟨Mz, TF⟩ := c20_6 (w := w67) ab; obtain ⟨MA, TG⟩ := c20_7 (w := w67) ab; obtain ⟨MB, TH⟩ := c20_8 (w := w67) ab; obtain ⟨MC, TI⟩ := c20_9 (w := w67) ab; obtain ⟨tC, Fg⟩ := c20_10 (w := w67) ab; obtain ⟨tD, Fh⟩ := c20_11 (w := w67) ab; obtain ⟨tE, Fi⟩ := c20_12 (w := w67) ab; obtain ⟨tF, Fj⟩ := c20_13 (w := w67) ab; obtain ⟨tG, Fk⟩ := c20_14 (w := w67) ab; obtain ⟨tH, Fl⟩ := c20_15 (w := w67) ab; obtain ⟨tI, Fm⟩ := c20_16 (w := w67) ab; obtain ⟨tJ, Fn⟩ := c20_17 (w := w67) ab; obtain ⟨tK, Fo⟩ := c20_18 (w := w67) ab; obtain ⟨tL, Fp⟩ := c20_19 (w := w67) ab) | (go_at_call 35; (with_reducible refine (lodgerref08_Answers.calls af ag ah ai aj au av aw ax ay true _ (Lg_below HG.out (hB_ HB)) A5.out).mono ?_); rintro e w70 ⟨rfl, hb⟩; replace aa := Aside0.mk (blk_below (g := ap) (o := .cells #[.int .i64 ac, .int .u32 ad, rho_ tb_ ae, .int .i64 af, .int .u32 ag, .bool ah, rho_ tb_ ai, rho_ tb_ aj, .int .i64 an, .int .i64 ao, .int .i64 a0_10, .int .i64 a0_11, .int .i64 a0_12, .int .u64 a0_13, .bool a0_14, rho_ tb_ a0_15, .int .i64 a0_16, .int .i64 a0_17, .int .i64 a0_18, .int .i64 a0_19] 41 (0, 0)) (bk_ aa) hb); replace ab := Aside0.mk (blk_below (g := aB) (o := .cells #[.int .i64 ak, .int .u32 al, rho_ tb_ am, .int .i64 au, .int .u32 av, .bool aw, rho_ tb_ ax, rho_ tb_ ay, .int .i64 az, .int .i64 aA, .int .i64 a1_10, .int .i64 a1_11, .int .i64 a1_12, .int .u64 a1_13, .bool a1_14, rho_ tb_ a1_15, .int .i64 a1_16, .int .i64 a1_17, .int .i64 a1_18, .int .i64 a1_19] 41 (0, 0)) (bk_ ab) hb); replace HB := hS_ HB hb; (try clear hb); obtain ⟨MD, TJ⟩ := c20_0 (w := w70) aa; obtain ⟨ME, TK⟩ := c20_1 (w := w70) aa; obtain ⟨MF, TL⟩ := c20_2 (w := w70) aa; obtain ⟨MG, TM⟩ := c20_3 (w := w70) aa; obtain ⟨MH, TN⟩ := c20_4 (w := w70) aa; obtain ⟨MI, TO⟩ := c20_5 (w := w70) aa; obtain ⟨MJ, TP⟩ := c20_6 (w := w70) aa; obtain ⟨MK, TQ⟩ := c20_7 (w := w70) aa; obtain ⟨ML, TR⟩ := c20_8 (w := w70) aa; obtain ⟨MM, TS⟩ := c20_9 (w := w70) aa; obtain ⟨tM, Fq⟩ := c20_10 (w := w70) aa; obtain ⟨tN, Fr⟩ := c20_11 (w := w70) aa; obtain ⟨tO, Fs⟩ := c20_12 (w := w70) aa; obtain ⟨tP, Ft⟩ := c20_13 (w := w70) aa; obtain ⟨tQ, Fu⟩ := c20_14 (w := w70) aa; obtain ⟨tR, Fv⟩ := c20_15 (w := w70) aa; obtain ⟨tS, Fw⟩ := c20_16 (w := w70) aa; obtain ⟨tT, Fx⟩ := c20_17 (w := w70) aa; obtain ⟨tU, Fy⟩ := c20_18 (w := w70) aa; obtain ⟨tV, Fz⟩ := c20_19 (w := w70) aa; obtain ⟨MN, TT⟩ := c20_0 (w := w70) ab; obtain ⟨MO, TU⟩ := c20_1 (w := w70) ab; obtain ⟨MP, TV⟩ := c20_2 (w := w70) ab; obtain ⟨MQ, TW⟩ := c20_3 (w := w70) ab; obtain ⟨MR, TX⟩ := c20_4 (w := w70) ab; obtain ⟨MS, TY⟩ := c20_5 (w := w70) ab; obtain ⟨MT, TZ⟩ := c20_6 (w := w70) ab; obtain ⟨MU, T0⟩ := c20_7 (w := w70) ab; obtain ⟨MV, T1⟩ := c20_8 (w := w70) ab; obtain ⟨MW, T2⟩ := c20_9 (w := w70) ab; obtain ⟨tW, FA⟩ := c20_10 (w := w70) ab; obtain ⟨tX, FB⟩ := c20_11 (w := w70) ab; obtain ⟨tY, FC⟩ := c20_12 (w := w70) ab; obtain ⟨tZ, FD⟩ := c20_13 (w := w70) ab; obtain ⟨t0, FE⟩ := c20_14 (w := w70) ab; obtain ⟨t1, FF⟩ := c20_15 (w := w70) ab; obtain ⟨t2, FG⟩ := c20_16 (w := w70) ab; obtain ⟨t3, FH⟩ := c20_17 (w := w70) ab; obtain ⟨t4, FI⟩ := c20_18 (w := w70) ab; obtain ⟨t5, FJ⟩ := c20_19 (w := w70) ab))
          go_ret
          exact ⟨er_, hB_ HB⟩
        ·rw [if_neg c12] at H
         have aM : (a0_13 == a1_13) = false := beq_eq_false_iff_ne.mpr c12
         have aN : (a0_13 != a1_13) = true := bne_iff_ne.mpr c12
         obtain rfl := Option.some.inj H
         go_enter Try.func20, Try.ntmps20
         simp only [List.append]
         go_wp2_with (first | (go_at_call 19; refine (sameq_ (of_eq_true (by assumption)) (Lg_below HG.out (hB_ HB))).mono ?_; rintro e w' ⟨rfl, ⟨nd, rfl⟩⟩) | ((with_reducible refine gd_ 2 ?_); refine bx_ (N := 2) (cs := #[.int .i64 ac, .int .u32 ad, rho_ tb_ ae, .int .i64 af, .int .u32 ag, .bool ah, rho_ tb_ ai, rho_ tb_ aj, .int .i64 an, .int .i64 ao, .int .i64 a0_10, .int .i64 a0_11, .int .i64 a0_12, .int .u64 a0_13, .bool a0_14, rho_ tb_ a0_15, .int .i64 a0_16, .int .i64 a0_17, .int .i64 a0_18, .int .i64 a0_19]) (t := 41) ?_; intro ap hg w73 aa hb; have aE := gG_ hg HB; have aC := gG_ hg HB; replace HB := hS_ HB hb; clear hb hg) | ((with_reducible refine gd_ 3 ?_); refine bx_ (N := 3) (cs := #[.int .i64 ak, .int .u32 al, rho_ tb_ am, .int .i64 au, .int .u32 av, .bool aw, rho_ tb_ ax, rho_ tb_ ay, .int .i64 az, .int .i64 aA, .int .i64 a1_10, .int .i64 a1_11, .int .i64 a1_12, .int .u64 a1_13, .bool a1_14, rho_ tb_ a1_15, .int .i64 a1_16, .int .i64 a1_17, .int .i64 a1_18, .int .i64 a1_19]) (t := 41) ?_; intro aB hg w74 ab hb; have aF := gG_ hg HB; have aD := gG_ hg HB; have aq := nL_ hg aa; have ar := nG_ hg aa; replace aa := Aside0.mk (blk_below (g := ap) (o := .cells #[.int .i64 ac, .int .u32 ad, rho_ tb_ ae, .int .i64 af, .int .u32 ag, .bool ah, rho_ tb_ ai, rho_ tb_ aj, .int .i64 an, .int .i64 ao, .int .i64 a0_10, .int .i64 a0_11, .int .i64 a0_12, .int .u64 a0_13, .bool a0_14, rho_ tb_ a0_15, .int .i64 a0_16, .int .i64 a0_17, .int .i64 a0_18, .int .i64 a0_19] 41 (0, 0)) (bk_ aa) hb); replace HB := hS_ HB hb; clear hb hg; have WB := aq.out; have WJ := ar.out; obtain ⟨MX, T3⟩ := c20_0 (w := w74) aa; obtain ⟨MY, T4⟩ := c20_1 (w := w74) aa; obtain ⟨MZ, T5⟩ := c20_2 (w := w74) aa; obtain ⟨M0, T6⟩ := c20_3 (w := w74) aa; obtain ⟨M1, T7⟩ := c20_4 (w := w74) aa; obtain ⟨M2, T8⟩ := c20_5 (w := w74) aa; obtain ⟨M3, T9⟩ := c20_6 (w := w74) aa; obtain ⟨M4, Ua⟩ := c20_7 (w := w74) aa; obtain ⟨M5, Ub⟩ := c20_8 (w := w74) aa; obtain ⟨M6, Uc⟩ := c20_9 (w := w74) aa; obtain ⟨t6, FK⟩ := c20_10 (w := w74) aa; obtain ⟨t7, FL⟩ := c20_11 (w := w74) aa; obtain ⟨t8, FM⟩ := c20_12 (w := w74) aa; obtain ⟨t9, FN⟩ := c20_13 (w := w74) aa; obtain ⟨ua, FO⟩ := c20_14 (w := w74) aa; obtain ⟨ub, FP⟩ := c20_15 (w := w74) aa; obtain ⟨uc, FQ⟩ := c20_16 (w := w74) aa; obtain ⟨ud, FR⟩ := c20_17 (w := w74) aa; obtain ⟨ue, FS⟩ := c20_18 (w := w74) aa; obtain ⟨uf, FT⟩ := c20_19 (w := w74) aa; obtain ⟨M7, Ud⟩ := c20_0 (w := w74) ab; obtain ⟨M8, Ue⟩ := c20_1 (w := w74) ab; obtain ⟨M9, Uf⟩ := c20_2 (w := w74) ab; obtain ⟨Na, Ug⟩ := c20_3 (w := w74) ab; obtain ⟨Nb, Uh⟩ := c20_4 (w := w74) ab; obtain ⟨Nc, Ui⟩ := c20_5 (w := w74) ab; obtain ⟨Nd, Uj⟩ := c20_6 (w := w74) ab; obtain ⟨Ne, Uk⟩ := c20_7 (w := w74) ab; obtain ⟨Nf, Ul⟩ := c20_8 (w := w74) ab; obtain ⟨Ng, Um⟩ := c20_9 (w := w74) ab; obtain ⟨ug, FU⟩ := c20_10 (w := w74) ab; obtain ⟨uh, FV⟩ := c20_11 (w := w74) ab; obtain ⟨ui, FW⟩ := c20_12 (w := w74) ab; obtain ⟨uj, FX⟩ := c20_13 (w := w74) ab; obtain ⟨uk, FY⟩ := c20_14 (w := w74) ab; obtain ⟨ul, FZ⟩ := c20_15 (w := w74) ab; obtain ⟨um, F0⟩ := c20_16 (w := w74) ab; obtain ⟨un, F1⟩ := c20_17 (w := w74) ab; obtain ⟨uo, F2⟩ := c20_18 (w := w74) ab; obtain ⟨up, F3⟩ := c20_19 (w := w74) ab) | ((with_reducible refine gate_callee (f := 34) rfl ?_); refine goesL_ (some 9) rfl rfl Try.func34 (by kernel_rfl) rfl #[.agg #[.int .i64 ac, .int .u32 ad, rho_ tb_ ae], .agg #[.int .i64 ak, .int .u32 al, rho_ tb_ am]] rfl am_ ?_; (with_reducible refine (lodgerref08_Asks.calls ac ad ae ak al am true _ ?side1 A3.out).mono ?_); (case side1 => exact Lg_below HG.out (hB_ HB)); rintro e w78 ⟨rfl, hb⟩; refine ⟨_, rfl, ?_⟩; replace aa := Aside0.mk (blk_below (g := ap) (o := .cells #[.int .i64 ac, .int .u32 ad, rho_ tb_ ae, .int .i64 af, .int .u32 ag, .bool ah, rho_ tb_ ai, rho_ tb_ aj, .int .i64 an, .int .i64 ao, .int .i64 a0_10, .int .i64 a0_11, .int .i64 a0_12, .int .u64 a0_13, .bool a0_14, rho_ tb_ a0_15, .int .i64 a0_16, .int .i64 a0_17, .int .i64 a0_18, .int .i64 a0_19] 41 (0, 0)) (bk_ aa) hb); replace ab := Aside0.mk (blk_below (g := aB) (o := .cells #[.int .i64 ak, .int .u32 al, rho_ tb_ am, .int .i64 au, .int .u32 av, .bool aw, rho_ tb_ ax, rho_ tb_ ay, .int .i64 az, .int .i64 aA, .int .i64 a1_10, .int .i64 a1_11, .int .i64 a1_12, .int .u64 a1_13, .bool a1_14, rho_ tb_ a1_15, .int .i64 a1_16, .int .i64 a1_17, .int .i64 a1_18, .int .i64 a1_19] 41 (0, 0)) (bk_ ab) hb); replace HB := hS_ HB hb; (try clear hb); obtain ⟨Nh, Un⟩ := c20_0 (w := w78) aa; obtain ⟨Ni, Uo⟩ := c20_1 (w := w78) aa; obtain ⟨Nj, Up⟩ := c20_2 (w := w78) aa; obtain ⟨Nk, Uq⟩ := c20_3 (w := w78) aa; obtain ⟨Nl, Ur⟩ := c20_4 (w := w78) aa; obtain ⟨Nm, Us⟩ := c20_5 (w := w78) aa; obtain ⟨Nn, Ut⟩ := c20_6 (w := w78) aa; obtain ⟨No, Uu⟩ := c20_7 (w := w78) aa; obtain ⟨Np, Uv⟩ := c20_8 (w := w78) aa; obtain ⟨Nq, Uw⟩ := c20_9 (w := w78) aa; obtain ⟨uq, F4⟩ := c20_10 (w := w78) aa; obtain ⟨ur, F5⟩ := c20_11 (w := w78) aa; obtain ⟨us, F6⟩ := c20_12 (w := w78) aa; obtain ⟨ut, F7⟩ := c20_13 (w := w78) aa; obtain ⟨uu, F8⟩ := c20_14 (w := w78) aa; obtain ⟨uv, F9⟩ := c20_15 (w := w78) aa; obtain ⟨uw, Ga⟩ := c20_16 (w := w78) aa; obtain ⟨ux, Gb⟩ := c20_17 (w := w78) aa; obtain ⟨uy, Gc⟩ := c20_18 (w := w78) aa; obtain ⟨uz, Gd⟩ := c20_19 (w := w78) aa; obtain ⟨Nr, Ux⟩ := c20_0 (w := w78) ab; obtain ⟨Ns, Uy⟩ := c20_1 (w := w78) ab; obtain ⟨Nt, Uz⟩ := c20_2 (w := w78) ab; obtain ⟨Nu, UA⟩ := c20_3 (w := w78) ab; obtain ⟨Nv, UB⟩ := c20_4 (w := w78) ab; obtain ⟨Nw, UC⟩ := c20_5 (w := w78) ab; obtain ⟨Nx, UD⟩ := c20_6 (w := w78) ab; obtain ⟨Ny, UE⟩ := c20_7 (w := w78) ab; obtain ⟨Nz, UF⟩ := c20_8 (w := w78) ab; obtain ⟨NA, UG⟩ := c20_9 (w := w78) ab; obtain ⟨uA, Ge⟩ := c20_10 (w := w78) ab; obtain ⟨uB, Gf⟩ := c20_11 (w := w78) ab; obtain ⟨uC, Gg⟩ := c20_12 (w := w78) ab; obtain ⟨uD, Gh⟩ := c20_13 (w := w78) ab; obtain ⟨uE, Gi⟩ := c20_14 (w := w78) ab; obtain ⟨uF, Gj⟩ := c20_15 (w := w78) ab; obtain ⟨uG, Gk⟩ := c20_16 (w := w78) ab; obtain ⟨uH, Gl⟩ := c20_17 (w := w78) ab; obtain ⟨uI, Gm⟩ := c20_18 (w := w78) ab; obtain ⟨uJ, Gn⟩ := c20_19 (w := w78) ab) | (go_at_call 35; (with_reducible refine (lodgerref08_Answers.calls af ag ah ai aj au av aw ax ay true _ (Lg_below HG.out (hB_ HB)) A5.out).mono ?_); rintro e w81 ⟨rfl, hb⟩; replace aa := Aside0.mk (blk_below (g := ap) (o := .cells #[.int .i64 ac, .int .u32 ad, rho_ tb_ ae, .int .i64 af, .int .u32 ag, .bool ah, rho_ tb_ ai, rho_ tb_ aj, .int .i64 an, .int .i64 ao, .int .i64 a0_10, .int .i64 a0_11, .int .i64 a0_12, .int .u64 a0_13, .bool a0_14, rho_ tb_ a0_15, .int .i64 a0_16, .int .i64 a0_17, .int .i64 a0_18, .int .i64 a0_19] 41 (0, 0)) (bk_ aa) hb); replace ab := Aside0.mk (blk_below (g := aB) (o := .cells #[.int .i64 ak, .int .u32 al, rho_ tb_ am, .int .i64 au, .int .u32 av, .bool aw, rho_ tb_ ax, rho_ tb_ ay, .int .i64 az, .int .i64 aA, .int .i64 a1_10, .int .i64 a1_11, .int .i64 a1_12, .int .u64 a1_13, .bool a1_14, rho_ tb_ a1_15, .int .i64 a1_16, .int .i64 a1_17, .int .i64 a1_18, .int .i64 a1_19] 41 (0, 0)) (bk_ ab) hb); replace HB := hS_ HB hb; (try clear hb); obtain ⟨NB, UH⟩ := c20_0 (w := w81) aa; obtain ⟨NC, UI⟩ := c20_1 (w := w81) aa; obtain ⟨ND, UJ⟩ := c20_2 (w := w81) aa; obtain ⟨NE, UK⟩ := c20_3 (w := w81) aa; obtain ⟨NF, UL⟩ := c20_4 (w := w81) aa; obtain ⟨NG, UM⟩ := c20_5 (w := w81) aa; obtain ⟨NH, UN⟩ := c20_6 (w := w81) aa; obtain ⟨NI, UO⟩ := c20_7 (w := w81) aa; obtain ⟨NJ, UP⟩ := c20_8 (w := w81) aa; obtain ⟨NK, UQ⟩ := c20_9 (w := w81) aa; obtain ⟨uK, Go⟩ := c20_10 (w := w81) aa; obtain ⟨uL, Gp⟩ := c20_11 (w := w81) aa; obtain ⟨uM, Gq⟩ := c20_12 (w := w81) aa; obtain ⟨uN, Gr⟩ := c20_13 (w := w81) aa; obtain ⟨uO, Gs⟩ := c20_14 (w := w81) aa; obtain ⟨uP, Gt⟩ := c20_15 (w := w81) aa; obtain ⟨uQ, Gu⟩ := c20_16 (w := w81) aa; obtain ⟨uR, Gv⟩ := c20_17 (w := w81) aa; obtain ⟨uS, Gw⟩ := c20_18 (w := w81) aa; obtain ⟨uT, Gx⟩ := c20_19 (w := w81) aa; obtain ⟨NL, UR⟩ := c20_0 (w := w81) ab; obtain ⟨NM, US⟩ := c20_1 (w := w81) ab; obtain ⟨NN, UT⟩ := c20_2 (w := w81) ab; obtain ⟨NO, UU⟩ := c20_3 (w := w81) ab; obtain ⟨NP, UV⟩ := c20_4 (w := w81) ab; obtain ⟨NQ, UW⟩ := c20_5 (w := w81) ab; obtain ⟨NR, UX⟩ := c20_6 (w := w81) ab; obtain ⟨NS, UY⟩ := c20_7 (w := w81) ab; obtain ⟨NT, UZ⟩ := c20_8 (w := w81) ab; obtain ⟨NU, U0⟩ := c20_9 (w := w81) ab; obtain ⟨uU, Gy⟩ := c20_10 (w := w81) ab; obtain ⟨uV, Gz⟩ := c20_11 (w := w81) ab; obtain ⟨uW, GA⟩ := c20_12 (w := w81) ab; obtain ⟨uX, GB⟩ := c20_13 (w := w81) ab; obtain ⟨uY, GC⟩ := c20_14 (w := w81) ab; obtain ⟨uZ, GD⟩ := c20_15 (w := w81) ab; obtain ⟨u0, GE⟩ := c20_16 (w := w81) ab; obtain ⟨u1, GF⟩ := c20_17 (w := w81) ab; obtain ⟨u2, GG⟩ := c20_18 (w := w81) ab; obtain ⟨u3, GH⟩ := c20_19 (w := w81) ab))
         go_ret
         exact ⟨er_, hB_ HB⟩
       ·rw [if_neg c11] at H
        have aK : (a0_12 == a1_12) = false := beq_eq_false_iff_ne.mpr c11
        have aL : (a0_12 != a1_12) = true := bne_iff_ne.mpr c11
        obtain rfl := Option.some.inj H
        go_enter Try.func20, Try.ntmps20
        simp only [List.append]
        go_wp2_with (first | (go_at_call 19; refine (sameq_ (of_eq_true (by assumption)) (Lg_below HG.out (hB_ HB))).mono ?_; rintro e w' ⟨rfl, ⟨nd, rfl⟩⟩) | ((with_reducible refine gd_ 2 ?_); refine bx_ (N := 2) (cs := #[.int .i64 ac, .int .u32 ad, rho_ tb_ ae, .int .i64 af, .int .u32 ag, .bool ah, rho_ tb_ ai, rho_ tb_ aj, .int .i64 an, .int .i64 ao, .int .i64 a0_10, .int .i64 a0_11, .int .i64 a0_12, .int .u64 a0_13, .bool a0_14, rho_ tb_ a0_15, .int .i64 a0_16, .int .i64 a0_17, .int .i64 a0_18, .int .i64 a0_19]) (t := 41) ?_; intro ap hg w84 aa hb; have aE := gG_ hg HB; have aC := gG_ hg HB; replace HB := hS_ HB hb; clear hb hg) | ((with_reducible refine gd_ 3 ?_); refine bx_ (N := 3) (cs := #[.int .i64 ak, .int .u32 al, rho_ tb_ am, .int .i64 au, .int .u32 av, .bool aw, rho_ tb_ ax, rho_ tb_ ay, .int .i64 az, .int .i64 aA, .int .i64 a1_10, .int .i64 a1_11, .int .i64 a1_12, .int .u64 a1_13, .bool a1_14, rho_ tb_ a1_15, .int .i64 a1_16, .int .i64 a1_17, .int .i64 a1_18, .int .i64 a1_19]) (t := 41) ?_; intro aB hg w85 ab hb; have aF := gG_ hg HB; have aD := gG_ hg HB; have aq := nL_ hg aa; have ar := nG_ hg aa; replace aa := Aside0.mk (blk_below (g := ap) (o := .cells #[.int .i64 ac, .int .u32 ad, rho_ tb_ ae, .int .i64 af, .int .u32 ag, .bool ah, rho_ tb_ ai, rho_ tb_ aj, .int .i64 an, .int .i64 ao, .int .i64 a0_10, .int .i64 a0_11, .int .i64 a0_12, .int .u64 a0_13, .bool a0_14, rho_ tb_ a0_15, .int .i64 a0_16, .int .i64 a0_17, .int .i64 a0_18, .int .i64 a0_19] 41 (0, 0)) (bk_ aa) hb); replace HB := hS_ HB hb; clear hb hg; have WC := aq.out; have WK := ar.out; obtain ⟨NV, U1⟩ := c20_0 (w := w85) aa; obtain ⟨NW, U2⟩ := c20_1 (w := w85) aa; obtain ⟨NX, U3⟩ := c20_2 (w := w85) aa; obtain ⟨NY, U4⟩ := c20_3 (w := w85) aa; obtain ⟨NZ, U5⟩ := c20_4 (w := w85) aa; obtain ⟨N0, U6⟩ := c20_5 (w := w85) aa; obtain ⟨N1, U7⟩ := c20_6 (w := w85) aa; obtain ⟨N2, U8⟩ := c20_7 (w := w85) aa; obtain ⟨N3, U9⟩ := c20_8 (w := w85) aa; obtain ⟨N4, Va⟩ := c20_9 (w := w85) aa; obtain ⟨u4, GI⟩ := c20_10 (w := w85) aa; obtain ⟨u5, GJ⟩ := c20_11 (w := w85) aa; obtain ⟨u6, GK⟩ := c20_12 (w := w85) aa; obtain ⟨u7, GL⟩ := c20_13 (w := w85) aa; obtain ⟨u8, GM⟩ := c20_14 (w := w85) aa; obtain ⟨u9, GN⟩ := c20_15 (w := w85) aa; obtain ⟨va, GO⟩ := c20_16 (w := w85) aa; obtain ⟨vb, GP⟩ := c20_17 (w := w85) aa; obtain ⟨vc, GQ⟩ := c20_18 (w := w85) aa; obtain ⟨vd, GR⟩ := c20_19 (w := w85) aa; obtain ⟨N5, Vb⟩ := c20_0 (w := w85) ab; obtain ⟨N6, Vc⟩ := c20_1 (w := w85) ab; obtain ⟨N7, Vd⟩ := c20_2 (w := w85) ab; obtain ⟨N8, Ve⟩ := c20_3 (w := w85) ab; obtain ⟨N9, Vf⟩ := c20_4 (w := w85) ab; obtain ⟨Oa, Vg⟩ := c20_5 (w := w85) ab; obtain ⟨Ob, Vh⟩ := c20_6 (w := w85) ab; obtain ⟨Oc, Vi⟩ := c20_7 (w := w85) ab; obtain ⟨Od, Vj⟩ := c20_8 (w := w85) ab; obtain ⟨Oe, Vk⟩ := c20_9 (w := w85) ab; obtain ⟨ve, GS⟩ := c20_10 (w := w85) ab; obtain ⟨vf, GT⟩ := c20_11 (w := w85) ab; obtain ⟨vg, GU⟩ := c20_12 (w := w85) ab; obtain ⟨vh, GV⟩ := c20_13 (w := w85) ab; obtain ⟨vi, GW⟩ := c20_14 (w := w85) ab; obtain ⟨vj, GX⟩ := c20_15 (w := w85) ab; obtain ⟨vk, GY⟩ := c20_16 (w := w85) ab; obtain ⟨vl, GZ⟩ := c20_17 (w := w85) ab; obtain ⟨vm, G0⟩ := c20_18 (w := w85) ab; obtain ⟨vn, G1⟩ := c20_19 (w := w85) ab) | ((with_reducible refine gate_callee (f := 34) rfl ?_); refine goesL_ (some 9) rfl rfl Try.func34 (by kernel_rfl) rfl #[.agg #[.int .i64 ac, .int .u32 ad, rho_ tb_ ae], .agg #[.int .i64 ak, .int .u32 al, rho_ tb_ am]] rfl am_ ?_; (with_reducible refine (lodgerref08_Asks.calls ac ad ae ak al am true _ ?side1 A3.out).mono ?_); (case side1 => exact Lg_below HG.out (hB_ HB)); rintro e w89 ⟨rfl, hb⟩; refine ⟨_, rfl, ?_⟩; replace aa := Aside0.mk (blk_below (g := ap) (o := .cells #[.int .i64 ac, .int .u32 ad, rho_ tb_ ae, .int .i64 af, .int .u32 ag, .bool ah, rho_ tb_ ai, rho_ tb_ aj, .int .i64 an, .int .i64 ao, .int .i64 a0_10, .int .i64 a0_11, .int .i64 a0_12, .int .u64 a0_13, .bool a0_14, rho_ tb_ a0_15, .int .i64 a0_16, .int .i64 a0_17, .int .i64 a0_18, .int .i64 a0_19] 41 (0, 0)) (bk_ aa) hb); replace ab := Aside0.mk (blk_below (g := aB) (o := .cells #[.int .i64 ak, .int .u32 al, rho_ tb_ am, .int .i64 au, .int .u32 av, .bool aw, rho_ tb_ ax, rho_ tb_ ay, .int .i64 az, .int .i64 aA, .int .i64 a1_10, .int .i64 a1_11, .int .i64 a1_12, .int .u64 a1_13, .bool a1_14, rho_ tb_ a1_15, .int .i64 a1_16, .int .i64 a1_17, .int .i64 a1_18, .int .i64 a1_19] 41 (0, 0)) (bk_ ab) hb); replace HB := hS_ HB hb; (try clear hb); obtain ⟨Of, Vl⟩ := c20_0 (w := w89) aa; obtain ⟨Og, Vm⟩ := c20_1 (w := w89) aa; obtain ⟨Oh, Vn⟩ := c20_2 (w := w89) aa; obtain ⟨Oi, Vo⟩ := c20_3 (w := w89) aa; obtain ⟨Oj, Vp⟩ := c20_4 (w := w89) aa; obtain ⟨Ok, Vq⟩ := c20_5 (w := w89) aa; obtain ⟨Ol, Vr⟩ := c20_6 (w := w89) aa; obtain ⟨Om, Vs⟩ := c20_7 (w := w89) aa; obtain ⟨On, Vt⟩ := c20_8 (w := w89) aa; obtain ⟨Oo, Vu⟩ := c20_9 (w := w89) aa; obtain ⟨vo, G2⟩ := c20_10 (w := w89) aa; obtain ⟨vp, G3⟩ := c20_11 (w := w89) aa; obtain ⟨vq, G4⟩ := c20_12 (w := w89) aa; obtain ⟨vr, G5⟩ := c20_13 (w := w89) aa; obtain ⟨vs, G6⟩ := c20_14 (w := w89) aa; obtain ⟨vt, G7⟩ := c20_15 (w := w89) aa; obtain ⟨vu, G8⟩ := c20_16 (w := w89) aa; obtain ⟨vv, G9⟩ := c20_17 (w := w89) aa; obtain ⟨vw, Ha⟩ := c20_18 (w := w89) aa; obtain ⟨vx, Hb⟩ := c20_19 (w := w89) aa; obtain ⟨Op, Vv⟩ := c20_0 (w := w89) ab; obtain ⟨Oq, Vw⟩ := c20_1 (w := w89) ab; obtain ⟨Or, Vx⟩ := c20_2 (w := w89) ab; obtain ⟨Os, Vy⟩ := c20_3 (w := w89) ab; obtain ⟨Ot, Vz⟩ := c20_4 (w := w89) ab; obtain ⟨Ou, VA⟩ := c20_5 (w := w89) ab; obtain ⟨Ov, VB⟩ := c20_6 (w := w89) ab; obtain ⟨Ow, VC⟩ := c20_7 (w := w89) ab; obtain ⟨Ox, VD⟩ := c20_8 (w := w89) ab; obtain ⟨Oy, VE⟩ := c20_9 (w := w89) ab; obtain ⟨vy, Hc⟩ := c20_10 (w := w89) ab; obtain ⟨vz, Hd⟩ := c20_11 (w := w89) ab; obtain ⟨vA, He⟩ := c20_12 (w := w89) ab; obtain ⟨vB, Hf⟩ := c20_13 (w := w89) ab; obtain ⟨vC, Hg⟩ := c20_14 (w := w89) ab; obtain ⟨vD, Hh⟩ := c20_15 (w := w89) ab; obtain ⟨vE, Hi⟩ := c20_16 (w := w89) ab; obtain ⟨vF, Hj⟩ := c20_17 (w := w89) ab; obtain ⟨vG, Hk⟩ := c20_18 (w := w89) ab; obtain ⟨vH, Hl⟩ := c20_19 (w := w89) ab) | (go_at_call 35; (with_reducible refine (lodgerref08_Answers.calls af ag ah ai aj au av aw ax ay true _ (Lg_below HG.out (hB_ HB)) A5.out).mono ?_); rintro e w92 ⟨rfl, hb⟩; replace aa := Aside0.mk (blk_below (g := ap) (o := .cells #[.int .i64 ac, .int .u32 ad, rho_ tb_ ae, .int .i64 af, .int .u32 ag, .bool ah, rho_ tb_ ai, rho_ tb_ aj, .int .i64 an, .int .i64 ao, .int .i64 a0_10, .int .i64 a0_11, .int .i64 a0_12, .int .u64 a0_13, .bool a0_14, rho_ tb_ a0_15, .int .i64 a0_16, .int .i64 a0_17, .int .i64 a0_18, .int .i64 a0_19] 41 (0, 0)) (bk_ aa) hb); replace ab := Aside0.mk (blk_below (g := aB) (o := .cells #[.int .i64 ak, .int .u32 al, rho_ tb_ am, .int .i64 au, .int .u32 av, .bool aw, rho_ tb_ ax, rho_ tb_ ay, .int .i64 az, .int .i64 aA, .int .i64 a1_10, .int .i64 a1_11, .int .i64 a1_12, .int .u64 a1_13, .bool a1_14, rho_ tb_ a1_15, .int .i64 a1_16, .int .i64 a1_17, .int .i64 a1_18, .int .i64 a1_19] 41 (0, 0)) (bk_ ab) hb); replace HB := hS_ HB hb; (try clear hb); obtain ⟨Oz, VF⟩ := c20_0 (w := w92) aa; obtain ⟨OA, VG⟩ := c20_1 (w := w92) aa; obtain ⟨OB, VH⟩ := c20_2 (w := w92) aa; obtain ⟨OC, VI⟩ := c20_3 (w := w92) aa; obtain ⟨OD, VJ⟩ := c20_4 (w := w92) aa; obtain ⟨OE, VK⟩ := c20_5 (w := w92) aa; obtain ⟨OF, VL⟩ := c20_6 (w := w92) aa; obtain ⟨OG, VM⟩ := c20_7 (w := w92) aa; obtain ⟨OH, VN⟩ := c20_8 (w := w92) aa; obtain ⟨OI, VO⟩ := c20_9 (w := w92) aa; obtain ⟨vI, Hm⟩ := c20_10 (w := w92) aa; obtain ⟨vJ, Hn⟩ := c20_11 (w := w92) aa; obtain ⟨vK, Ho⟩ := c20_12 (w := w92) aa; obtain ⟨vL, Hp⟩ := c20_13 (w := w92) aa; obtain ⟨vM, Hq⟩ := c20_14 (w := w92) aa; obtain ⟨vN, Hr⟩ := c20_15 (w := w92) aa; obtain ⟨vO, Hs⟩ := c20_16 (w := w92) aa; obtain ⟨vP, Ht⟩ := c20_17 (w := w92) aa; obtain ⟨vQ, Hu⟩ := c20_18 (w := w92) aa; obtain ⟨vR, Hv⟩ := c20_19 (w := w92) aa; obtain ⟨OJ, VP⟩ := c20_0 (w := w92) ab; obtain ⟨OK, VQ⟩ := c20_1 (w := w92) ab; obtain ⟨OL, VR⟩ := c20_2 (w := w92) ab; obtain ⟨OM, VS⟩ := c20_3 (w := w92) ab; obtain ⟨ON, VT⟩ := c20_4 (w := w92) ab; obtain ⟨OO, VU⟩ := c20_5 (w := w92) ab; obtain ⟨OP, VV⟩ := c20_6 (w := w92) ab; obtain ⟨OQ, VW⟩ := c20_7 (w := w92) ab; obtain ⟨OR, VX⟩ := c20_8 (w := w92) ab; obtain ⟨OS, VY⟩ := c20_9 (w := w92) ab; obtain ⟨vS, Hw⟩ := c20_10 (w := w92) ab; obtain ⟨vT, Hx⟩ := c20_11 (w := w92) ab; obtain ⟨vU, Hy⟩ := c20_12 (w := w92) ab; obtain ⟨vV, Hz⟩ := c20_13 (w := w92) ab; obtain ⟨vW, HA⟩ := c20_14 (w := w92) ab; obtain ⟨vX, HC⟩ := c20_15 (w := w92) ab; obtain ⟨vY, HD⟩ := c20_16 (w := w92) ab; obtain ⟨vZ, HE⟩ := c20_17 (w := w92) ab; obtain ⟨v0, HF⟩ := c20_18 (w := w92) ab; obtain ⟨v1, HH⟩ := c20_19 (w := w92) ab))
        go_ret
        exact ⟨er_, hB_ HB⟩
      ·rw [if_neg c10] at H
       have aI : (a0_11 == a1_11) = false := beq_eq_false_iff_ne.mpr c10
       have aJ : (a0_11 != a1_11) = true := bne_iff_ne.mpr c10
       obtain rfl := Option.some.inj H
       go_enter Try.func20, Try.ntmps20
       simp only [List.append]
       go_wp2_with (first | (go_at_call 19; refine (sameq_ (of_eq_true (by assumption)) (Lg_below HG.out (hB_ HB))).mono ?_; rintro e w' ⟨rfl, ⟨nd, rfl⟩⟩) | ((with_reducible refine gd_ 2 ?_); refine bx_ (N := 2) (cs := #[.int .i64 ac, .int .u32 ad, rho_ tb_ ae, .int .i64 af, .int .u32 ag, .bool ah, rho_ tb_ ai, rho_ tb_ aj, .int .i64 an, .int .i64 ao, .int .i64 a0_10, .int .i64 a0_11, .int .i64 a0_12, .int .u64 a0_13, .bool a0_14, rho_ tb_ a0_15, .int .i64 a0_16, .int .i64 a0_17, .int .i64 a0_18, .int .i64 a0_19]) (t := 41) ?_; intro ap hg w95 aa hb; have aE := gG_ hg HB; have aC := gG_ hg HB; replace HB := hS_ HB hb; clear hb hg) | ((with_reducible refine gd_ 3 ?_); refine bx_ (N := 3) (cs := #[.int .i64 ak, .int .u32 al, rho_ tb_ am, .int .i64 au, .int .u32 av, .bool aw, rho_ tb_ ax, rho_ tb_ ay, .int .i64 az, .int .i64 aA, .int .i64 a1_10, .int .i64 a1_11, .int .i64 a1_12, .int .u64 a1_13, .bool a1_14, rho_ tb_ a1_15, .int .i64 a1_16, .int .i64 a1_17, .int .i64 a1_18, .int .i64 a1_19]) (t := 41) ?_; intro aB hg w96 ab hb; have aF := gG_ hg HB; have aD := gG_ hg HB; have aq := nL_ hg aa; have ar := nG_ hg aa; replace aa := Aside0.mk (blk_below (g := ap) (o := .cells #[.int .i64 ac, .int .u32 ad, rho_ tb_ ae, .int .i64 af, .int .u32 ag, .bool ah, rho_ tb_ ai, rho_ tb_ aj, .int .i64 an, .int .i64 ao, .int .i64 a0_10, .int .i64 a0_11, .int .i64 a0_12, .int .u64 a0_13, .bool a0_14, rho_ tb_ a0_15, .int .i64 a0_16, .int .i64 a0_17, .int .i64 a0_18, .int .i64 a0_19] 41 (0, 0)) (bk_ aa) hb); replace HB := hS_ HB hb; clear hb hg; have WD := aq.out; have WL := ar.out; obtain ⟨OT, VZ⟩ := c20_0 (w := w96) aa; obtain ⟨OU, V0⟩ := c20_1 (w := w96) aa; obtain ⟨OV, V1⟩ := c20_2 (w := w96) aa; obtain ⟨OW, V2⟩ := c20_3 (w := w96) aa; obtain ⟨OX, V3⟩ := c20_4 (w := w96) aa; obtain ⟨OY, V4⟩ := c20_5 (w := w96) aa; obtain ⟨OZ, V5⟩ := c20_6 (w := w96) aa; obtain ⟨O0, V6⟩ := c20_7 (w := w96) aa; obtain ⟨O1, V7⟩ := c20_8 (w := w96) aa; obtain ⟨O2, V8⟩ := c20_9 (w := w96) aa; obtain ⟨v2, HI⟩ := c20_10 (w := w96) aa; obtain ⟨v3, HJ⟩ := c20_11 (w := w96) aa; obtain ⟨v4, HK⟩ := c20_12 (w := w96) aa; obtain ⟨v5, HL⟩ := c20_13 (w := w96) aa; obtain ⟨v6, HM⟩ := c20_14 (w := w96) aa; obtain ⟨v7, HN⟩ := c20_15 (w := w96) aa; obtain ⟨v8, HO⟩ := c20_16 (w := w96) aa; obtain ⟨v9, HP⟩ := c20_17 (w := w96) aa; obtain ⟨wa, HQ⟩ := c20_18 (w := w96) aa; obtain ⟨wb, HR⟩ := c20_19 (w := w96) aa; obtain ⟨O3, V9⟩ := c20_0 (w := w96) ab; obtain ⟨O4, Wa⟩ := c20_1 (w := w96) ab; obtain ⟨O5, Wb⟩ := c20_2 (w := w96) ab; obtain ⟨O6, Wc⟩ := c20_3 (w := w96) ab; obtain ⟨O7, Wd⟩ := c20_4 (w := w96) ab; obtain ⟨O8, We⟩ := c20_5 (w := w96) ab; obtain ⟨O9, Wf⟩ := c20_6 (w := w96) ab; obtain ⟨Pa, Wg⟩ := c20_7 (w := w96) ab; obtain ⟨Pb, Wh⟩ := c20_8 (w := w96) ab; obtain ⟨Pc, Wi⟩ := c20_9 (w := w96) ab; obtain ⟨wc, HS⟩ := c20_10 (w := w96) ab; obtain ⟨wd, HT⟩ := c20_11 (w := w96) ab; obtain ⟨we, HU⟩ := c20_12 (w := w96) ab; obtain ⟨wf, HV⟩ := c20_13 (w := w96) ab; obtain ⟨wg, HW⟩ := c20_14 (w := w96) ab; obtain ⟨wh, HX⟩ := c20_15 (w := w96) ab; obtain ⟨wi, HY⟩ := c20_16 (w := w96) ab; obtain ⟨wj, HZ⟩ := c20_17 (w := w96) ab; obtain ⟨wk, H0⟩ := c20_18 (w := w96) ab; obtain ⟨wl, H2⟩ := c20_19 (w := w96) ab) | ((with_reducible refine gate_callee (f := 34) rfl ?_); refine goesL_ (some 9) rfl rfl Try.func34 (by kernel_rfl) rfl #[.agg #[.int .i64 ac, .int .u32 ad, rho_ tb_ ae], .agg #[.int .i64 ak, .int .u32 al, rho_ tb_ am]] rfl am_ ?_; (with_reducible refine (lodgerref08_Asks.calls ac ad ae ak al am true _ ?side1 A3.out).mono ?_); (case side1 => exact Lg_below HG.out (hB_ HB)); rintro e w100 ⟨rfl, hb⟩; refine ⟨_, rfl, ?_⟩; replace aa := Aside0.mk (blk_below (g := ap) (o := .cells #[.int .i64 ac, .int .u32 ad, rho_ tb_ ae, .int .i64 af, .int .u32 ag, .bool ah, rho_ tb_ ai, rho_ tb_ aj, .int .i64 an, .int .i64 ao, .int .i64 a0_10, .int .i64 a0_11, .int .i64 a0_12, .int .u64 a0_13, .bool a0_14, rho_ tb_ a0_15, .int .i64 a0_16, .int .i64 a0_17, .int .i64 a0_18, .int .i64 a0_19] 41 (0, 0)) (bk_ aa) hb); replace ab := Aside0.mk (blk_below (g := aB) (o := .cells #[.int .i64 ak, .int .u32 al, rho_ tb_ am, .int .i64 au, .int .u32 av, .bool aw, rho_ tb_ ax, rho_ tb_ ay, .int .i64 az, .int .i64 aA, .int .i64 a1_10, .int .i64 a1_11, .int .i64 a1_12, .int .u64 a1_13, .bool a1_14, rho_ tb_ a1_15, .int .i64 a1_16, .int .i64 a1_17, .int .i64 a1_18, .int .i64 a1_19] 41 (0, 0)) (bk_ ab) hb); replace HB := hS_ HB hb; (try clear hb); obtain ⟨kp, wm⟩ := c20_0 (w := w100) aa; obtain ⟨kq, wn⟩ := c20_1 (w := w100) aa; obtain ⟨kr, wo⟩ := c20_2 (w := w100) aa; obtain ⟨ks, wp⟩ := c20_3 (w := w100) aa; obtain ⟨kt, wq⟩ := c20_4 (w := w100) aa; obtain ⟨ku, wr⟩ := c20_5 (w := w100) aa; obtain ⟨kv, ws⟩ := c20_6 (w := w100) aa; obtain ⟨kw, wt⟩ := c20_7 (w := w100) aa; obtain ⟨kx, wu⟩ := c20_8 (w := w100) aa; obtain ⟨ky, wv⟩ := c20_9 (w := w100) aa; obtain ⟨aX, fE⟩ := c20_10 (w := w100) aa; obtain ⟨aY, fF⟩ := c20_11 (w := w100) aa; obtain ⟨aZ, fG⟩ := c20_12 (w := w100) aa; obtain ⟨a0, fH⟩ := c20_13 (w := w100) aa; obtain ⟨a1, fI⟩ := c20_14 (w := w100) aa; obtain ⟨a2, fJ⟩ := c20_15 (w := w100) aa; obtain ⟨a3, fK⟩ := c20_16 (w := w100) aa; obtain ⟨a4, fL⟩ := c20_17 (w := w100) aa; obtain ⟨a5, fM⟩ := c20_18 (w := w100) aa; obtain ⟨a6, fN⟩ := c20_19 (w := w100) aa; obtain ⟨kz, ww⟩ := c20_0 (w := w100) ab; obtain ⟨kA, wx⟩ := c20_1 (w := w100) ab; obtain ⟨kB, wy⟩ := c20_2 (w := w100) ab; obtain ⟨kC, wz⟩ := c20_3 (w := w100) ab; obtain ⟨kD, wA⟩ := c20_4 (w := w100) ab; obtain ⟨kE, wB⟩ := c20_5 (w := w100) ab; obtain ⟨kF, wC⟩ := c20_6 (w := w100) ab; obtain ⟨kG, wD⟩ := c20_7 (w := w100) ab; obtain ⟨kH, wE⟩ := c20_8 (w := w100) ab; obtain ⟨kI, wF⟩ := c20_9 (w := w100) ab; obtain ⟨a7, fO⟩ := c20_10 (w := w100) ab; obtain ⟨a8, fP⟩ := c20_11 (w := w100) ab; obtain ⟨a9, fQ⟩ := c20_12 (w := w100) ab; obtain ⟨ba, fR⟩ := c20_13 (w := w100) ab; obtain ⟨bb, fS⟩ := c20_14 (w := w100) ab; obtain ⟨bc, fT⟩ := c20_15 (w := w100) ab; obtain ⟨bd, fU⟩ := c20_16 (w := w100) ab; obtain ⟨be, fV⟩ := c20_17 (w := w100) ab; obtain ⟨bf, fW⟩ := c20_18 (w := w100) ab; obtain ⟨bg, fX⟩ := c20_19 (w := w100) ab) | (go_at_call 35; (with_reducible refine (lodgerref08_Answers.calls af ag ah ai aj au av aw ax ay true _ (Lg_below HG.out (hB_ HB)) A5.out).mono ?_); rintro e w103 ⟨rfl, hb⟩; replace aa := Aside0.mk (blk_below (g := ap) (o := .cells #[.int .i64 ac, .int .u32 ad, rho_ tb_ ae, .int .i64 af, .int .u32 ag, .bool ah, rho_ tb_ ai, rho_ tb_ aj, .int .i64 an, .int .i64 ao, .int .i64 a0_10, .int .i64 a0_11, .int .i64 a0_12, .int .u64 a0_13, .bool a0_14, rho_ tb_ a0_15, .int .i64 a0_16, .int .i64 a0_17, .int .i64 a0_18, .int .i64 a0_19] 41 (0, 0)) (bk_ aa) hb); replace ab := Aside0.mk (blk_below (g := aB) (o := .cells #[.int .i64 ak, .int .u32 al, rho_ tb_ am, .int .i64 au, .int .u32 av, .bool aw, rho_ tb_ ax, rho_ tb_ ay, .int .i64 az, .int .i64 aA, .int .i64 a1_10, .int .i64 a1_11, .int .i64 a1_12, .int .u64 a1_13, .bool a1_14, rho_ tb_ a1_15, .int .i64 a1_16, .int .i64 a1_17, .int .i64 a1_18, .int .i64 a1_19] 41 (0, 0)) (bk_ ab) hb); replace HB := hS_ HB hb; (try clear hb); obtain ⟨kJ, wG⟩ := c20_0 (w := w103) aa; obtain ⟨kK, wH⟩ := c20_1 (w := w103) aa; obtain ⟨kL, wI⟩ := c20_2 (w := w103) aa; obtain ⟨kM, wJ⟩ := c20_3 (w := w103) aa; obtain ⟨kN, wK⟩ := c20_4 (w := w103) aa; obtain ⟨kO, wL⟩ := c20_5 (w := w103) aa; obtain ⟨kP, wM⟩ := c20_6 (w := w103) aa; obtain ⟨kQ, wN⟩ := c20_7 (w := w103) aa; obtain ⟨kR, wO⟩ := c20_8 (w := w103) aa; obtain ⟨kS, wP⟩ := c20_9 (w := w103) aa; obtain ⟨bh, fY⟩ := c20_10 (w := w103) aa; obtain ⟨bi, fZ⟩ := c20_11 (w := w103) aa; obtain ⟨bj, f0⟩ := c20_12 (w := w103) aa; obtain ⟨bk, f1⟩ := c20_13 (w := w103) aa; obtain ⟨bl, f2⟩ := c20_14 (w := w103) aa; obtain ⟨bm, f3⟩ := c20_15 (w := w103) aa; obtain ⟨bn, f4⟩ := c20_16 (w := w103) aa; obtain ⟨bo, f5⟩ := c20_17 (w := w103) aa; obtain ⟨bp, f6⟩ := c20_18 (w := w103) aa; obtain ⟨bq, f7⟩ := c20_19 (w := w103) aa; obtain ⟨kT, wQ⟩ := c20_0 (w := w103) ab; obtain ⟨kU, wR⟩ := c20_1 (w := w103) ab; obtain ⟨kV, wS⟩ := c20_2 (w := w103) ab; obtain ⟨kW, wT⟩ := c20_3 (w := w103) ab; obtain ⟨kX, wU⟩ := c20_4 (w := w103) ab; obtain ⟨kY, wV⟩ := c20_5 (w := w103) ab; obtain ⟨kZ, wW⟩ := c20_6 (w := w103) ab; obtain ⟨k0, wX⟩ := c20_7 (w := w103) ab; obtain ⟨k1, wY⟩ := c20_8 (w := w103) ab; obtain ⟨k2, wZ⟩ := c20_9 (w := w103) ab; obtain ⟨br, f8⟩ := c20_10 (w := w103) ab; obtain ⟨bs, f9⟩ := c20_11 (w := w103) ab; obtain ⟨bt, ga⟩ := c20_12 (w := w103) ab; obtain ⟨bu, gb⟩ := c20_13 (w := w103) ab; obtain ⟨bv, gc⟩ := c20_14 (w := w103) ab; obtain ⟨bw, gd⟩ := c20_15 (w := w103) ab; obtain ⟨bx, gf⟩ := c20_16 (w := w103) ab; obtain ⟨bz, gg⟩ := c20_17 (w := w103) ab; obtain ⟨bA, gh⟩ := c20_18 (w := w103) ab; obtain ⟨bB, gi⟩ := c20_19 (w := w103) ab))
       go_ret
       exact ⟨er_, hB_ HB⟩
     ·rw [if_neg c9] at H
      have kn : (a0_10 == a1_10) = false := beq_eq_false_iff_ne.mpr c9
      have ko : (a0_10 != a1_10) = true := bne_iff_ne.mpr c9
      obtain rfl := Option.some.inj H
      go_enter Try.func20, Try.ntmps20
      simp only [List.append]
      go_wp2_with (first | (go_at_call 19; refine (sameq_ (of_eq_true (by assumption)) (Lg_below HG.out (hB_ HB))).mono ?_; rintro e w' ⟨rfl, ⟨nd, rfl⟩⟩) | ((with_reducible refine gd_ 2 ?_); refine bx_ (N := 2) (cs := #[.int .i64 ac, .int .u32 ad, rho_ tb_ ae, .int .i64 af, .int .u32 ag, .bool ah, rho_ tb_ ai, rho_ tb_ aj, .int .i64 an, .int .i64 ao, .int .i64 a0_10, .int .i64 a0_11, .int .i64 a0_12, .int .u64 a0_13, .bool a0_14, rho_ tb_ a0_15, .int .i64 a0_16, .int .i64 a0_17, .int .i64 a0_18, .int .i64 a0_19]) (t := 41) ?_; intro ap hg w106 aa hb; have aE := gG_ hg HB; have aC := gG_ hg HB; replace HB := hS_ HB hb; clear hb hg) | ((with_reducible refine gd_ 3 ?_); refine bx_ (N := 3) (cs := #[.int .i64 ak, .int .u32 al, rho_ tb_ am, .int .i64 au, .int .u32 av, .bool aw, rho_ tb_ ax, rho_ tb_ ay, .int .i64 az, .int .i64 aA, .int .i64 a1_10, .int .i64 a1_11, .int .i64 a1_12, .int .u64 a1_13, .bool a1_14, rho_ tb_ a1_15, .int .i64 a1_16, .int .i64 a1_17, .int .i64 a1_18, .int .i64 a1_19]) (t := 41) ?_; intro aB hg w107 ab hb; have aF := gG_ hg HB; have aD := gG_ hg HB; have aq := nL_ hg aa; have ar := nG_ hg aa; replace aa := Aside0.mk (blk_below (g := ap) (o := .cells #[.int .i64 ac, .int .u32 ad, rho_ tb_ ae, .int .i64 af, .int .u32 ag, .bool ah, rho_ tb_ ai, rho_ tb_ aj, .int .i64 an, .int .i64 ao, .int .i64 a0_10, .int .i64 a0_11, .int .i64 a0_12, .int .u64 a0_13, .bool a0_14, rho_ tb_ a0_15, .int .i64 a0_16, .int .i64 a0_17, .int .i64 a0_18, .int .i64 a0_19] 41 (0, 0)) (bk_ aa) hb); replace HB := hS_ HB hb; clear hb hg; have Wj := aq.out; have Wo := ar.out; obtain ⟨k3, w0⟩ := c20_0 (w := w107) aa; obtain ⟨k4, w1⟩ := c20_1 (w := w107) aa; obtain ⟨k5, w2⟩ := c20_2 (w := w107) aa; obtain ⟨k6, w3⟩ := c20_3 (w := w107) aa; obtain ⟨k7, w4⟩ := c20_4 (w := w107) aa; obtain ⟨k8, w5⟩ := c20_5 (w := w107) aa; obtain ⟨k9, w6⟩ := c20_6 (w := w107) aa; obtain ⟨la, w7⟩ := c20_7 (w := w107) aa; obtain ⟨lb, w8⟩ := c20_8 (w := w107) aa; obtain ⟨lc, w9⟩ := c20_9 (w := w107) aa; obtain ⟨bC, gj⟩ := c20_10 (w := w107) aa; obtain ⟨bD, gk⟩ := c20_11 (w := w107) aa; obtain ⟨bE, gl⟩ := c20_12 (w := w107) aa; obtain ⟨bF, gm⟩ := c20_13 (w := w107) aa; obtain ⟨bG, gn⟩ := c20_14 (w := w107) aa; obtain ⟨bH, go⟩ := c20_15 (w := w107) aa; obtain ⟨bI, gp⟩ := c20_16 (w := w107) aa; obtain ⟨bJ, gq⟩ := c20_17 (w := w107) aa; obtain ⟨bK, gr⟩ := c20_18 (w := w107) aa; obtain ⟨bL, gs⟩ := c20_19 (w := w107) aa; obtain ⟨ld, xa⟩ := c20_0 (w := w107) ab; obtain ⟨lf, xb⟩ := c20_1 (w := w107) ab; obtain ⟨lg, xc⟩ := c20_2 (w := w107) ab; obtain ⟨lh, xd⟩ := c20_3 (w := w107) ab; obtain ⟨li, xe⟩ := c20_4 (w := w107) ab; obtain ⟨lj, xf⟩ := c20_5 (w := w107) ab; obtain ⟨lk, xg⟩ := c20_6 (w := w107) ab; obtain ⟨ll, xh⟩ := c20_7 (w := w107) ab; obtain ⟨lm, xi⟩ := c20_8 (w := w107) ab; obtain ⟨ln, xj⟩ := c20_9 (w := w107) ab; obtain ⟨bM, gt⟩ := c20_10 (w := w107) ab; obtain ⟨bN, gu⟩ := c20_11 (w := w107) ab; obtain ⟨bO, gv⟩ := c20_12 (w := w107) ab; obtain ⟨bP, gw⟩ := c20_13 (w := w107) ab; obtain ⟨bQ, gx⟩ := c20_14 (w := w107) ab; obtain ⟨bR, gy⟩ := c20_15 (w := w107) ab; obtain ⟨bS, gz⟩ := c20_16 (w := w107) ab; obtain ⟨bT, gA⟩ := c20_17 (w := w107) ab; obtain ⟨bU, gB⟩ := c20_18 (w := w107) ab; obtain ⟨bV, gC⟩ := c20_19 (w := w107) ab) | ((with_reducible refine gate_callee (f := 34) rfl ?_); refine goesL_ (some 9) rfl rfl Try.func34 (by kernel_rfl) rfl #[.agg #[.int .i64 ac, .int .u32 ad, rho_ tb_ ae], .agg #[.int .i64 ak, .int .u32 al, rho_ tb_ am]] rfl am_ ?_; (with_reducible refine (lodgerref08_Asks.calls ac ad ae ak al am true _ ?side1 A3.out).mono ?_); (case side1 => exact Lg_below HG.out (hB_ HB)); rintro e w111 ⟨rfl, hb⟩; refine ⟨_, rfl, ?_⟩; replace aa := Aside0.mk (blk_below (g := ap) (o := .cells #[.int .i64 ac, .int .u32 ad, rho_ tb_ ae, .int .i64 af, .int .u32 ag, .bool ah, rho_ tb_ ai, rho_ tb_ aj, .int .i64 an, .int .i64 ao, .int .i64 a0_10, .int .i64 a0_11, .int .i64 a0_12, .int .u64 a0_13, .bool a0_14, rho_ tb_ a0_15, .int .i64 a0_16, .int .i64 a0_17, .int .i64 a0_18, .int .i64 a0_19] 41 (0, 0)) (bk_ aa) hb); replace ab := Aside0.mk (blk_below (g := aB) (o := .cells #[.int .i64 ak, .int .u32 al, rho_ tb_ am, .int .i64 au, .int .u32 av, .bool aw, rho_ tb_ ax, rho_ tb_ ay, .int .i64 az, .int .i64 aA, .int .i64 a1_10, .int .i64 a1_11, .int .i64 a1_12, .int .u64 a1_13, .bool a1_14, rho_ tb_ a1_15, .int .i64 a1_16, .int .i64 a1_17, .int .i64 a1_18, .int .i64 a1_19] 41 (0, 0)) (bk_ ab) hb); replace HB := hS_ HB hb; (try clear hb); obtain ⟨lo, xk⟩ := c20_0 (w := w111) aa; obtain ⟨lp, xl⟩ := c20_1 (w := w111) aa; obtain ⟨lq, xm⟩ := c20_2 (w := w111) aa; obtain ⟨lr, xn⟩ := c20_3 (w := w111) aa; obtain ⟨ls, xo⟩ := c20_4 (w := w111) aa; obtain ⟨lu, xp⟩ := c20_5 (w := w111) aa; obtain ⟨lv, xq⟩ := c20_6 (w := w111) aa; obtain ⟨lw, xr⟩ := c20_7 (w := w111) aa; obtain ⟨lx, xs⟩ := c20_8 (w := w111) aa; obtain ⟨ly, xt⟩ := c20_9 (w := w111) aa; obtain ⟨bW, gD⟩ := c20_10 (w := w111) aa; obtain ⟨bX, gE⟩ := c20_11 (w := w111) aa; obtain ⟨bY, gF⟩ := c20_12 (w := w111) aa; obtain ⟨bZ, gG⟩ := c20_13 (w := w111) aa; obtain ⟨b0, gH⟩ := c20_14 (w := w111) aa; obtain ⟨b1, gI⟩ := c20_15 (w := w111) aa; obtain ⟨b2, gJ⟩ := c20_16 (w := w111) aa; obtain ⟨b3, gK⟩ := c20_17 (w := w111) aa; obtain ⟨b4, gL⟩ := c20_18 (w := w111) aa; obtain ⟨b5, gM⟩ := c20_19 (w := w111) aa; obtain ⟨lz, xu⟩ := c20_0 (w := w111) ab; obtain ⟨lA, xv⟩ := c20_1 (w := w111) ab; obtain ⟨lB, xw⟩ := c20_2 (w := w111) ab; obtain ⟨lC, xx⟩ := c20_3 (w := w111) ab; obtain ⟨lD, xy⟩ := c20_4 (w := w111) ab; obtain ⟨lE, xz⟩ := c20_5 (w := w111) ab; obtain ⟨lF, xA⟩ := c20_6 (w := w111) ab; obtain ⟨lG, xB⟩ := c20_7 (w := w111) ab; obtain ⟨lH, xC⟩ := c20_8 (w := w111) ab; obtain ⟨lI, xD⟩ := c20_9 (w := w111) ab; obtain ⟨b6, gN⟩ := c20_10 (w := w111) ab; obtain ⟨b7, gO⟩ := c20_11 (w := w111) ab; obtain ⟨b8, gP⟩ := c20_12 (w := w111) ab; obtain ⟨b9, gQ⟩ := c20_13 (w := w111) ab; obtain ⟨ca, gR⟩ := c20_14 (w := w111) ab; obtain ⟨cb, gS⟩ := c20_15 (w := w111) ab; obtain ⟨cc, gT⟩ := c20_16 (w := w111) ab; obtain ⟨cd, gU⟩ := c20_17 (w := w111) ab; obtain ⟨ce, gV⟩ := c20_18 (w := w111) ab; obtain ⟨cf, gW⟩ := c20_19 (w := w111) ab) | (go_at_call 35; (with_reducible refine (lodgerref08_Answers.calls af ag ah ai aj au av aw ax ay true _ (Lg_below HG.out (hB_ HB)) A5.out).mono ?_); rintro e w114 ⟨rfl, hb⟩; replace aa := Aside0.mk (blk_below (g := ap) (o := .cells #[.int .i64 ac, .int .u32 ad, rho_ tb_ ae, .int .i64 af, .int .u32 ag, .bool ah, rho_ tb_ ai, rho_ tb_ aj, .int .i64 an, .int .i64 ao, .int .i64 a0_10, .int .i64 a0_11, .int .i64 a0_12, .int .u64 a0_13, .bool a0_14, rho_ tb_ a0_15, .int .i64 a0_16, .int .i64 a0_17, .int .i64 a0_18, .int .i64 a0_19] 41 (0, 0)) (bk_ aa) hb); replace ab := Aside0.mk (blk_below (g := aB) (o := .cells #[.int .i64 ak, .int .u32 al, rho_ tb_ am, .int .i64 au, .int .u32 av, .bool aw, rho_ tb_ ax, rho_ tb_ ay, .int .i64 az, .int .i64 aA, .int .i64 a1_10, .int .i64 a1_11, .int .i64 a1_12, .int .u64 a1_13, .bool a1_14, rho_ tb_ a1_15, .int .i64 a1_16, .int .i64 a1_17, .int .i64 a1_18, .int .i64 a1_19] 41 (0, 0)) (bk_ ab) hb); replace HB := hS_ HB hb; (try clear hb); obtain ⟨lJ, xE⟩ := c20_0 (w := w114) aa; obtain ⟨lK, xF⟩ := c20_1 (w := w114) aa; obtain ⟨lL, xG⟩ := c20_2 (w := w114) aa; obtain ⟨lM, xH⟩ := c20_3 (w := w114) aa; obtain ⟨lN, xI⟩ := c20_4 (w := w114) aa; obtain ⟨lO, xJ⟩ := c20_5 (w := w114) aa; obtain ⟨lP, xK⟩ := c20_6 (w := w114) aa; obtain ⟨lQ, xL⟩ := c20_7 (w := w114) aa; obtain ⟨lR, xM⟩ := c20_8 (w := w114) aa; obtain ⟨lS, xN⟩ := c20_9 (w := w114) aa; obtain ⟨cg, gX⟩ := c20_10 (w := w114) aa; obtain ⟨ch, gY⟩ := c20_11 (w := w114) aa; obtain ⟨ci, gZ⟩ := c20_12 (w := w114) aa; obtain ⟨cj, g0⟩ := c20_13 (w := w114) aa; obtain ⟨ck, g1⟩ := c20_14 (w := w114) aa; obtain ⟨cl, g2⟩ := c20_15 (w := w114) aa; obtain ⟨cm, g3⟩ := c20_16 (w := w114) aa; obtain ⟨cn, g4⟩ := c20_17 (w := w114) aa; obtain ⟨co, g5⟩ := c20_18 (w := w114) aa; obtain ⟨cp, g6⟩ := c20_19 (w := w114) aa; obtain ⟨lT, xO⟩ := c20_0 (w := w114) ab; obtain ⟨lU, xP⟩ := c20_1 (w := w114) ab; obtain ⟨lV, xQ⟩ := c20_2 (w := w114) ab; obtain ⟨lW, xR⟩ := c20_3 (w := w114) ab; obtain ⟨lX, xS⟩ := c20_4 (w := w114) ab; obtain ⟨lY, xT⟩ := c20_5 (w := w114) ab; obtain ⟨lZ, xU⟩ := c20_6 (w := w114) ab; obtain ⟨l0, xV⟩ := c20_7 (w := w114) ab; obtain ⟨l1, xW⟩ := c20_8 (w := w114) ab; obtain ⟨l2, xX⟩ := c20_9 (w := w114) ab; obtain ⟨cq, g7⟩ := c20_10 (w := w114) ab; obtain ⟨cr, g8⟩ := c20_11 (w := w114) ab; obtain ⟨ct, g9⟩ := c20_12 (w := w114) ab; obtain ⟨cu, ha⟩ := c20_13 (w := w114) ab; obtain ⟨cv, hc⟩ := c20_14 (w := w114) ab; obtain ⟨cw, hd⟩ := c20_15 (w := w114) ab; obtain ⟨cx, he⟩ := c20_16 (w := w114) ab; obtain ⟨cy, hf⟩ := c20_17 (w := w114) ab; obtain ⟨cz, hh⟩ := c20_18 (w := w114) ab; obtain ⟨cA, hi⟩ := c20_19 (w := w114) ab))
      go_ret
      exact ⟨er_, hB_ HB⟩
    ·rw [if_neg c8] at H
     have kl : (ao == aA) = false := beq_eq_false_iff_ne.mpr c8
     have km : (ao != aA) = true := bne_iff_ne.mpr c8
     obtain rfl := Option.some.inj H
     go_enter Try.func20, Try.ntmps20
     simp only [List.append]
     go_wp2_with (first | (go_at_call 19; refine (sameq_ (of_eq_true (by assumption)) (Lg_below HG.out (hB_ HB))).mono ?_; rintro e w' ⟨rfl, ⟨nd, rfl⟩⟩) | ((with_reducible refine gd_ 2 ?_); refine bx_ (N := 2) (cs := #[.int .i64 ac, .int .u32 ad, rho_ tb_ ae, .int .i64 af, .int .u32 ag, .bool ah, rho_ tb_ ai, rho_ tb_ aj, .int .i64 an, .int .i64 ao, .int .i64 a0_10, .int .i64 a0_11, .int .i64 a0_12, .int .u64 a0_13, .bool a0_14, rho_ tb_ a0_15, .int .i64 a0_16, .int .i64 a0_17, .int .i64 a0_18, .int .i64 a0_19]) (t := 41) ?_; intro ap hg w117 aa hb; have aE := gG_ hg HB; have aC := gG_ hg HB; replace HB := hS_ HB hb; clear hb hg) | ((with_reducible refine gd_ 3 ?_); refine bx_ (N := 3) (cs := #[.int .i64 ak, .int .u32 al, rho_ tb_ am, .int .i64 au, .int .u32 av, .bool aw, rho_ tb_ ax, rho_ tb_ ay, .int .i64 az, .int .i64 aA, .int .i64 a1_10, .int .i64 a1_11, .int .i64 a1_12, .int .u64 a1_13, .bool a1_14, rho_ tb_ a1_15, .int .i64 a1_16, .int .i64 a1_17, .int .i64 a1_18, .int .i64 a1_19]) (t := 41) ?_; intro aB hg w118 ab hb; have aF := gG_ hg HB; have aD := gG_ hg HB; have aq := nL_ hg aa; have ar := nG_ hg aa; replace aa := Aside0.mk (blk_below (g := ap) (o := .cells #[.int .i64 ac, .int .u32 ad, rho_ tb_ ae, .int .i64 af, .int .u32 ag, .bool ah, rho_ tb_ ai, rho_ tb_ aj, .int .i64 an, .int .i64 ao, .int .i64 a0_10, .int .i64 a0_11, .int .i64 a0_12, .int .u64 a0_13, .bool a0_14, rho_ tb_ a0_15, .int .i64 a0_16, .int .i64 a0_17, .int .i64 a0_18, .int .i64 a0_19] 41 (0, 0)) (bk_ aa) hb); replace HB := hS_ HB hb; clear hb hg; have Wk := aq.out; have Wp := ar.out; obtain ⟨l3, xY⟩ := c20_0 (w := w118) aa; obtain ⟨l4, xZ⟩ := c20_1 (w := w118) aa; obtain ⟨l5, x0⟩ := c20_2 (w := w118) aa; obtain ⟨l6, x1⟩ := c20_3 (w := w118) aa; obtain ⟨l7, x2⟩ := c20_4 (w := w118) aa; obtain ⟨l8, x3⟩ := c20_5 (w := w118) aa; obtain ⟨l9, x4⟩ := c20_6 (w := w118) aa; obtain ⟨ma, x5⟩ := c20_7 (w := w118) aa; obtain ⟨mb, x6⟩ := c20_8 (w := w118) aa; obtain ⟨mc, x7⟩ := c20_9 (w := w118) aa; obtain ⟨cB, hj⟩ := c20_10 (w := w118) aa; obtain ⟨cC, hk⟩ := c20_11 (w := w118) aa; obtain ⟨cD, hl⟩ := c20_12 (w := w118) aa; obtain ⟨cE, hm⟩ := c20_13 (w := w118) aa; obtain ⟨cF, hn⟩ := c20_14 (w := w118) aa; obtain ⟨cG, ho⟩ := c20_15 (w := w118) aa; obtain ⟨cH, hp⟩ := c20_16 (w := w118) aa; obtain ⟨cI, hq⟩ := c20_17 (w := w118) aa; obtain ⟨cJ, hr⟩ := c20_18 (w := w118) aa; obtain ⟨cK, hs⟩ := c20_19 (w := w118) aa; obtain ⟨me, x8⟩ := c20_0 (w := w118) ab; obtain ⟨mf, x9⟩ := c20_1 (w := w118) ab; obtain ⟨mg, ya⟩ := c20_2 (w := w118) ab; obtain ⟨mh, yb⟩ := c20_3 (w := w118) ab; obtain ⟨mi, yc⟩ := c20_4 (w := w118) ab; obtain ⟨mj, yd⟩ := c20_5 (w := w118) ab; obtain ⟨ml, ye⟩ := c20_6 (w := w118) ab; obtain ⟨mm, yf⟩ := c20_7 (w := w118) ab; obtain ⟨mo, yg⟩ := c20_8 (w := w118) ab; obtain ⟨mp, yh⟩ := c20_9 (w := w118) ab; obtain ⟨cL, ht⟩ := c20_10 (w := w118) ab; obtain ⟨cM, hu⟩ := c20_11 (w := w118) ab; obtain ⟨cN, hv⟩ := c20_12 (w := w118) ab; obtain ⟨cO, hw⟩ := c20_13 (w := w118) ab; obtain ⟨cP, hx⟩ := c20_14 (w := w118) ab; obtain ⟨cQ, hy⟩ := c20_15 (w := w118) ab; obtain ⟨cR, hz⟩ := c20_16 (w := w118) ab; obtain ⟨cS, hA⟩ := c20_17 (w := w118) ab; obtain ⟨cT, hB⟩ := c20_18 (w := w118) ab; obtain ⟨cU, hC⟩ := c20_19 (w := w118) ab) | ((with_reducible refine gate_callee (f := 34) rfl ?_); refine goesL_ (some 9) rfl rfl Try.func34 (by kernel_rfl) rfl #[.agg #[.int .i64 ac, .int .u32 ad, rho_ tb_ ae], .agg #[.int .i64 ak, .int .u32 al, rho_ tb_ am]] rfl am_ ?_; (with_reducible refine (lodgerref08_Asks.calls ac ad ae ak al am true _ ?side1 A3.out).mono ?_); (case side1 => exact Lg_below HG.out (hB_ HB)); rintro e w122 ⟨rfl, hb⟩; refine ⟨_, rfl, ?_⟩; replace aa := Aside0.mk (blk_below (g := ap) (o := .cells #[.int .i64 ac, .int .u32 ad, rho_ tb_ ae, .int .i64 af, .int .u32 ag, .bool ah, rho_ tb_ ai, rho_ tb_ aj, .int .i64 an, .int .i64 ao, .int .i64 a0_10, .int .i64 a0_11, .int .i64 a0_12, .int .u64 a0_13, .bool a0_14, rho_ tb_ a0_15, .int .i64 a0_16, .int .i64 a0_17, .int .i64 a0_18, .int .i64 a0_19] 41 (0, 0)) (bk_ aa) hb); replace ab := Aside0.mk (blk_below (g := aB) (o := .cells #[.int .i64 ak, .int .u32 al, rho_ tb_ am, .int .i64 au, .int .u32 av, .bool aw, rho_ tb_ ax, rho_ tb_ ay, .int .i64 az, .int .i64 aA, .int .i64 a1_10, .int .i64 a1_11, .int .i64 a1_12, .int .u64 a1_13, .bool a1_14, rho_ tb_ a1_15, .int .i64 a1_16, .int .i64 a1_17, .int .i64 a1_18, .int .i64 a1_19] 41 (0, 0)) (bk_ ab) hb); replace HB := hS_ HB hb; (try clear hb); obtain ⟨mq, yi⟩ := c20_0 (w := w122) aa; obtain ⟨mr, yj⟩ := c20_1 (w := w122) aa; obtain ⟨ms, yk⟩ := c20_2 (w := w122) aa; obtain ⟨mt, yl⟩ := c20_3 (w := w122) aa; obtain ⟨mu, ym⟩ := c20_4 (w := w122) aa; obtain ⟨mv, yn⟩ := c20_5 (w := w122) aa; obtain ⟨mw, yo⟩ := c20_6 (w := w122) aa; obtain ⟨my, yp⟩ := c20_7 (w := w122) aa; obtain ⟨mz, yq⟩ := c20_8 (w := w122) aa; obtain ⟨mA, yr⟩ := c20_9 (w := w122) aa; obtain ⟨cV, hD⟩ := c20_10 (w := w122) aa; obtain ⟨cW, hE⟩ := c20_11 (w := w122) aa; obtain ⟨cX, hF⟩ := c20_12 (w := w122) aa; obtain ⟨cY, hH⟩ := c20_13 (w := w122) aa; obtain ⟨cZ, hI⟩ := c20_14 (w := w122) aa; obtain ⟨c0, hJ⟩ := c20_15 (w := w122) aa; obtain ⟨c1, hK⟩ := c20_16 (w := w122) aa; obtain ⟨c2, hL⟩ := c20_17 (w := w122) aa; obtain ⟨c3, hM⟩ := c20_18 (w := w122) aa; obtain ⟨c5, hN⟩ := c20_19 (w := w122) aa; obtain ⟨mB, ys⟩ := c20_0 (w := w122) ab; obtain ⟨mC, yt⟩ := c20_1 (w := w122) ab; obtain ⟨mD, yu⟩ := c20_2 (w := w122) ab; obtain ⟨mE, yv⟩ := c20_3 (w := w122) ab; obtain ⟨mF, yw⟩ := c20_4 (w := w122) ab; obtain ⟨mG, yx⟩ := c20_5 (w := w122) ab; obtain ⟨mH, yy⟩ := c20_6 (w := w122) ab; obtain ⟨mI, yz⟩ := c20_7 (w := w122) ab; obtain ⟨mJ, yA⟩ := c20_8 (w := w122) ab; obtain ⟨mK, yB⟩ := c20_9 (w := w122) ab; obtain ⟨da, hO⟩ := c20_10 (w := w122) ab; obtain ⟨db, hP⟩ := c20_11 (w := w122) ab; obtain ⟨dc, hQ⟩ := c20_12 (w := w122) ab; obtain ⟨dd, hR⟩ := c20_13 (w := w122) ab; obtain ⟨de, hS⟩ := c20_14 (w := w122) ab; obtain ⟨df, hT⟩ := c20_15 (w := w122) ab; obtain ⟨dg, hU⟩ := c20_16 (w := w122) ab; obtain ⟨dh, hV⟩ := c20_17 (w := w122) ab; obtain ⟨di, hW⟩ := c20_18 (w := w122) ab; obtain ⟨dj, hX⟩ := c20_19 (w := w122) ab) | (go_at_call 35; (with_reducible refine (lodgerref08_Answers.calls af ag ah ai aj au av aw ax ay true _ (Lg_below HG.out (hB_ HB)) A5.out).mono ?_); rintro e w125 ⟨rfl, hb⟩; replace aa := Aside0.mk (blk_below (g := ap) (o := .cells #[.int .i64 ac, .int .u32 ad, rho_ tb_ ae, .int .i64 af, .int .u32 ag, .bool ah, rho_ tb_ ai, rho_ tb_ aj, .int .i64 an, .int .i64 ao, .int .i64 a0_10, .int .i64 a0_11, .int .i64 a0_12, .int .u64 a0_13, .bool a0_14, rho_ tb_ a0_15, .int .i64 a0_16, .int .i64 a0_17, .int .i64 a0_18, .int .i64 a0_19] 41 (0, 0)) (bk_ aa) hb); replace ab := Aside0.mk (blk_below (g := aB) (o := .cells #[.int .i64 ak, .int .u32 al, rho_ tb_ am, .int .i64 au, .int .u32 av, .bool aw, rho_ tb_ ax, rho_ tb_ ay, .int .i64 az, .int .i64 aA, .int .i64 a1_10, .int .i64 a1_11, .int .i64 a1_12, .int .u64 a1_13, .bool a1_14, rho_ tb_ a1_15, .int .i64 a1_16, .int .i64 a1_17, .int .i64 a1_18, .int .i64 a1_19] 41 (0, 0)) (bk_ ab) hb); replace HB := hS_ HB hb; (try clear hb); obtain ⟨mL, yC⟩ := c20_0 (w := w125) aa; obtain ⟨mM, yD⟩ := c20_1 (w := w125) aa; obtain ⟨mN, yE⟩ := c20_2 (w := w125) aa; obtain ⟨mO, yF⟩ := c20_3 (w := w125) aa; obtain ⟨mP, yG⟩ := c20_4 (w := w125) aa; obtain ⟨mQ, yH⟩ := c20_5 (w := w125) aa; obtain ⟨mR, yI⟩ := c20_6 (w := w125) aa; obtain ⟨mS, yJ⟩ := c20_7 (w := w125) aa; obtain ⟨mT, yK⟩ := c20_8 (w := w125) aa; obtain ⟨mU, yL⟩ := c20_9 (w := w125) aa; obtain ⟨dk, hY⟩ := c20_10 (w := w125) aa; obtain ⟨dl, hZ⟩ := c20_11 (w := w125) aa; obtain ⟨dm, h0⟩ := c20_12 (w := w125) aa; obtain ⟨dn, h1⟩ := c20_13 (w := w125) aa; obtain ⟨dp, h2⟩ := c20_14 (w := w125) aa; obtain ⟨dq, h3⟩ := c20_15 (w := w125) aa; obtain ⟨dr, h4⟩ := c20_16 (w := w125) aa; obtain ⟨dt, h5⟩ := c20_17 (w := w125) aa; obtain ⟨du, h6⟩ := c20_18 (w := w125) aa; obtain ⟨dv, h7⟩ := c20_19 (w := w125) aa; obtain ⟨mV, yM⟩ := c20_0 (w := w125) ab; obtain ⟨mW, yN⟩ := c20_1 (w := w125) ab; obtain ⟨mX, yO⟩ := c20_2 (w := w125) ab; obtain ⟨mY, yP⟩ := c20_3 (w := w125) ab; obtain ⟨mZ, yQ⟩ := c20_4 (w := w125) ab; obtain ⟨m0, yR⟩ := c20_5 (w := w125) ab; obtain ⟨m1, yS⟩ := c20_6 (w := w125) ab; obtain ⟨m2, yT⟩ := c20_7 (w := w125) ab; obtain ⟨m3, yU⟩ := c20_8 (w := w125) ab; obtain ⟨m4, yV⟩ := c20_9 (w := w125) ab; obtain ⟨dw, h8⟩ := c20_10 (w := w125) ab; obtain ⟨dx, h9⟩ := c20_11 (w := w125) ab; obtain ⟨dy, ia⟩ := c20_12 (w := w125) ab; obtain ⟨dz, ib⟩ := c20_13 (w := w125) ab; obtain ⟨dA, ic⟩ := c20_14 (w := w125) ab; obtain ⟨dB, ie⟩ := c20_15 (w := w125) ab; obtain ⟨dC, ig⟩ := c20_16 (w := w125) ab; obtain ⟨dD, ii⟩ := c20_17 (w := w125) ab; obtain ⟨dE, ij⟩ := c20_18 (w := w125) ab; obtain ⟨dF, ik⟩ := c20_19 (w := w125) ab))
     go_ret
     exact ⟨er_, hB_ HB⟩
   ·rw [if_neg c7] at H
    have kj : (an == az) = false := beq_eq_false_iff_ne.mpr c7
    have kk : (an != az) = true := bne_iff_ne.mpr c7
    obtain rfl := Option.some.inj H
    go_enter Try.func20, Try.ntmps20
    simp only [List.append]
    go_wp2_with (first | (go_at_call 19; refine (sameq_ (of_eq_true (by assumption)) (Lg_below HG.out (hB_ HB))).mono ?_; rintro e w' ⟨rfl, ⟨nd, rfl⟩⟩) | ((with_reducible refine gd_ 2 ?_); refine bx_ (N := 2) (cs := #[.int .i64 ac, .int .u32 ad, rho_ tb_ ae, .int .i64 af, .int .u32 ag, .bool ah, rho_ tb_ ai, rho_ tb_ aj, .int .i64 an, .int .i64 ao, .int .i64 a0_10, .int .i64 a0_11, .int .i64 a0_12, .int .u64 a0_13, .bool a0_14, rho_ tb_ a0_15, .int .i64 a0_16, .int .i64 a0_17, .int .i64 a0_18, .int .i64 a0_19]) (t := 41) ?_; intro ap hg w128 aa hb; have aE := gG_ hg HB; have aC := gG_ hg HB; replace HB := hS_ HB hb; clear hb hg) | ((with_reducible refine gd_ 3 ?_); refine bx_ (N := 3) (cs := #[.int .i64 ak, .int .u32 al, rho_ tb_ am, .int .i64 au, .int .u32 av, .bool aw, rho_ tb_ ax, rho_ tb_ ay, .int .i64 az, .int .i64 aA, .int .i64 a1_10, .int .i64 a1_11, .int .i64 a1_12, .int .u64 a1_13, .bool a1_14, rho_ tb_ a1_15, .int .i64 a1_16, .int .i64 a1_17, .int .i64 a1_18, .int .i64 a1_19]) (t := 41) ?_; intro aB hg w129 ab hb; have aF := gG_ hg HB; have aD := gG_ hg HB; have aq := nL_ hg aa; have ar := nG_ hg aa; replace aa := Aside0.mk (blk_below (g := ap) (o := .cells #[.int .i64 ac, .int .u32 ad, rho_ tb_ ae, .int .i64 af, .int .u32 ag, .bool ah, rho_ tb_ ai, rho_ tb_ aj, .int .i64 an, .int .i64 ao, .int .i64 a0_10, .int .i64 a0_11, .int .i64 a0_12, .int .u64 a0_13, .bool a0_14, rho_ tb_ a0_15, .int .i64 a0_16, .int .i64 a0_17, .int .i64 a0_18, .int .i64 a0_19] 41 (0, 0)) (bk_ aa) hb); replace HB := hS_ HB hb; clear hb hg; have Wl := aq.out; have Wq := ar.out; obtain ⟨m5, yW⟩ := c20_0 (w := w129) aa; obtain ⟨m6, yX⟩ := c20_1 (w := w129) aa; obtain ⟨m7, yY⟩ := c20_2 (w := w129) aa; obtain ⟨m8, yZ⟩ := c20_3 (w := w129) aa; obtain ⟨m9, y0⟩ := c20_4 (w := w129) aa; obtain ⟨na, y1⟩ := c20_5 (w := w129) aa; obtain ⟨nb, y2⟩ := c20_6 (w := w129) aa; obtain ⟨nc, y3⟩ := c20_7 (w := w129) aa; obtain ⟨nd, y4⟩ := c20_8 (w := w129) aa; obtain ⟨nf, y5⟩ := c20_9 (w := w129) aa; obtain ⟨dG, il⟩ := c20_10 (w := w129) aa; obtain ⟨dH, im⟩ := c20_11 (w := w129) aa; obtain ⟨dI, io⟩ := c20_12 (w := w129) aa; obtain ⟨dJ, ip⟩ := c20_13 (w := w129) aa; obtain ⟨dK, iq⟩ := c20_14 (w := w129) aa; obtain ⟨dL, ir⟩ := c20_15 (w := w129) aa; obtain ⟨dM, it⟩ := c20_16 (w := w129) aa; obtain ⟨dN, iu⟩ := c20_17 (w := w129) aa; obtain ⟨dO, iv⟩ := c20_18 (w := w129) aa; obtain ⟨dP, iw⟩ := c20_19 (w := w129) aa; obtain ⟨ng, y6⟩ := c20_0 (w := w129) ab; obtain ⟨nh, y7⟩ := c20_1 (w := w129) ab; obtain ⟨ni, y8⟩ := c20_2 (w := w129) ab; obtain ⟨nj, y9⟩ := c20_3 (w := w129) ab; obtain ⟨nk, za⟩ := c20_4 (w := w129) ab; obtain ⟨nl, zb⟩ := c20_5 (w := w129) ab; obtain ⟨nm, zc⟩ := c20_6 (w := w129) ab; obtain ⟨nn, zd⟩ := c20_7 (w := w129) ab; obtain ⟨no, ze⟩ := c20_8 (w := w129) ab; obtain ⟨np, zf⟩ := c20_9 (w := w129) ab; obtain ⟨dQ, ix⟩ := c20_10 (w := w129) ab; obtain ⟨dR, iy⟩ := c20_11 (w := w129) ab; obtain ⟨dS, iz⟩ := c20_12 (w := w129) ab; obtain ⟨dT, iA⟩ := c20_13 (w := w129) ab; obtain ⟨dU, iB⟩ := c20_14 (w := w129) ab; obtain ⟨dV, iC⟩ := c20_15 (w := w129) ab; obtain ⟨dW, iD⟩ := c20_16 (w := w129) ab; obtain ⟨dX, iE⟩ := c20_17 (w := w129) ab; obtain ⟨dY, iF⟩ := c20_18 (w := w129) ab; obtain ⟨dZ, iG⟩ := c20_19 (w := w129) ab) | ((with_reducible refine gate_callee (f := 34) rfl ?_); refine goesL_ (some 9) rfl rfl Try.func34 (by kernel_rfl) rfl #[.agg #[.int .i64 ac, .int .u32 ad, rho_ tb_ ae], .agg #[.int .i64 ak, .int .u32 al, rho_ tb_ am]] rfl am_ ?_; (with_reducible refine (lodgerref08_Asks.calls ac ad ae ak al am true _ ?side1 A3.out).mono ?_); (case side1 => exact Lg_below HG.out (hB_ HB)); rintro e w133 ⟨rfl, hb⟩; refine ⟨_, rfl, ?_⟩; replace aa := Aside0.mk (blk_below (g := ap) (o := .cells #[.int .i64 ac, .int .u32 ad, rho_ tb_ ae, .int .i64 af, .int .u32 ag, .bool ah, rho_ tb_ ai, rho_ tb_ aj, .int .i64 an, .int .i64 ao, .int .i64 a0_10, .int .i64 a0_11, .int .i64 a0_12, .int .u64 a0_13, .bool a0_14, rho_ tb_ a0_15, .int .i64 a0_16, .int .i64 a0_17, .int .i64 a0_18, .int .i64 a0_19] 41 (0, 0)) (bk_ aa) hb); replace ab := Aside0.mk (blk_below (g := aB) (o := .cells #[.int .i64 ak, .int .u32 al, rho_ tb_ am, .int .i64 au, .int .u32 av, .bool aw, rho_ tb_ ax, rho_ tb_ ay, .int .i64 az, .int .i64 aA, .int .i64 a1_10, .int .i64 a1_11, .int .i64 a1_12, .int .u64 a1_13, .bool a1_14, rho_ tb_ a1_15, .int .i64 a1_16, .int .i64 a1_17, .int .i64 a1_18, .int .i64 a1_19] 41 (0, 0)) (bk_ ab) hb); replace HB := hS_ HB hb; (try clear hb); obtain ⟨nq, zg⟩ := c20_0 (w := w133) aa; obtain ⟨nr, zh⟩ := c20_1 (w := w133) aa; obtain ⟨ns, zi⟩ := c20_2 (w := w133) aa; obtain ⟨nt, zj⟩ := c20_3 (w := w133) aa; obtain ⟨nu, zk⟩ := c20_4 (w := w133) aa; obtain ⟨nv, zl⟩ := c20_5 (w := w133) aa; obtain ⟨nw, zm⟩ := c20_6 (w := w133) aa; obtain ⟨nx, zn⟩ := c20_7 (w := w133) aa; obtain ⟨ny, zo⟩ := c20_8 (w := w133) aa; obtain ⟨nz, zp⟩ := c20_9 (w := w133) aa; obtain ⟨d0, iH⟩ := c20_10 (w := w133) aa; obtain ⟨d1, iI⟩ := c20_11 (w := w133) aa; obtain ⟨d2, iJ⟩ := c20_12 (w := w133) aa; obtain ⟨d3, iK⟩ := c20_13 (w := w133) aa; obtain ⟨d4, iL⟩ := c20_14 (w := w133) aa; obtain ⟨d5, iM⟩ := c20_15 (w := w133) aa; obtain ⟨d6, iN⟩ := c20_16 (w := w133) aa; obtain ⟨d7, iO⟩ := c20_17 (w := w133) aa; obtain ⟨d8, iP⟩ := c20_18 (w := w133) aa; obtain ⟨d9, iQ⟩ := c20_19 (w := w133) aa; obtain ⟨nA, zq⟩ := c20_0 (w := w133) ab; obtain ⟨nB, zr⟩ := c20_1 (w := w133) ab; obtain ⟨nC, zs⟩ := c20_2 (w := w133) ab; obtain ⟨nD, zt⟩ := c20_3 (w := w133) ab; obtain ⟨nE, zu⟩ := c20_4 (w := w133) ab; obtain ⟨nF, zv⟩ := c20_5 (w := w133) ab; obtain ⟨nG, zw⟩ := c20_6 (w := w133) ab; obtain ⟨nH, zx⟩ := c20_7 (w := w133) ab; obtain ⟨nI, zy⟩ := c20_8 (w := w133) ab; obtain ⟨nJ, zz⟩ := c20_9 (w := w133) ab; obtain ⟨ea, iR⟩ := c20_10 (w := w133) ab; obtain ⟨eb, iS⟩ := c20_11 (w := w133) ab; obtain ⟨ec, iT⟩ := c20_12 (w := w133) ab; obtain ⟨ed, iU⟩ := c20_13 (w := w133) ab; obtain ⟨ee, iV⟩ := c20_14 (w := w133) ab; obtain ⟨ef, iW⟩ := c20_15 (w := w133) ab; obtain ⟨eg, iX⟩ := c20_16 (w := w133) ab; obtain ⟨eh, iY⟩ := c20_17 (w := w133) ab; obtain ⟨ei, iZ⟩ := c20_18 (w := w133) ab; obtain ⟨ej, i0⟩ := c20_19 (w := w133) ab) | (go_at_call 35; (with_reducible refine (lodgerref08_Answers.calls af ag ah ai aj au av aw ax ay true _ (Lg_below HG.out (hB_ HB)) A5.out).mono ?_); rintro e w136 ⟨rfl, hb⟩; replace aa := Aside0.mk (blk_below (g := ap) (o := .cells #[.int .i64 ac, .int .u32 ad, rho_ tb_ ae, .int .i64 af, .int .u32 ag, .bool ah, rho_ tb_ ai, rho_ tb_ aj, .int .i64 an, .int .i64 ao, .int .i64 a0_10, .int .i64 a0_11, .int .i64 a0_12, .int .u64 a0_13, .bool a0_14, rho_ tb_ a0_15, .int .i64 a0_16, .int .i64 a0_17, .int .i64 a0_18, .int .i64 a0_19] 41 (0, 0)) (bk_ aa) hb); replace ab := Aside0.mk (blk_below (g := aB) (o := .cells #[.int .i64 ak, .int .u32 al, rho_ tb_ am, .int .i64 au, .int .u32 av, .bool aw, rho_ tb_ ax, rho_ tb_ ay, .int .i64 az, .int .i64 aA, .int .i64 a1_10, .int .i64 a1_11, .int .i64 a1_12, .int .u64 a1_13, .bool a1_14, rho_ tb_ a1_15, .int .i64 a1_16, .int .i64 a1_17, .int .i64 a1_18, .int .i64 a1_19] 41 (0, 0)) (bk_ ab) hb); replace HB := hS_ HB hb; (try clear hb); obtain ⟨nK, zA⟩ := c20_0 (w := w136) aa; obtain ⟨nL, zB⟩ := c20_1 (w := w136) aa; obtain ⟨nM, zC⟩ := c20_2 (w := w136) aa; obtain ⟨nN, zD⟩ := c20_3 (w := w136) aa; obtain ⟨nO, zE⟩ := c20_4 (w := w136) aa; obtain ⟨nP, zF⟩ := c20_5 (w := w136) aa; obtain ⟨nQ, zG⟩ := c20_6 (w := w136) aa; obtain ⟨nR, zH⟩ := c20_7 (w := w136) aa; obtain ⟨nS, zI⟩ := c20_8 (w := w136) aa; obtain ⟨nT, zJ⟩ := c20_9 (w := w136) aa; obtain ⟨ek, i1⟩ := c20_10 (w := w136) aa; obtain ⟨el, i2⟩ := c20_11 (w := w136) aa; obtain ⟨em, i3⟩ := c20_12 (w := w136) aa; obtain ⟨en, i4⟩ := c20_13 (w := w136) aa; obtain ⟨eo, i5⟩ := c20_14 (w := w136) aa; obtain ⟨ep, i6⟩ := c20_15 (w := w136) aa; obtain ⟨er, i7⟩ := c20_16 (w := w136) aa; obtain ⟨et, i8⟩ := c20_17 (w := w136) aa; obtain ⟨eu, i9⟩ := c20_18 (w := w136) aa; obtain ⟨ev, ja⟩ := c20_19 (w := w136) aa; obtain ⟨nU, zK⟩ := c20_0 (w := w136) ab; obtain ⟨nV, zL⟩ := c20_1 (w := w136) ab; obtain ⟨nW, zM⟩ := c20_2 (w := w136) ab; obtain ⟨nX, zN⟩ := c20_3 (w := w136) ab; obtain ⟨nY, zO⟩ := c20_4 (w := w136) ab; obtain ⟨nZ, zP⟩ := c20_5 (w := w136) ab; obtain ⟨n0, zQ⟩ := c20_6 (w := w136) ab; obtain ⟨n1, zR⟩ := c20_7 (w := w136) ab; obtain ⟨n2, zS⟩ := c20_8 (w := w136) ab; obtain ⟨n3, zT⟩ := c20_9 (w := w136) ab; obtain ⟨ew, jb⟩ := c20_10 (w := w136) ab; obtain ⟨ex, jc⟩ := c20_11 (w := w136) ab; obtain ⟨ey, jd⟩ := c20_12 (w := w136) ab; obtain ⟨ez, je⟩ := c20_13 (w := w136) ab; obtain ⟨eA, jf⟩ := c20_14 (w := w136) ab; obtain ⟨eB, jg⟩ := c20_15 (w := w136) ab; obtain ⟨eC, jh⟩ := c20_16 (w := w136) ab; obtain ⟨eD, ji⟩ := c20_17 (w := w136) ab; obtain ⟨eE, jj⟩ := c20_18 (w := w136) ab; obtain ⟨eF, jk⟩ := c20_19 (w := w136) ab))
    go_ret
    exact ⟨er_, hB_ HB⟩
  ·replace c6 := Bool.eq_false_iff.mpr c6
   subst c6
   have H1 : (some false) = some r := nf_ H
   clear H; have H := H1; clear H1
   obtain rfl := Option.some.inj H
   go_enter Try.func20, Try.ntmps20
   simp only [List.append]
   go_wp2_with (first | (go_at_call 19; refine (sameq_ (of_eq_true (by assumption)) (Lg_below HG.out (hB_ HB))).mono ?_; rintro e w' ⟨rfl, ⟨nd, rfl⟩⟩) | ((with_reducible refine gd_ 2 ?_); refine bx_ (N := 2) (cs := #[.int .i64 ac, .int .u32 ad, rho_ tb_ ae, .int .i64 af, .int .u32 ag, .bool ah, rho_ tb_ ai, rho_ tb_ aj, .int .i64 an, .int .i64 ao, .int .i64 a0_10, .int .i64 a0_11, .int .i64 a0_12, .int .u64 a0_13, .bool a0_14, rho_ tb_ a0_15, .int .i64 a0_16, .int .i64 a0_17, .int .i64 a0_18, .int .i64 a0_19]) (t := 41) ?_; intro ap hg w139 aa hb; have aE := gG_ hg HB; have aC := gG_ hg HB; replace HB := hS_ HB hb; clear hb hg) | ((with_reducible refine gd_ 3 ?_); refine bx_ (N := 3) (cs := #[.int .i64 ak, .int .u32 al, rho_ tb_ am, .int .i64 au, .int .u32 av, .bool aw, rho_ tb_ ax, rho_ tb_ ay, .int .i64 az, .int .i64 aA, .int .i64 a1_10, .int .i64 a1_11, .int .i64 a1_12, .int .u64 a1_13, .bool a1_14, rho_ tb_ a1_15, .int .i64 a1_16, .int .i64 a1_17, .int .i64 a1_18, .int .i64 a1_19]) (t := 41) ?_; intro aB hg w140 ab hb; have aF := gG_ hg HB; have aD := gG_ hg HB; have aq := nL_ hg aa; have ar := nG_ hg aa; replace aa := Aside0.mk (blk_below (g := ap) (o := .cells #[.int .i64 ac, .int .u32 ad, rho_ tb_ ae, .int .i64 af, .int .u32 ag, .bool ah, rho_ tb_ ai, rho_ tb_ aj, .int .i64 an, .int .i64 ao, .int .i64 a0_10, .int .i64 a0_11, .int .i64 a0_12, .int .u64 a0_13, .bool a0_14, rho_ tb_ a0_15, .int .i64 a0_16, .int .i64 a0_17, .int .i64 a0_18, .int .i64 a0_19] 41 (0, 0)) (bk_ aa) hb); replace HB := hS_ HB hb; clear hb hg; have Wm := aq.out; have Wr := ar.out; obtain ⟨n4, zU⟩ := c20_0 (w := w140) aa; obtain ⟨n5, zV⟩ := c20_1 (w := w140) aa; obtain ⟨n6, zW⟩ := c20_2 (w := w140) aa; obtain ⟨n7, zX⟩ := c20_3 (w := w140) aa; obtain ⟨n8, zY⟩ := c20_4 (w := w140) aa; obtain ⟨n9, zZ⟩ := c20_5 (w := w140) aa; obtain ⟨oa, z0⟩ := c20_6 (w := w140) aa; obtain ⟨ob, z1⟩ := c20_7 (w := w140) aa; obtain ⟨oc, z2⟩ := c20_8 (w := w140) aa; obtain ⟨od, z3⟩ := c20_9 (w := w140) aa; obtain ⟨eG, jl⟩ := c20_10 (w := w140) aa; obtain ⟨eH, jm⟩ := c20_11 (w := w140) aa; obtain ⟨eI, jn⟩ := c20_12 (w := w140) aa; obtain ⟨eJ, jo⟩ := c20_13 (w := w140) aa; obtain ⟨eK, jp⟩ := c20_14 (w := w140) aa; obtain ⟨eL, jq⟩ := c20_15 (w := w140) aa; obtain ⟨eM, jr⟩ := c20_16 (w := w140) aa; obtain ⟨eN, js⟩ := c20_17 (w := w140) aa; obtain ⟨eO, jt⟩ := c20_18 (w := w140) aa; obtain ⟨eP, ju⟩ := c20_19 (w := w140) aa; obtain ⟨oe, z4⟩ := c20_0 (w := w140) ab; obtain ⟨og, z5⟩ := c20_1 (w := w140) ab; obtain ⟨oh, z6⟩ := c20_2 (w := w140) ab; obtain ⟨oj, z7⟩ := c20_3 (w := w140) ab; obtain ⟨ok, z8⟩ := c20_4 (w := w140) ab; obtain ⟨ol, z9⟩ := c20_5 (w := w140) ab; obtain ⟨om, Aa⟩ := c20_6 (w := w140) ab; obtain ⟨on, Ab⟩ := c20_7 (w := w140) ab; obtain ⟨oo, Ac⟩ := c20_8 (w := w140) ab; obtain ⟨op, Ad⟩ := c20_9 (w := w140) ab; obtain ⟨eQ, jv⟩ := c20_10 (w := w140) ab; obtain ⟨eR, jw⟩ := c20_11 (w := w140) ab; obtain ⟨eS, jx⟩ := c20_12 (w := w140) ab; obtain ⟨eT, jy⟩ := c20_13 (w := w140) ab; obtain ⟨eU, jz⟩ := c20_14 (w := w140) ab; obtain ⟨eV, jA⟩ := c20_15 (w := w140) ab; obtain ⟨eW, jB⟩ := c20_16 (w := w140) ab; obtain ⟨eX, jC⟩ := c20_17 (w := w140) ab; obtain ⟨eY, jD⟩ := c20_18 (w := w140) ab; obtain ⟨eZ, jE⟩ := c20_19 (w := w140) ab) | ((with_reducible refine gate_callee (f := 34) rfl ?_); refine goesL_ (some 9) rfl rfl Try.func34 (by kernel_rfl) rfl #[.agg #[.int .i64 ac, .int .u32 ad, rho_ tb_ ae], .agg #[.int .i64 ak, .int .u32 al, rho_ tb_ am]] rfl am_ ?_; (with_reducible refine (lodgerref08_Asks.calls ac ad ae ak al am true _ ?side1 A3.out).mono ?_); (case side1 => exact Lg_below HG.out (hB_ HB)); rintro e w144 ⟨rfl, hb⟩; refine ⟨_, rfl, ?_⟩; replace aa := Aside0.mk (blk_below (g := ap) (o := .cells #[.int .i64 ac, .int .u32 ad, rho_ tb_ ae, .int .i64 af, .int .u32 ag, .bool ah, rho_ tb_ ai, rho_ tb_ aj, .int .i64 an, .int .i64 ao, .int .i64 a0_10, .int .i64 a0_11, .int .i64 a0_12, .int .u64 a0_13, .bool a0_14, rho_ tb_ a0_15, .int .i64 a0_16, .int .i64 a0_17, .int .i64 a0_18, .int .i64 a0_19] 41 (0, 0)) (bk_ aa) hb); replace ab := Aside0.mk (blk_below (g := aB) (o := .cells #[.int .i64 ak, .int .u32 al, rho_ tb_ am, .int .i64 au, .int .u32 av, .bool aw, rho_ tb_ ax, rho_ tb_ ay, .int .i64 az, .int .i64 aA, .int .i64 a1_10, .int .i64 a1_11, .int .i64 a1_12, .int .u64 a1_13, .bool a1_14, rho_ tb_ a1_15, .int .i64 a1_16, .int .i64 a1_17, .int .i64 a1_18, .int .i64 a1_19] 41 (0, 0)) (bk_ ab) hb); replace HB := hS_ HB hb; (try clear hb); obtain ⟨oq, Ae⟩ := c20_0 (w := w144) aa; obtain ⟨ot, Af⟩ := c20_1 (w := w144) aa; obtain ⟨ou, Ag⟩ := c20_2 (w := w144) aa; obtain ⟨ov, Ah⟩ := c20_3 (w := w144) aa; obtain ⟨ow, Ai⟩ := c20_4 (w := w144) aa; obtain ⟨ox, Aj⟩ := c20_5 (w := w144) aa; obtain ⟨oy, Ak⟩ := c20_6 (w := w144) aa; obtain ⟨oz, Al⟩ := c20_7 (w := w144) aa; obtain ⟨oA, Am⟩ := c20_8 (w := w144) aa; obtain ⟨oB, An⟩ := c20_9 (w := w144) aa; obtain ⟨e0, jF⟩ := c20_10 (w := w144) aa; obtain ⟨e1, jG⟩ := c20_11 (w := w144) aa; obtain ⟨e2, jH⟩ := c20_12 (w := w144) aa; obtain ⟨e3, jI⟩ := c20_13 (w := w144) aa; obtain ⟨e4, jJ⟩ := c20_14 (w := w144) aa; obtain ⟨e5, jK⟩ := c20_15 (w := w144) aa; obtain ⟨e6, jL⟩ := c20_16 (w := w144) aa; obtain ⟨e7, jM⟩ := c20_17 (w := w144) aa; obtain ⟨e8, jN⟩ := c20_18 (w := w144) aa; obtain ⟨e9, jO⟩ := c20_19 (w := w144) aa; obtain ⟨oC, Ao⟩ := c20_0 (w := w144) ab; obtain ⟨oD, Ap⟩ := c20_1 (w := w144) ab; obtain ⟨oE, Aq⟩ := c20_2 (w := w144) ab; obtain ⟨oF, Ar⟩ := c20_3 (w := w144) ab; obtain ⟨oG, As⟩ := c20_4 (w := w144) ab; obtain ⟨oH, At⟩ := c20_5 (w := w144) ab; obtain ⟨oI, Au⟩ := c20_6 (w := w144) ab; obtain ⟨oJ, Av⟩ := c20_7 (w := w144) ab; obtain ⟨oK, Aw⟩ := c20_8 (w := w144) ab; obtain ⟨oL, Ax⟩ := c20_9 (w := w144) ab; obtain ⟨fa, jP⟩ := c20_10 (w := w144) ab; obtain ⟨fb, jQ⟩ := c20_11 (w := w144) ab; obtain ⟨fc, jR⟩ := c20_12 (w := w144) ab; obtain ⟨fd, jS⟩ := c20_13 (w := w144) ab; obtain ⟨fe, jT⟩ := c20_14 (w := w144) ab; obtain ⟨ff, jU⟩ := c20_15 (w := w144) ab; obtain ⟨fg, jV⟩ := c20_16 (w := w144) ab; obtain ⟨fh, jW⟩ := c20_17 (w := w144) ab; obtain ⟨fi, jX⟩ := c20_18 (w := w144) ab; obtain ⟨fj, jY⟩ := c20_19 (w := w144) ab) | (go_at_call 35; (with_reducible refine (lodgerref08_Answers.calls af ag ah ai aj au av aw ax ay false _ (Lg_below HG.out (hB_ HB)) A5.out).mono ?_); rintro e w147 ⟨rfl, hb⟩; replace aa := Aside0.mk (blk_below (g := ap) (o := .cells #[.int .i64 ac, .int .u32 ad, rho_ tb_ ae, .int .i64 af, .int .u32 ag, .bool ah, rho_ tb_ ai, rho_ tb_ aj, .int .i64 an, .int .i64 ao, .int .i64 a0_10, .int .i64 a0_11, .int .i64 a0_12, .int .u64 a0_13, .bool a0_14, rho_ tb_ a0_15, .int .i64 a0_16, .int .i64 a0_17, .int .i64 a0_18, .int .i64 a0_19] 41 (0, 0)) (bk_ aa) hb); replace ab := Aside0.mk (blk_below (g := aB) (o := .cells #[.int .i64 ak, .int .u32 al, rho_ tb_ am, .int .i64 au, .int .u32 av, .bool aw, rho_ tb_ ax, rho_ tb_ ay, .int .i64 az, .int .i64 aA, .int .i64 a1_10, .int .i64 a1_11, .int .i64 a1_12, .int .u64 a1_13, .bool a1_14, rho_ tb_ a1_15, .int .i64 a1_16, .int .i64 a1_17, .int .i64 a1_18, .int .i64 a1_19] 41 (0, 0)) (bk_ ab) hb); replace HB := hS_ HB hb; (try clear hb)))
   go_ret
   exact ⟨er_, hB_ HB⟩
 ·replace c4 := Bool.eq_false_iff.mpr c4
  subst c4
  have H1 : (some false) = some r := nf_ H
  clear H; have H := H1; clear H1
  obtain rfl := Option.some.inj H
  go_enter Try.func20, Try.ntmps20
  simp only [List.append]
  go_wp2_with (first | (go_at_call 19; refine (sameq_ (of_eq_true (by assumption)) (Lg_below HG.out (hB_ HB))).mono ?_; rintro e w' ⟨rfl, ⟨nd, rfl⟩⟩) | ((with_reducible refine gd_ 2 ?_); refine bx_ (N := 2) (cs := #[.int .i64 ac, .int .u32 ad, rho_ tb_ ae, .int .i64 af, .int .u32 ag, .bool ah, rho_ tb_ ai, rho_ tb_ aj, .int .i64 an, .int .i64 ao, .int .i64 a0_10, .int .i64 a0_11, .int .i64 a0_12, .int .u64 a0_13, .bool a0_14, rho_ tb_ a0_15, .int .i64 a0_16, .int .i64 a0_17, .int .i64 a0_18, .int .i64 a0_19]) (t := 41) ?_; intro ap hg w148 aa hb; have aE := gG_ hg HB; have aC := gG_ hg HB; replace HB := hS_ HB hb; clear hb hg) | ((with_reducible refine gd_ 3 ?_); refine bx_ (N := 3) (cs := #[.int .i64 ak, .int .u32 al, rho_ tb_ am, .int .i64 au, .int .u32 av, .bool aw, rho_ tb_ ax, rho_ tb_ ay, .int .i64 az, .int .i64 aA, .int .i64 a1_10, .int .i64 a1_11, .int .i64 a1_12, .int .u64 a1_13, .bool a1_14, rho_ tb_ a1_15, .int .i64 a1_16, .int .i64 a1_17, .int .i64 a1_18, .int .i64 a1_19]) (t := 41) ?_; intro aB hg w149 ab hb; have aF := gG_ hg HB; have aD := gG_ hg HB; have aq := nL_ hg aa; have ar := nG_ hg aa; replace aa := Aside0.mk (blk_below (g := ap) (o := .cells #[.int .i64 ac, .int .u32 ad, rho_ tb_ ae, .int .i64 af, .int .u32 ag, .bool ah, rho_ tb_ ai, rho_ tb_ aj, .int .i64 an, .int .i64 ao, .int .i64 a0_10, .int .i64 a0_11, .int .i64 a0_12, .int .u64 a0_13, .bool a0_14, rho_ tb_ a0_15, .int .i64 a0_16, .int .i64 a0_17, .int .i64 a0_18, .int .i64 a0_19] 41 (0, 0)) (bk_ aa) hb); replace HB := hS_ HB hb; clear hb hg; have Wn := aq.out; have Ws := ar.out; obtain ⟨oM, Ay⟩ := c20_0 (w := w149) aa; obtain ⟨oN, Az⟩ := c20_1 (w := w149) aa; obtain ⟨oO, AA⟩ := c20_2 (w := w149) aa; obtain ⟨oP, AB⟩ := c20_3 (w := w149) aa; obtain ⟨oQ, AC⟩ := c20_4 (w := w149) aa; obtain ⟨oR, AD⟩ := c20_5 (w := w149) aa; obtain ⟨oS, AE⟩ := c20_6 (w := w149) aa; obtain ⟨oT, AF⟩ := c20_7 (w := w149) aa; obtain ⟨oU, AG⟩ := c20_8 (w := w149) aa; obtain ⟨oV, AH⟩ := c20_9 (w := w149) aa; obtain ⟨fk, jZ⟩ := c20_10 (w := w149) aa; obtain ⟨fl, j0⟩ := c20_11 (w := w149) aa; obtain ⟨fm, j1⟩ := c20_12 (w := w149) aa; obtain ⟨fn, j2⟩ := c20_13 (w := w149) aa; obtain ⟨fo, j3⟩ := c20_14 (w := w149) aa; obtain ⟨fp, j4⟩ := c20_15 (w := w149) aa; obtain ⟨fq, j5⟩ := c20_16 (w := w149) aa; obtain ⟨fr, j6⟩ := c20_17 (w := w149) aa; obtain ⟨fs, j7⟩ := c20_18 (w := w149) aa; obtain ⟨ft, j8⟩ := c20_19 (w := w149) aa; obtain ⟨oW, AI⟩ := c20_0 (w := w149) ab; obtain ⟨oX, AJ⟩ := c20_1 (w := w149) ab; obtain ⟨oY, AK⟩ := c20_2 (w := w149) ab; obtain ⟨oZ, AL⟩ := c20_3 (w := w149) ab; obtain ⟨o0, AM⟩ := c20_4 (w := w149) ab; obtain ⟨o1, AN⟩ := c20_5 (w := w149) ab; obtain ⟨o2, AO⟩ := c20_6 (w := w149) ab; obtain ⟨o3, AP⟩ := c20_7 (w := w149) ab; obtain ⟨o4, AQ⟩ := c20_8 (w := w149) ab; obtain ⟨o5, AR⟩ := c20_9 (w := w149) ab; obtain ⟨fu, j9⟩ := c20_10 (w := w149) ab; obtain ⟨fv, ka⟩ := c20_11 (w := w149) ab; obtain ⟨fw, kb⟩ := c20_12 (w := w149) ab; obtain ⟨fx, kc⟩ := c20_13 (w := w149) ab; obtain ⟨fy, kd⟩ := c20_14 (w := w149) ab; obtain ⟨fz, ke⟩ := c20_15 (w := w149) ab; obtain ⟨fA, kf⟩ := c20_16 (w := w149) ab; obtain ⟨fB, kg⟩ := c20_17 (w := w149) ab; obtain ⟨fC, kh⟩ := c20_18 (w := w149) ab; obtain ⟨fD, ki⟩ := c20_19 (w := w149) ab) | ((with_reducible refine gate_callee (f := 34) rfl ?_); refine goesL_ (some 9) rfl rfl Try.func34 (by kernel_rfl) rfl #[.agg #[.int .i64 ac, .int .u32 ad, rho_ tb_ ae], .agg #[.int .i64 ak, .int .u32 al, rho_ tb_ am]] rfl am_ ?_; (with_reducible refine (lodgerref08_Asks.calls ac ad ae ak al am false _ ?side1 A3.out).mono ?_); (case side1 => exact Lg_below HG.out (hB_ HB)); rintro e w153 ⟨rfl, hb⟩; refine ⟨_, rfl, ?_⟩; replace HB := hS_ HB hb; skip; (try clear hb)))
  go_ret
  exact ⟨er_, hB_ HB⟩

end Go.Proofs.Ytfhjeneegfmngaa.PSeekStays
