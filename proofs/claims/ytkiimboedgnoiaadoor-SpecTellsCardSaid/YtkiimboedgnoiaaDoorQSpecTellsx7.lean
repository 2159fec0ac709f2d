/- The walk of SpecTells, part of it: what the Go functions answer; no condition. -/
import Derived.Test.YtkiimboedgnoiaaDoorQSpecTellsx0
import Derived.Test.YtkiimboedgnoiaaDoorQSpecTellsx1
import Derived.Test.YtkiimboedgnoiaaDoorQSpecTellsx5
import Derived.Test.YtkiimboedgnoiaaDoorQSpecTellsx6
namespace Go.Proofs.YtkiimboedgnoiaaDoor.PSpecTells
open Go.RowKit Go.Proofs.YtkiimboedgnoiaaDoorW.PrintWords Go.Proofs.YtkiimboedgnoiaaDoorW.PrintLast Go.Proofs.YtkiimboedgnoiaaDoorW.PrintMore
attribute [local go_sem] max2_int min2_int max_two min_two max_three min_three max_four min_four   -- for this text's walks alone
set_option linter.unusedVariables false
set_option linter.unusedSimpArgs false

/-! ### lodgerref03_Ints: function 17 -/
def lodgerref03_Ints.l0 : Nat → List Int → List Int → Int → Option (Bool)
 | 0, _, _, _ => none
 | k + 1, x0, x1, x5 => if x5 < (x0.length : Int) then (if 0 ≤ x5 then (if x5 < (x1.length : Int) then (if (rd x0 x5) = (rd x1 x5) then (lodgerref03_Ints.l0 k x0 x1 (wrap64 (x5 + 1))) else (some false)) else (none)) else (none)) else (some true)
def lodgerref03_Ints.f (k : Nat) (l0 l1 : List Int) : Option (Bool) := if (l0.length : Int) = (l1.length : Int) then (lodgerref03_Ints.l0 k l0 l1 0) else (some false)
theorem lodgerref03_Ints.mono_l : ∀ k, (∀ y0 y1 y2, LeO (lodgerref03_Ints.l0 k y0 y1 y2) (lodgerref03_Ints.l0 (k + 1) y0 y1 y2))
 | 0 => fun _ _ _ r h => by simp [lodgerref03_Ints.l0] at h
 | k + 1 => by
  have ih0 := lodgerref03_Ints.mono_l k
  ·intro y0 y1 y2
   unfold lodgerref03_Ints.l0
   repeat' (with_reducible first | apply ih0 | exact LeO.refl _ | exact LeO.none _ | refine LeO.ite ?_ ?_ | refine LeO.bind ?_ (fun _ => ?_))
theorem lodgerref03_Ints.mono : ∀ a0 a1 k, LeO (lodgerref03_Ints.f k a0 a1) (lodgerref03_Ints.f (k + 1) a0 a1) := by
 intro a0 a1 k
 have ih0 := lodgerref03_Ints.mono_l k
 unfold lodgerref03_Ints.f
 repeat' (with_reducible first | apply ih0 | exact LeO.refl _ | exact LeO.none _ | refine LeO.ite ?_ ?_ | refine LeO.bind ?_ (fun _ => ?_))
set_option maxHeartbeats 8000000 in
set_option maxRecDepth 100000 in
theorem lodgerref03_Ints.calls (k : Nat) (A0 : Option Addr) (c0 : Nat) (l0 : List Int) (A1 : Option Addr) (c1 : Nat) (l1 : List Int) (r : Bool) (w : World) (hr0 : Kd.C (Kd.int .i64) w A0 l0.length l0) (hc0 : l0.length ≤ c0) (hr1 : Kd.C (Kd.int .i64) w A1 l1.length l1) (hc1 : l1.length ≤ c1) (h : lodgerref03_Ints.f k l0 l1 = some r) :
  Calls Tryd.prog 17 #[.slice A0 l0.length c0, .slice A1 l1.length c1] w fun e w' => e = .returned (.bool r) ∧ Drawn0 w w' := by
 have ae := Aside0.mk hr0
 have al := Aside0.mk hc0
 clear hr0 hc0
 have af := Aside0.mk hr1
 have am := Aside0.mk hc1
 clear hr1 hc1
 have H : (if (l0.length : Int) = (l1.length : Int) then (lodgerref03_Ints.l0 k l0 l1 0) else (some false)) = some r := h
 clear h
 by_cases c3 : (l0.length : Int) = (l1.length : Int)
 ·rw [if_pos c3] at H
  have ab : ((l0.length : Int) == (l1.length : Int)) = true := beq_iff_eq.mpr c3
  have ac : ((l0.length : Int) != (l1.length : Int)) = false := bne_eq_false_iff_eq.mpr c3
  have ad : (l0.length == l1.length) = true := by first | simpa using c3 | (simp at c3 ⊢; omega)
  clear c3
  have H' := Aside0.mk H
  clear H
  go_enter Tryd.func17, Tryd.ntmps17
  go_wp2
  repeat (go_quiet (fail); try go_wp2)
  go_loopg [5] k (fun kq v5 w' => ∃ (aa : Int), v5 = .int .i64 aa ∧ Aside0 (lodgerref03_Ints.l0 kq l0 l1 aa = some r) ∧ Aside0 (kq ≤ k) ∧ Drawn0 w w')
  case atStart => exact ⟨(0), rs_, H', ⟨Nat.le_refl _⟩, dn_⟩
  case round =>
   clear H'
   try clear c1
   try clear p2
   try clear c3
   try clear ab
   try clear ac
   try clear ad
   obtain ⟨aa, rfl, HA, HK1, ⟨m1, rfl⟩⟩ := hrel
   cases gk with
   | zero => exact absurd HA.out (by simp [lodgerref03_Ints.l0])
   | succ k1 =>
    have H := HA.out; clear HA; simp only [lodgerref03_Ints.l0] at H
    by_cases c4 : aa < (l0.length : Int)
    ·rw [if_pos c4] at H
     have ag : decide (aa < (l0.length : Int)) = true := decide_eq_true c4
     clear c4
     by_cases c5 : 0 ≤ aa
     ·rw [if_pos c5] at H
      have aj : decide (0 ≤ aa) = true := decide_eq_true c5
      clear c5
      by_cases c6 : aa < (l1.length : Int)
      ·rw [if_pos c6] at H
       have ak : decide (aa < (l1.length : Int)) = true := decide_eq_true c6
       clear c6
       by_cases c7 : (rd l0 aa) = (rd l1 aa)
       ·rw [if_pos c7] at H
        have ah : ((rd l0 aa) == (rd l1 aa)) = true := beq_iff_eq.mpr c7
        have ai : ((rd l0 aa) != (rd l1 aa)) = false := bne_eq_false_iff_eq.mpr c7
        clear c7
        have H' := Aside0.mk H
        clear H
        have p405 : 0 ≤ (aa : Int) := od_
        have q405 : aa < (l0.length : Int) := od_
        obtain ⟨ad405, e405, hx405_0⟩ := Kd.at_int ae.out aa p405 q405
        cases e405
        replace p405 := eq_true p405; replace q405 := eq_true q405
        have p406 : 0 ≤ (aa : Int) := od_
        have q406 : aa < (l1.length : Int) := od_
        obtain ⟨ad406, e406, hx406_0⟩ := Kd.at_int af.out aa p406 q406
        cases e406
        replace p406 := eq_true p406; replace q406 := eq_true q406
        go_wp2
        repeat (go_quiet (fail); try go_wp2)
        go_roundg k1
        case measure => have := HK1.out; omega
        case rel => exact ⟨(wrap64 (aa + 1)), rs_, H', ⟨om_ HK1⟩, dn_⟩
       ·rw [if_neg c7] at H
        have ah : ((rd l0 aa) == (rd l1 aa)) = false := beq_eq_false_iff_ne.mpr c7
        have ai : ((rd l0 aa) != (rd l1 aa)) = true := bne_iff_ne.mpr c7
        obtain rfl := Option.some.inj H
        have p405 : 0 ≤ (aa : Int) := od_
        have q405 : aa < (l0.length : Int) := od_
        obtain ⟨ad405, e405, hx405_0⟩ := Kd.at_int ae.out aa p405 q405
        cases e405
        replace p405 := eq_true p405; replace q405 := eq_true q405
        have p406 : 0 ≤ (aa : Int) := od_
        have q406 : aa < (l1.length : Int) := od_
        obtain ⟨ad406, e406, hx406_0⟩ := Kd.at_int af.out aa p406 q406
        cases e406
        replace p406 := eq_true p406; replace q406 := eq_true q406
        go_wp2
        repeat (go_quiet (fail); try go_wp2)
        go_ret
        exact ⟨rs_, dn_⟩
      ·rw [if_neg c6] at H
       exact absurd H (by simp)
     ·rw [if_neg c5] at H
      exact absurd H (by simp)
    ·rw [if_neg c4] at H
     have ag : decide (aa < (l0.length : Int)) = false := decide_eq_false c4
     clear c4
     obtain rfl := Option.some.inj H
     go_wp2
     repeat (go_quiet (fail); try go_wp2)
     go_ret
     exact ⟨rs_, dn_⟩
 ·rw [if_neg c3] at H
  have ab : ((l0.length : Int) == (l1.length : Int)) = false := beq_eq_false_iff_ne.mpr c3
  have ac : ((l0.length : Int) != (l1.length : Int)) = true := bne_iff_ne.mpr c3
  have ad : (l0.length == l1.length) = false := by first | simpa using c3 | (simp at c3 ⊢; omega)
  obtain rfl := Option.some.inj H
  go_enter Tryd.func17, Tryd.ntmps17
  go_wp2
  repeat (go_quiet (fail); try go_wp2)
  go_ret
  exact ⟨rs_, dn_⟩

/-! ### lodgerref08_Errs: function 28 -/
def lodgerref08_Errs.l0 : Nat → List Int → List Int → Int → Option (Bool)
 | 0, _, _, _ => none
 | k + 1, x0, x1, x5 => if x5 < (x0.length : Int) then (if 0 ≤ x5 then (if x5 < (x1.length : Int) then (if (rd x0 x5) = (rd x1 x5) then (lodgerref08_Errs.l0 k x0 x1 (wrap64 (x5 + 1))) else (some false)) else (none)) else (none)) else (some true)
def lodgerref08_Errs.f (k : Nat) (l0 l1 : List Int) : Option (Bool) := if (l0.length : Int) = (l1.length : Int) then (lodgerref08_Errs.l0 k l0 l1 0) else (some false)
theorem lodgerref08_Errs.mono_l : ∀ k, (∀ y0 y1 y2, LeO (lodgerref08_Errs.l0 k y0 y1 y2) (lodgerref08_Errs.l0 (k + 1) y0 y1 y2))
 | 0 => fun _ _ _ r h => by simp [lodgerref08_Errs.l0] at h
 | k + 1 => by
  have ih0 := lodgerref08_Errs.mono_l k
  ·intro y0 y1 y2
   unfold lodgerref08_Errs.l0
   repeat' (with_reducible first | apply ih0 | exact LeO.refl _ | exact LeO.none _ | refine LeO.ite ?_ ?_ | refine LeO.bind ?_ (fun _ => ?_))
theorem lodgerref08_Errs.mono : ∀ a0 a1 k, LeO (lodgerref08_Errs.f k a0 a1) (lodgerref08_Errs.f (k + 1) a0 a1) := by
 intro a0 a1 k
 have ih0 := lodgerref08_Errs.mono_l k
 unfold lodgerref08_Errs.f
 repeat' (with_reducible first | apply ih0 | exact LeO.refl _ | exact LeO.none _ | refine LeO.ite ?_ ?_ | refine LeO.bind ?_ (fun _ => ?_))
set_option maxHeartbeats 8000000 in
set_option maxRecDepth 100000 in
theorem lodgerref08_Errs.calls (k : Nat) (A0 : Option Addr) (c0 : Nat) (l0 : List Int) (A1 : Option Addr) (c1 : Nat) (l1 : List Int) (r : Bool) (w : World) (hr0 : Kd.C (Kd.int .i64) w A0 l0.length l0) (hc0 : l0.length ≤ c0) (hr1 : Kd.C (Kd.int .i64) w A1 l1.length l1) (hc1 : l1.length ≤ c1) (h : lodgerref08_Errs.f k l0 l1 = some r) :
  Calls Tryd.prog 28 #[.slice A0 l0.length c0, .slice A1 l1.length c1] w fun e w' => e = .returned (.bool r) ∧ Drawn0 w w' := by
 have ae := Aside0.mk hr0
 have al := Aside0.mk hc0
 clear hr0 hc0
 have af := Aside0.mk hr1
 have am := Aside0.mk hc1
 clear hr1 hc1
 have H : (if (l0.length : Int) = (l1.length : Int) then (lodgerref08_Errs.l0 k l0 l1 0) else (some false)) = some r := h
 clear h
 by_cases c3 : (l0.length : Int) = (l1.length : Int)
 ·rw [if_pos c3] at H
  have ab : ((l0.length : Int) == (l1.length : Int)) = true := beq_iff_eq.mpr c3
  have ac : ((l0.length : Int) != (l1.length : Int)) = false := bne_eq_false_iff_eq.mpr c3
  have ad : (l0.length == l1.length) = true := by first | simpa using c3 | (simp at c3 ⊢; omega)
  clear c3
  have H' := Aside0.mk H
  clear H
  go_enter Tryd.func28, Tryd.ntmps28
  go_wp2
  repeat (go_quiet (fail); try go_wp2)
  go_loopg [5] k (fun kq v5 w' => ∃ (aa : Int), v5 = .int .i64 aa ∧ Aside0 (lodgerref08_Errs.l0 kq l0 l1 aa = some r) ∧ Aside0 (kq ≤ k) ∧ Drawn0 w w')
  case atStart => exact ⟨(0), rs_, H', ⟨Nat.le_refl _⟩, dn_⟩
  case round =>
   clear H'
   try clear c1
   try clear c2
   try clear p2
   try clear c3
   try clear ab
   try clear ac
   try clear ad
   obtain ⟨aa, rfl, HA, HK1, ⟨m1, rfl⟩⟩ := hrel
   cases gk with
   | zero => exact absurd HA.out (by simp [lodgerref08_Errs.l0])
   | succ k1 =>
    have H := HA.out; clear HA; simp only [lodgerref08_Errs.l0] at H
    by_cases c4 : aa < (l0.length : Int)
    ·rw [if_pos c4] at H
     have ag : decide (aa < (l0.length : Int)) = true := decide_eq_true c4
     clear c4
     by_cases c5 : 0 ≤ aa
     ·rw [if_pos c5] at H
      have aj : decide (0 ≤ aa) = true := decide_eq_true c5
      clear c5
      by_cases c6 : aa < (l1.length : Int)
      ·rw [if_pos c6] at H
       have ak : decide (aa < (l1.length : Int)) = true := decide_eq_true c6
       clear c6
       by_cases c7 : (rd l0 aa) = (rd l1 aa)
       ·rw [if_pos c7] at H
        have ah : ((rd l0 aa) == (rd l1 aa)) = true := beq_iff_eq.mpr c7
        have ai : ((rd l0 aa) != (rd l1 aa)) = false := bne_eq_false_iff_eq.mpr c7
        clear c7
        have H' := Aside0.mk H
        clear H
        have p407 : 0 ≤ (aa : Int) := od_
        have q407 : aa < (l0.length : Int) := od_
        obtain ⟨ad407, e407, hx407_0⟩ := Kd.at_int ae.out aa p407 q407
        cases e407
        replace p407 := eq_true p407; replace q407 := eq_true q407
        have p408 : 0 ≤ (aa : Int) := od_
        have q408 : aa < (l1.length : Int) := od_
        obtain ⟨ad408, e408, hx408_0⟩ := Kd.at_int af.out aa p408 q408
        cases e408
        replace p408 := eq_true p408; replace q408 := eq_true q408
        go_wp2
        repeat (go_quiet (fail); try go_wp2)
        go_roundg k1
        case measure => have := HK1.out; omega
        case rel => exact ⟨(wrap64 (aa + 1)), rs_, H', ⟨om_ HK1⟩, dn_⟩
       ·rw [if_neg c7] at H
        have ah : ((rd l0 aa) == (rd l1 aa)) = false := beq_eq_false_iff_ne.mpr c7
        have ai : ((rd l0 aa) != (rd l1 aa)) = true := bne_iff_ne.mpr c7
        obtain rfl := Option.some.inj H
        have p407 : 0 ≤ (aa : Int) := od_
        have q407 : aa < (l0.length : Int) := od_
        obtain ⟨ad407, e407, hx407_0⟩ := Kd.at_int ae.out aa p407 q407
        cases e407
        replace p407 := eq_true p407; replace q407 := eq_true q407
        have p408 : 0 ≤ (aa : Int) := od_
        have q408 : aa < (l1.length : Int) := od_
        obtain ⟨ad408, e408, hx408_0⟩ := Kd.at_int af.out aa p408 q408
        cases e408
        replace p408 := eq_true p408; replace q408 := eq_true q408
        go_wp2
        repeat (go_quiet (fail); try go_wp2)
        go_ret
        exact ⟨rs_, dn_⟩
      ·rw [if_neg c6] at H
       exact absurd H (by simp)
     ·rw [if_neg c5] at H
      exact absurd H (by simp)
    ·rw [if_neg c4] at H
     have ag : decide (aa < (l0.length : Int)) = false := decide_eq_false c4
     clear c4
     obtain rfl := Option.some.inj H
     go_wp2
     repeat (go_quiet (fail); try go_wp2)
     go_ret
     exact ⟨rs_, dn_⟩
 ·rw [if_neg c3] at H
  have ab : ((l0.length : Int) == (l1.length : Int)) = false := beq_eq_false_iff_ne.mpr c3
  have ac : ((l0.length : Int) != (l1.length : Int)) = true := bne_iff_ne.mpr c3
  have ad : (l0.length == l1.length) = false := by first | simpa using c3 | (simp at c3 ⊢; omega)
  obtain rfl := Option.some.inj H
  go_enter Tryd.func28, Tryd.ntmps28
  go_wp2
  repeat (go_quiet (fail); try go_wp2)
  go_ret
  exact ⟨rs_, dn_⟩

/-! ### lodgerlaw11_awake: function 9 -/
def lodgerlaw11_awake.f (k : Nat)  : Option (Bool) := (some (([0] : List Int) : List Int)).bind fun y409 => ((spec_Legal.f k 0 30 y409 1 1 1 1 ([] : List Int) 2 2 ([] : List Int) 0 2 false ([] : List Int) ([] : List Int)).bind fun bt414 => ((spec_Legal.f k 0 30 y409 1 1 1 1 bt414.1 2 2 ([] : List Int) 0 2 false ([] : List Int) ([] : List Int)).bind fun bt418 => ((spec_Some.f k 0 30 y409 1 1 1 1 bt414.1 1 0 ([] : List Int)).bind fun bt422 => ((spec_Legal.f k 0 30 y409 1 1 1 1 bt414.1 1 0 ([] : List Int) 0 3 false ([] : List Int) ([] : List Int)).bind fun bt435 => ((spec_Legal.f k 0 30 y409 1 1 1 1 bt414.1 1 0 ([] : List Int) 9 0 false ([] : List Int) ([] : List Int)).bind fun bt439 => ((spec_Legal.f k 0 30 y409 1 1 1 1 (([1, 2, 3] : List Int)) 1 0 ([] : List Int) 9 0 false ([] : List Int) ([] : List Int)).bind fun bt446 => ((spec_Some.f k 0 30 y409 1 1 1 1 (([1, 3] : List Int)) 4 0 (([3, 2] : List Int))).bind fun bt456 => ((spec_Legal.f k 0 30 y409 1 1 1 1 bt414.1 2 2 ([] : List Int) 10 0 false ([] : List Int) ([] : List Int)).bind fun bt469 => (if bt414.2 = true then ((lodgerref03_Ints.f k bt414.1 (([2] : List Int))).bind fun t476 => (if t476 = true then (if bt418.2 = true then (some false) else ((lodgerref03_Ints.f k bt422.1 (([1, 2] : List Int))).bind fun t480 => (if t480 = true then (if bt422.2.2.1 = 1 then (if bt435.2 = true then (if bt439.2 = true then (some false) else (if bt446.2 = true then ((lodgerref03_Ints.f k bt456.1 (([1] : List Int))).bind fun t484 => (if t484 = true then ((lodgerref08_Errs.f k bt456.2.2.2.2.2 (([0, 6] : List Int))).bind fun t488 => (if t488 = true then (if bt469.2 = true then ((spec_Same.f k bt422.2.1 bt422.2.2.1 bt422.2.2.2.1 bt422.2.2.2.2.1 bt422.2.2.2.2.2 0 1 false ([] : List Int) ([] : List Int)).bind fun t489 => (if t489 = true then ((spec_Same.f k bt422.2.1 bt422.2.2.1 bt422.2.2.2.1 bt422.2.2.2.2.1 bt422.2.2.2.2.2 bt456.2.1 bt456.2.2.1 bt456.2.2.2.1 bt456.2.2.2.2.1 bt456.2.2.2.2.2).bind fun t490 => (some (!t490))) else (some false))) else (some false)) else (some false))) else (some false))) else (some false))) else (some false)) else (some false)) else (some false)))) else (some false))) else (some false))))))))))
theorem lodgerlaw11_awake.mono : ∀ k, LeO (lodgerlaw11_awake.f k ) (lodgerlaw11_awake.f (k + 1) ) := by
 intro  k
 unfold lodgerlaw11_awake.f
 repeat' (with_reducible first | apply lodgerref03_Ints.mono | apply lodgerref08_Errs.mono | apply spec_Legal.mono | apply spec_Same.mono | apply spec_Some.mono | exact LeO.refl _ | exact LeO.none _ | refine LeO.ite ?_ ?_ | refine LeO.bind ?_ (fun _ => ?_))
set_option maxHeartbeats 8000000 in
set_option maxRecDepth 100000 in
theorem lodgerlaw11_awake.only {k : Nat} {r : Bool} (h : lodgerlaw11_awake.f k = some r) : r = true := by
 have e : lodgerlaw11_awake.f 500 = some true := by decide +kernel
 have h1 := at_rounds lodgerlaw11_awake.mono (Nat.le_max_left k 500) h
 rw [at_rounds lodgerlaw11_awake.mono (Nat.le_max_right k 500) e] at h1
 exact (Option.some.inj h1).symm
set_option maxHeartbeats 8000000 in
set_option maxRecDepth 100000 in
theorem lodgerlaw11_awake.calls (k : Nat)  (r : Bool) (w : World) (hG : Lg w) (h : lodgerlaw11_awake.f k  = some r) :
  Calls Tryd.prog 9 #[] w fun e w' => e = .returned (.bool r) ∧ Below w.heap.size w w' := by
 have hu24 := Tryd.underlying24
 have hu27 := Tryd.underlying27
 have hu30 := Tryd.underlying30
 have hu34 := Tryd.underlying34
 have HB := Aside0.mk (Below.refl w.heap.size w)
 have HG := Aside0.mk hG
 clear hG
 have hr_ := Aside0.mk (lodgerlaw11_awake.only h)
 have H : ((some (([0] : List Int) : List Int)).bind fun aa => ((spec_Legal.f k 0 30 aa 1 1 1 1 ([] : List Int) 2 2 ([] : List Int) 0 2 false ([] : List Int) ([] : List Int)).bind fun bt414 => ((spec_Legal.f k 0 30 aa 1 1 1 1 bt414.1 2 2 ([] : List Int) 0 2 false ([] : List Int) ([] : List Int)).bind fun bt418 => ((spec_Some.f k 0 30 aa 1 1 1 1 bt414.1 1 0 ([] : List Int)).bind fun bt422 => ((spec_Legal.f k 0 30 aa 1 1 1 1 bt414.1 1 0 ([] : List Int) 0 3 false ([] : List Int) ([] : List Int)).bind fun bt435 => ((spec_Legal.f k 0 30 aa 1 1 1 1 bt414.1 1 0 ([] : List Int) 9 0 false ([] : List Int) ([] : List Int)).bind fun bt439 => ((spec_Legal.f k 0 30 aa 1 1 1 1 (([1, 2, 3] : List Int)) 1 0 ([] : List Int) 9 0 false ([] : List Int) ([] : List Int)).bind fun bt446 => ((spec_Some.f k 0 30 aa 1 1 1 1 (([1, 3] : List Int)) 4 0 (([3, 2] : List Int))).bind fun bt456 => ((spec_Legal.f k 0 30 aa 1 1 1 1 bt414.1 2 2 ([] : List Int) 10 0 false ([] : List Int) ([] : List Int)).bind fun bt469 => (if bt414.2 = true then ((lodgerref03_Ints.f k bt414.1 (([2] : List Int))).bind fun aI => (if aI = true then (if bt418.2 = true then (some false) else ((lodgerref03_Ints.f k bt422.1 (([1, 2] : List Int))).bind fun aD => (if aD = true then (if bt422.2.2.1 = 1 then (if bt435.2 = true then (if bt439.2 = true then (some false) else (if bt446.2 = true then ((lodgerref03_Ints.f k bt456.1 (([1] : List Int))).bind fun aq => (if aq = true then ((lodgerref08_Errs.f k bt456.2.2.2.2.2 (([0, 6] : List Int))).bind fun ao => (if ao = true then (if bt469.2 = true then ((spec_Same.f k bt422.2.1 bt422.2.2.1 bt422.2.2.2.1 bt422.2.2.2.2.1 bt422.2.2.2.2.2 0 1 false ([] : List Int) ([] : List Int)).bind fun al => (if al = true then ((spec_Same.f k bt422.2.1 bt422.2.2.1 bt422.2.2.2.1 bt422.2.2.2.2.1 bt422.2.2.2.2.2 bt456.2.1 bt456.2.2.1 bt456.2.2.2.1 bt456.2.2.2.2.1 bt456.2.2.2.2.2).bind fun ak => (some (!ak))) else (some false))) else (some false)) else (some false))) else (some false))) else (some false))) else (some false)) else (some false)) else (some false)))) else (some false))) else (some false))))))))))) = some r := h
 clear h
 obtain ⟨aa, hy409⟩ : ∃ y_ : List Int, y_ = (([0] : List Int)) := ⟨_, rfl⟩
 replace H : ((spec_Legal.f k 0 30 aa 1 1 1 1 ([] : List Int) 2 2 ([] : List Int) 0 2 false ([] : List Int) ([] : List Int)).bind fun bt414 => ((spec_Legal.f k 0 30 aa 1 1 1 1 bt414.1 2 2 ([] : List Int) 0 2 false ([] : List Int) ([] : List Int)).bind fun bt418 => ((spec_Some.f k 0 30 aa 1 1 1 1 bt414.1 1 0 ([] : List Int)).bind fun bt422 => ((spec_Legal.f k 0 30 aa 1 1 1 1 bt414.1 1 0 ([] : List Int) 0 3 false ([] : List Int) ([] : List Int)).bind fun bt435 => ((spec_Legal.f k 0 30 aa 1 1 1 1 bt414.1 1 0 ([] : List Int) 9 0 false ([] : List Int) ([] : List Int)).bind fun bt439 => ((spec_Legal.f k 0 30 aa 1 1 1 1 (([1, 2, 3] : List Int)) 1 0 ([] : List Int) 9 0 false ([] : List Int) ([] : List Int)).bind fun bt446 => ((spec_Some.f k 0 30 aa 1 1 1 1 (([1, 3] : List Int)) 4 0 (([3, 2] : List Int))).bind fun bt456 => ((spec_Legal.f k 0 30 aa 1 1 1 1 bt414.1 2 2 ([] : List Int) 10 0 false ([] : List Int) ([] : List Int)).bind fun bt469 => (if bt414.2 = true then ((lodgerref03_Ints.f k bt414.1 (([2] : List Int))).bind fun aI => (if aI = true then (if bt418.2 = true then (some false) else ((lodgerref03_Ints.f k bt422.1 (([1, 2] : List Int))).bind fun aD => (if aD = true then (if bt422.2.2.1 = 1 then (if bt435.2 = true then (if bt439.2 = true then (some false) else (if bt446.2 = true then ((lodgerref03_Ints.f k bt456.1 (([1] : List Int))).bind fun aq => (if aq = true then ((lodgerref08_Errs.f k bt456.2.2.2.2.2 (([0, 6] : List Int))).bind fun ao => (if ao = true then (if bt469.2 = true then ((spec_Same.f k bt422.2.1 bt422.2.2.1 bt422.2.2.2.1 bt422.2.2.2.2.1 bt422.2.2.2.2.2 0 1 false ([] : List Int) ([] : List Int)).bind fun al => (if al = true then ((spec_Same.f k bt422.2.1 bt422.2.2.1 bt422.2.2.2.1 bt422.2.2.2.2.1 bt422.2.2.2.2.2 bt456.2.1 bt456.2.2.1 bt456.2.2.2.1 bt456.2.2.2.2.1 bt456.2.2.2.2.2).bind fun ak => (some (!ak))) else (some false))) else (some false)) else (some false))) else (some false))) else (some false))) else (some false)) else (some false)) else (some false)))) else (some false))) else (some false)))))))))) = some r := rp_ hy409 H
 have Ny409 := Aside0.mk hy409
 clear hy409
 replace H := bi_ H
 obtain ⟨⟨aw, bh⟩, A10, H⟩ := H
 replace H : ((spec_Legal.f k 0 30 aa 1 1 1 1 aw 2 2 ([] : List Int) 0 2 false ([] : List Int) ([] : List Int)).bind fun bt418 => ((spec_Some.f k 0 30 aa 1 1 1 1 aw 1 0 ([] : List Int)).bind fun bt422 => ((spec_Legal.f k 0 30 aa 1 1 1 1 aw 1 0 ([] : List Int) 0 3 false ([] : List Int) ([] : List Int)).bind fun bt435 => ((spec_Legal.f k 0 30 aa 1 1 1 1 aw 1 0 ([] : List Int) 9 0 false ([] : List Int) ([] : List Int)).bind fun bt439 => ((spec_Legal.f k 0 30 aa 1 1 1 1 (([1, 2, 3] : List Int)) 1 0 ([] : List Int) 9 0 false ([] : List Int) ([] : List Int)).bind fun bt446 => ((spec_Some.f k 0 30 aa 1 1 1 1 (([1, 3] : List Int)) 4 0 (([3, 2] : List Int))).bind fun bt456 => ((spec_Legal.f k 0 30 aa 1 1 1 1 aw 2 2 ([] : List Int) 10 0 false ([] : List Int) ([] : List Int)).bind fun bt469 => (if bh = true then ((lodgerref03_Ints.f k aw (([2] : List Int))).bind fun aI => (if aI = true then (if bt418.2 = true then (some false) else ((lodgerref03_Ints.f k bt422.1 (([1, 2] : List Int))).bind fun aD => (if aD = true then (if bt422.2.2.1 = 1 then (if bt435.2 = true then (if bt439.2 = true then (some false) else (if bt446.2 = true then ((lodgerref03_Ints.f k bt456.1 (([1] : List Int))).bind fun aq => (if aq = true then ((lodgerref08_Errs.f k bt456.2.2.2.2.2 (([0, 6] : List Int))).bind fun ao => (if ao = true then (if bt469.2 = true then ((spec_Same.f k bt422.2.1 bt422.2.2.1 bt422.2.2.2.1 bt422.2.2.2.2.1 bt422.2.2.2.2.2 0 1 false ([] : List Int) ([] : List Int)).bind fun al => (if al = true then ((spec_Same.f k bt422.2.1 bt422.2.2.1 bt422.2.2.2.1 bt422.2.2.2.2.1 bt422.2.2.2.2.2 bt456.2.1 bt456.2.2.1 bt456.2.2.2.1 bt456.2.2.2.2.1 bt456.2.2.2.2.2).bind fun ak => (some (!ak))) else (some false))) else (some false)) else (some false))) else (some false))) else (some false))) else (some false)) else (some false)) else (some false)))) else (some false))) else (some false))))))))) = some r := H
 have A1 := Aside0.mk A10
 clear A10
 replace H := bi_ H
 obtain ⟨⟨bB, bf⟩, A20, H⟩ := H
 replace H : ((spec_Some.f k 0 30 aa 1 1 1 1 aw 1 0 ([] : List Int)).bind fun bt422 => ((spec_Legal.f k 0 30 aa 1 1 1 1 aw 1 0 ([] : List Int) 0 3 false ([] : List Int) ([] : List Int)).bind fun bt435 => ((spec_Legal.f k 0 30 aa 1 1 1 1 aw 1 0 ([] : List Int) 9 0 false ([] : List Int) ([] : List Int)).bind fun bt439 => ((spec_Legal.f k 0 30 aa 1 1 1 1 (([1, 2, 3] : List Int)) 1 0 ([] : List Int) 9 0 false ([] : List Int) ([] : List Int)).bind fun bt446 => ((spec_Some.f k 0 30 aa 1 1 1 1 (([1, 3] : List Int)) 4 0 (([3, 2] : List Int))).bind fun bt456 => ((spec_Legal.f k 0 30 aa 1 1 1 1 aw 2 2 ([] : List Int) 10 0 false ([] : List Int) ([] : List Int)).bind fun bt469 => (if bh = true then ((lodgerref03_Ints.f k aw (([2] : List Int))).bind fun aI => (if aI = true then (if bf = true then (some false) else ((lodgerref03_Ints.f k bt422.1 (([1, 2] : List Int))).bind fun aD => (if aD = true then (if bt422.2.2.1 = 1 then (if bt435.2 = true then (if bt439.2 = true then (some false) else (if bt446.2 = true then ((lodgerref03_Ints.f k bt456.1 (([1] : List Int))).bind fun aq => (if aq = true then ((lodgerref08_Errs.f k bt456.2.2.2.2.2 (([0, 6] : List Int))).bind fun ao => (if ao = true then (if bt469.2 = true then ((spec_Same.f k bt422.2.1 bt422.2.2.1 bt422.2.2.2.1 bt422.2.2.2.2.1 bt422.2.2.2.2.2 0 1 false ([] : List Int) ([] : List Int)).bind fun al => (if al = true then ((spec_Same.f k bt422.2.1 bt422.2.2.1 bt422.2.2.2.1 bt422.2.2.2.2.1 bt422.2.2.2.2.2 bt456.2.1 bt456.2.2.1 bt456.2.2.2.1 bt456.2.2.2.2.1 bt456.2.2.2.2.2).bind fun ak => (some (!ak))) else (some false))) else (some false)) else (some false))) else (some false))) else (some false))) else (some false)) else (some false)) else (some false)))) else (some false))) else (some false)))))))) = some r := H
 have A2 := Aside0.mk A20
 clear A20
 replace H := bi_ H
 obtain ⟨⟨aW, am, ag, an, ad, ae⟩, A30, H⟩ := H
 replace H : ((spec_Legal.f k 0 30 aa 1 1 1 1 aw 1 0 ([] : List Int) 0 3 false ([] : List Int) ([] : List Int)).bind fun bt435 => ((spec_Legal.f k 0 30 aa 1 1 1 1 aw 1 0 ([] : List Int) 9 0 false ([] : List Int) ([] : List Int)).bind fun bt439 => ((spec_Legal.f k 0 30 aa 1 1 1 1 (([1, 2, 3] : List Int)) 1 0 ([] : List Int) 9 0 false ([] : List Int) ([] : List Int)).bind fun bt446 => ((spec_Some.f k 0 30 aa 1 1 1 1 (([1, 3] : List Int)) 4 0 (([3, 2] : List Int))).bind fun bt456 => ((spec_Legal.f k 0 30 aa 1 1 1 1 aw 2 2 ([] : List Int) 10 0 false ([] : List Int) ([] : List Int)).bind fun bt469 => (if bh = true then ((lodgerref03_Ints.f k aw (([2] : List Int))).bind fun aI => (if aI = true then (if bf = true then (some false) else ((lodgerref03_Ints.f k aW (([1, 2] : List Int))).bind fun aD => (if aD = true then (if ag = 1 then (if bt435.2 = true then (if bt439.2 = true then (some false) else (if bt446.2 = true then ((lodgerref03_Ints.f k bt456.1 (([1] : List Int))).bind fun aq => (if aq = true then ((lodgerref08_Errs.f k bt456.2.2.2.2.2 (([0, 6] : List Int))).bind fun ao => (if ao = true then (if bt469.2 = true then ((spec_Same.f k am ag an ad ae 0 1 false ([] : List Int) ([] : List Int)).bind fun al => (if al = true then ((spec_Same.f k am ag an ad ae bt456.2.1 bt456.2.2.1 bt456.2.2.2.1 bt456.2.2.2.2.1 bt456.2.2.2.2.2).bind fun ak => (some (!ak))) else (some false))) else (some false)) else (some false))) else (some false))) else (some false))) else (some false)) else (some false)) else (some false)))) else (some false))) else (some false))))))) = some r := H
 have A3 := Aside0.mk A30
 clear A30
 replace H := bi_ H
 obtain ⟨⟨bC, a2⟩, A40, H⟩ := H
 replace H : ((spec_Legal.f k 0 30 aa 1 1 1 1 aw 1 0 ([] : List Int) 9 0 false ([] : List Int) ([] : List Int)).bind fun bt439 => ((spec_Legal.f k 0 30 aa 1 1 1 1 (([1, 2, 3] : List Int)) 1 0 ([] : List Int) 9 0 false ([] : List Int) ([] : List Int)).bind fun bt446 => ((spec_Some.f k 0 30 aa 1 1 1 1 (([1, 3] : List Int)) 4 0 (([3, 2] : List Int))).bind fun bt456 => ((spec_Legal.f k 0 30 aa 1 1 1 1 aw 2 2 ([] : List Int) 10 0 false ([] : List Int) ([] : List Int)).bind fun bt469 => (if bh = true then ((lodgerref03_Ints.f k aw (([2] : List Int))).bind fun aI => (if aI = true then (if bf = true then (some false) else ((lodgerref03_Ints.f k aW (([1, 2] : List Int))).bind fun aD => (if aD = true then (if ag = 1 then (if a2 = true then (if bt439.2 = true then (some false) else (if bt446.2 = true then ((lodgerref03_Ints.f k bt456.1 (([1] : List Int))).bind fun aq => (if aq = true then ((lodgerref08_Errs.f k bt456.2.2.2.2.2 (([0, 6] : List Int))).bind fun ao => (if ao = true then (if bt469.2 = true then ((spec_Same.f k am ag an ad ae 0 1 false ([] : List Int) ([] : List Int)).bind fun al => (if al = true then ((spec_Same.f k am ag an ad ae bt456.2.1 bt456.2.2.1 bt456.2.2.2.1 bt456.2.2.2.2.1 bt456.2.2.2.2.2).bind fun ak => (some (!ak))) else (some false))) else (some false)) else (some false))) else (some false))) else (some false))) else (some false)) else (some false)) else (some false)))) else (some false))) else (some false)))))) = some r := H
 have A4 := Aside0.mk A40
 clear A40
 replace H := bi_ H
 obtain ⟨⟨bD, a3⟩, A50, H⟩ := H
 replace H : ((spec_Legal.f k 0 30 aa 1 1 1 1 (([1, 2, 3] : List Int)) 1 0 ([] : List Int) 9 0 false ([] : List Int) ([] : List Int)).bind fun bt446 => ((spec_Some.f k 0 30 aa 1 1 1 1 (([1, 3] : List Int)) 4 0 (([3, 2] : List Int))).bind fun bt456 => ((spec_Legal.f k 0 30 aa 1 1 1 1 aw 2 2 ([] : List Int) 10 0 false ([] : List Int) ([] : List Int)).bind fun bt469 => (if bh = true then ((lodgerref03_Ints.f k aw (([2] : List Int))).bind fun aI => (if aI = true then (if bf = true then (some false) else ((lodgerref03_Ints.f k aW (([1, 2] : List Int))).bind fun aD => (if aD = true then (if ag = 1 then (if a2 = true then (if a3 = true then (some false) else (if bt446.2 = true then ((lodgerref03_Ints.f k bt456.1 (([1] : List Int))).bind fun aq => (if aq = true then ((lodgerref08_Errs.f k bt456.2.2.2.2.2 (([0, 6] : List Int))).bind fun ao => (if ao = true then (if bt469.2 = true then ((spec_Same.f k am ag an ad ae 0 1 false ([] : List Int) ([] : List Int)).bind fun al => (if al = true then ((spec_Same.f k am ag an ad ae bt456.2.1 bt456.2.2.1 bt456.2.2.2.1 bt456.2.2.2.2.1 bt456.2.2.2.2.2).bind fun ak => (some (!ak))) else (some false))) else (some false)) else (some false))) else (some false))) else (some false))) else (some false)) else (some false)) else (some false)))) else (some false))) else (some false))))) = some r := H
 have A5 := Aside0.mk A50
 clear A50
 obtain ⟨a5, hy443⟩ : ∃ y_ : List Int, y_ = (([1, 2, 3] : List Int)) := ⟨_, rfl⟩
 replace H : ((spec_Legal.f k 0 30 aa 1 1 1 1 a5 1 0 ([] : List Int) 9 0 false ([] : List Int) ([] : List Int)).bind fun bt446 => ((spec_Some.f k 0 30 aa 1 1 1 1 (([1, 3] : List Int)) 4 0 (([3, 2] : List Int))).bind fun bt456 => ((spec_Legal.f k 0 30 aa 1 1 1 1 aw 2 2 ([] : List Int) 10 0 false ([] : List Int) ([] : List Int)).bind fun bt469 => (if bh = true then ((lodgerref03_Ints.f k aw (([2] : List Int))).bind fun aI => (if aI = true then (if bf = true then (some false) else ((lodgerref03_Ints.f k aW (([1, 2] : List Int))).bind fun aD => (if aD = true then (if ag = 1 then (if a2 = true then (if a3 = true then (some false) else (if bt446.2 = true then ((lodgerref03_Ints.f k bt456.1 (([1] : List Int))).bind fun aq => (if aq = true then ((lodgerref08_Errs.f k bt456.2.2.2.2.2 (([0, 6] : List Int))).bind fun ao => (if ao = true then (if bt469.2 = true then ((spec_Same.f k am ag an ad ae 0 1 false ([] : List Int) ([] : List Int)).bind fun al => (if al = true then ((spec_Same.f k am ag an ad ae bt456.2.1 bt456.2.2.1 bt456.2.2.2.1 bt456.2.2.2.2.1 bt456.2.2.2.2.2).bind fun ak => (some (!ak))) else (some false))) else (some false)) else (some false))) else (some false))) else (some false))) else (some false)) else (some false)) else (some false)))) else (some false))) else (some false))))) = some r := rp_ hy443 H
 have Ny443 := Aside0.mk hy443
 clear hy443
 replace H := bi_ H
 obtain ⟨⟨bE, ba⟩, A60, H⟩ := H
 replace H : ((spec_Some.f k 0 30 aa 1 1 1 1 (([1, 3] : List Int)) 4 0 (([3, 2] : List Int))).bind fun bt456 => ((spec_Legal.f k 0 30 aa 1 1 1 1 aw 2 2 ([] : List Int) 10 0 false ([] : List Int) ([] : List Int)).bind fun bt469 => (if bh = true then ((lodgerref03_Ints.f k aw (([2] : List Int))).bind fun aI => (if aI = true then (if bf = true then (some false) else ((lodgerref03_Ints.f k aW (([1, 2] : List Int))).bind fun aD => (if aD = true then (if ag = 1 then (if a2 = true then (if a3 = true then (some false) else (if ba = true then ((lodgerref03_Ints.f k bt456.1 (([1] : List Int))).bind fun aq => (if aq = true then ((lodgerref08_Errs.f k bt456.2.2.2.2.2 (([0, 6] : List Int))).bind fun ao => (if ao = true then (if bt469.2 = true then ((spec_Same.f k am ag an ad ae 0 1 false ([] : List Int) ([] : List Int)).bind fun al => (if al = true then ((spec_Same.f k am ag an ad ae bt456.2.1 bt456.2.2.1 bt456.2.2.2.1 bt456.2.2.2.2.1 bt456.2.2.2.2.2).bind fun ak => (some (!ak))) else (some false))) else (some false)) else (some false))) else (some false))) else (some false))) else (some false)) else (some false)) else (some false)))) else (some false))) else (some false)))) = some r := H
 have A6 := Aside0.mk A60
 clear A60
 obtain ⟨bb, hy450⟩ : ∃ y_ : List Int, y_ = (([1, 3] : List Int)) := ⟨_, rfl⟩
 replace H : ((spec_Some.f k 0 30 aa 1 1 1 1 bb 4 0 (([3, 2] : List Int))).bind fun bt456 => ((spec_Legal.f k 0 30 aa 1 1 1 1 aw 2 2 ([] : List Int) 10 0 false ([] : List Int) ([] : List Int)).bind fun bt469 => (if bh = true then ((lodgerref03_Ints.f k aw (([2] : List Int))).bind fun aI => (if aI = true then (if bf = true then (some false) else ((lodgerref03_Ints.f k aW (([1, 2] : List Int))).bind fun aD => (if aD = true then (if ag = 1 then (if a2 = true then (if a3 = true then (some false) else (if ba = true then ((lodgerref03_Ints.f k bt456.1 (([1] : List Int))).bind fun aq => (if aq = true then ((lodgerref08_Errs.f k bt456.2.2.2.2.2 (([0, 6] : List Int))).bind fun ao => (if ao = true then (if bt469.2 = true then ((spec_Same.f k am ag an ad ae 0 1 false ([] : List Int) ([] : List Int)).bind fun al => (if al = true then ((spec_Same.f k am ag an ad ae bt456.2.1 bt456.2.2.1 bt456.2.2.2.1 bt456.2.2.2.2.1 bt456.2.2.2.2.2).bind fun ak => (some (!ak))) else (some false))) else (some false)) else (some false))) else (some false))) else (some false))) else (some false)) else (some false)) else (some false)))) else (some false))) else (some false)))) = some r := rp_ hy450 H
 have Ny450 := Aside0.mk hy450
 clear hy450
 obtain ⟨bc, hy453⟩ : ∃ y_ : List Int, y_ = (([3, 2] : List Int)) := ⟨_, rfl⟩
 replace H : ((spec_Some.f k 0 30 aa 1 1 1 1 bb 4 0 bc).bind fun bt456 => ((spec_Legal.f k 0 30 aa 1 1 1 1 aw 2 2 ([] : List Int) 10 0 false ([] : List Int) ([] : List Int)).bind fun bt469 => (if bh = true then ((lodgerref03_Ints.f k aw (([2] : List Int))).bind fun aI => (if aI = true then (if bf = true then (some false) else ((lodgerref03_Ints.f k aW (([1, 2] : List Int))).bind fun aD => (if aD = true then (if ag = 1 then (if a2 = true then (if a3 = true then (some false) else (if ba = true then ((lodgerref03_Ints.f k bt456.1 (([1] : List Int))).bind fun aq => (if aq = true then ((lodgerref08_Errs.f k bt456.2.2.2.2.2 (([0, 6] : List Int))).bind fun ao => (if ao = true then (if bt469.2 = true then ((spec_Same.f k am ag an ad ae 0 1 false ([] : List Int) ([] : List Int)).bind fun al => (if al = true then ((spec_Same.f k am ag an ad ae bt456.2.1 bt456.2.2.1 bt456.2.2.2.1 bt456.2.2.2.2.1 bt456.2.2.2.2.2).bind fun ak => (some (!ak))) else (some false))) else (some false)) else (some false))) else (some false))) else (some false))) else (some false)) else (some false)) else (some false)))) else (some false))) else (some false)))) = some r := rp_ hy453 H
 have Ny453 := Aside0.mk hy453
 clear hy453
 replace H := bi_ H
 obtain ⟨⟨a4, aQ, aR, aS, aE, ap⟩, A70, H⟩ := H
 replace H : ((spec_Legal.f k 0 30 aa 1 1 1 1 aw 2 2 ([] : List Int) 10 0 false ([] : List Int) ([] : List Int)).bind fun bt469 => (if bh = true then ((lodgerref03_Ints.f k aw (([2] : List Int))).bind fun aI => (if aI = true then (if bf = true then (some false) else ((lodgerref03_Ints.f k aW (([1, 2] : List Int))).bind fun aD => (if aD = true then (if ag = 1 then (if a2 = true then (if a3 = true then (some false) else (if ba = true then ((lodgerref03_Ints.f k a4 (([1] : List Int))).bind fun aq => (if aq = true then ((lodgerref08_Errs.f k ap (([0, 6] : List Int))).bind fun ao => (if ao = true then (if bt469.2 = true then ((spec_Same.f k am ag an ad ae 0 1 false ([] : List Int) ([] : List Int)).bind fun al => (if al = true then ((spec_Same.f k am ag an ad ae aQ aR aS aE ap).bind fun ak => (some (!ak))) else (some false))) else (some false)) else (some false))) else (some false))) else (some false))) else (some false)) else (some false)) else (some false)))) else (some false))) else (some false))) = some r := H
 have A7 := Aside0.mk A70
 clear A70
 replace H := bi_ H
 obtain ⟨⟨fn, aX⟩, A80, H⟩ := H
 replace H : (if bh = true then ((lodgerref03_Ints.f k aw (([2] : List Int))).bind fun aI => (if aI = true then (if bf = true then (some false) else ((lodgerref03_Ints.f k aW (([1, 2] : List Int))).bind fun aD => (if aD = true then (if ag = 1 then (if a2 = true then (if a3 = true then (some false) else (if ba = true then ((lodgerref03_Ints.f k a4 (([1] : List Int))).bind fun aq => (if aq = true then ((lodgerref08_Errs.f k ap (([0, 6] : List Int))).bind fun ao => (if ao = true then (if aX = true then ((spec_Same.f k am ag an ad ae 0 1 false ([] : List Int) ([] : List Int)).bind fun al => (if al = true then ((spec_Same.f k am ag an ad ae aQ aR aS aE ap).bind fun ak => (some (!ak))) else (some false))) else (some false)) else (some false))) else (some false))) else (some false))) else (some false)) else (some false)) else (some false)))) else (some false))) else (some false)) = some r := H
 have A8 := Aside0.mk A80
 clear A80
 by_cases c9 : bh = true
 ·subst c9
  have H1 : ((lodgerref03_Ints.f k aw (([2] : List Int))).bind fun aI => (if aI = true then (if bf = true then (some false) else ((lodgerref03_Ints.f k aW (([1, 2] : List Int))).bind fun aD => (if aD = true then (if ag = 1 then (if a2 = true then (if a3 = true then (some false) else (if ba = true then ((lodgerref03_Ints.f k a4 (([1] : List Int))).bind fun aq => (if aq = true then ((lodgerref08_Errs.f k ap (([0, 6] : List Int))).bind fun ao => (if ao = true then (if aX = true then ((spec_Same.f k am ag an ad ae 0 1 false ([] : List Int) ([] : List Int)).bind fun al => (if al = true then ((spec_Same.f k am ag an ad ae aQ aR aS aE ap).bind fun ak => (some (!ak))) else (some false))) else (some false)) else (some false))) else (some false))) else (some false))) else (some false)) else (some false)) else (some false)))) else (some false))) = some r := pf_ rfl H
  clear H; have H := H1; clear H1; obtain ⟨bF, hy473⟩ : ∃ y_ : List Int, y_ = (([2] : List Int)) := ⟨_, rfl⟩
  replace H : ((lodgerref03_Ints.f k aw bF).bind fun aI => (if aI = true then (if bf = true then (some false) else ((lodgerref03_Ints.f k aW (([1, 2] : List Int))).bind fun aD => (if aD = true then (if ag = 1 then (if a2 = true then (if a3 = true then (some false) else (if ba = true then ((lodgerref03_Ints.f k a4 (([1] : List Int))).bind fun aq => (if aq = true then ((lodgerref08_Errs.f k ap (([0, 6] : List Int))).bind fun ao => (if ao = true then (if aX = true then ((spec_Same.f k am ag an ad ae 0 1 false ([] : List Int) ([] : List Int)).bind fun al => (if al = true then ((spec_Same.f k am ag an ad ae aQ aR aS aE ap).bind fun ak => (some (!ak))) else (some false))) else (some false)) else (some false))) else (some false))) else (some false))) else (some false)) else (some false)) else (some false)))) else (some false))) = some r := rp_ hy473 H
  have Ny473 := Aside0.mk hy473; clear hy473; replace H := bi_ H; obtain ⟨aI, A100, H⟩ := H
  replace H : (if aI = true then (if bf = true then (some false) else ((lodgerref03_Ints.f k aW (([1, 2] : List Int))).bind fun aD => (if aD = true then (if ag = 1 then (if a2 = true then (if a3 = true then (some false) else (if ba = true then ((lodgerref03_Ints.f k a4 (([1] : List Int))).bind fun aq => (if aq = true then ((lodgerref08_Errs.f k ap (([0, 6] : List Int))).bind fun ao => (if ao = true then (if aX = true then ((spec_Same.f k am ag an ad ae 0 1 false ([] : List Int) ([] : List Int)).bind fun al => (if al = true then ((spec_Same.f k am ag an ad ae aQ aR aS aE ap).bind fun ak => (some (!ak))) else (some false))) else (some false)) else (some false))) else (some false))) else (some false))) else (some false)) else (some false)) else (some false)))) else (some false)) = some r := H
  have A10 := Aside0.mk A100; clear A100
  by_cases c11 : aI = true
  ·subst c11
   have H1 : (if bf = true then (some false) else ((lodgerref03_Ints.f k aW (([1, 2] : List Int))).bind fun aD => (if aD = true then (if ag = 1 then (if a2 = true then (if a3 = true then (some false) else (if ba = true then ((lodgerref03_Ints.f k a4 (([1] : List Int))).bind fun aq => (if aq = true then ((lodgerref08_Errs.f k ap (([0, 6] : List Int))).bind fun ao => (if ao = true then (if aX = true then ((spec_Same.f k am ag an ad ae 0 1 false ([] : List Int) ([] : List Int)).bind fun al => (if al = true then ((spec_Same.f k am ag an ad ae aQ aR aS aE ap).bind fun ak => (some (!ak))) else (some false))) else (some false)) else (some false))) else (some false))) else (some false))) else (some false)) else (some false)) else (some false)))) = some r := pf_ rfl H
   clear H; have H := H1; clear H1
   by_cases c12 : bf = true
   ·subst c12
    have H1 : (some false) = some r := pf_ rfl H
    rw [hr_.out] at H1
    exact absurd (Option.some.inj H1) (by decide)
   ·replace c12 := Bool.eq_false_iff.mpr c12
    subst c12
    have H1 : ((lodgerref03_Ints.f k aW (([1, 2] : List Int))).bind fun aD => (if aD = true then (if ag = 1 then (if a2 = true then (if a3 = true then (some false) else (if ba = true then ((lodgerref03_Ints.f k a4 (([1] : List Int))).bind fun aq => (if aq = true then ((lodgerref08_Errs.f k ap (([0, 6] : List Int))).bind fun ao => (if ao = true then (if aX = true then ((spec_Same.f k am ag an ad ae 0 1 false ([] : List Int) ([] : List Int)).bind fun al => (if al = true then ((spec_Same.f k am ag an ad ae aQ aR aS aE ap).bind fun ak => (some (!ak))) else (some false))) else (some false)) else (some false))) else (some false))) else (some false))) else (some false)) else (some false)) else (some false))) = some r := nf_ H
    clear H; have H := H1; clear H1; obtain ⟨bG, hy477⟩ : ∃ y_ : List Int, y_ = (([1, 2] : List Int)) := ⟨_, rfl⟩
    replace H : ((lodgerref03_Ints.f k aW bG).bind fun aD => (if aD = true then (if ag = 1 then (if a2 = true then (if a3 = true then (some false) else (if ba = true then ((lodgerref03_Ints.f k a4 (([1] : List Int))).bind fun aq => (if aq = true then ((lodgerref08_Errs.f k ap (([0, 6] : List Int))).bind fun ao => (if ao = true then (if aX = true then ((spec_Same.f k am ag an ad ae 0 1 false ([] : List Int) ([] : List Int)).bind fun al => (if al = true then ((spec_Same.f k am ag an ad ae aQ aR aS aE ap).bind fun ak => (some (!ak))) else (some false))) else (some false)) else (some false))) else (some false))) else (some false))) else (some false)) else (some false)) else (some false))) = some r := rp_ hy477 H
    have Ny477 := Aside0.mk hy477; clear hy477; replace H := bi_ H; obtain ⟨aD, A690, H⟩ := H
    replace H : (if aD = true then (if ag = 1 then (if a2 = true then (if a3 = true then (some false) else (if ba = true then ((lodgerref03_Ints.f k a4 (([1] : List Int))).bind fun aq => (if aq = true then ((lodgerref08_Errs.f k ap (([0, 6] : List Int))).bind fun ao => (if ao = true then (if aX = true then ((spec_Same.f k am ag an ad ae 0 1 false ([] : List Int) ([] : List Int)).bind fun al => (if al = true then ((spec_Same.f k am ag an ad ae aQ aR aS aE ap).bind fun ak => (some (!ak))) else (some false))) else (some false)) else (some false))) else (some false))) else (some false))) else (some false)) else (some false)) else (some false)) = some r := H
    have A69 := Aside0.mk A690; clear A690
    by_cases c70 : aD = true
    ·subst c70
     have H1 : (if ag = 1 then (if a2 = true then (if a3 = true then (some false) else (if ba = true then ((lodgerref03_Ints.f k a4 (([1] : List Int))).bind fun aq => (if aq = true then ((lodgerref08_Errs.f k ap (([0, 6] : List Int))).bind fun ao => (if ao = true then (if aX = true then ((spec_Same.f k am ag an ad ae 0 1 false ([] : List Int) ([] : List Int)).bind fun al => (if al = true then ((spec_Same.f k am ag an ad ae aQ aR aS aE ap).bind fun ak => (some (!ak))) else (some false))) else (some false)) else (some false))) else (some false))) else (some false))) else (some false)) else (some false)) = some r := pf_ rfl H
     clear H; have H := H1; clear H1
     by_cases c71 : ag = 1
     ·rw [if_pos c71] at H
      have fP : (ag == 1) = true := beq_iff_eq.mpr c71
      have fQ : (ag != 1) = false := bne_eq_false_iff_eq.mpr c71
      clear c71
      by_cases c72 : a2 = true
      ·subst c72
       have H1 : (if a3 = true then (some false) else (if ba = true then ((lodgerref03_Ints.f k a4 (([1] : List Int))).bind fun aq => (if aq = true then ((lodgerref08_Errs.f k ap (([0, 6] : List Int))).bind fun ao => (if ao = true then (if aX = true then ((spec_Same.f k am ag an ad ae 0 1 false ([] : List Int) ([] : List Int)).bind fun al => (if al = true then ((spec_Same.f k am ag an ad ae aQ aR aS aE ap).bind fun ak => (some (!ak))) else (some false))) else (some false)) else (some false))) else (some false))) else (some false))) = some r := pf_ rfl H
       clear H; have H := H1; clear H1
       by_cases c73 : a3 = true
       ·subst c73
        have H1 : (some false) = some r := pf_ rfl H
        rw [hr_.out] at H1
        exact absurd (Option.some.inj H1) (by decide)
       ·replace c73 := Bool.eq_false_iff.mpr c73
        subst c73
        have H1 : (if ba = true then ((lodgerref03_Ints.f k a4 (([1] : List Int))).bind fun aq => (if aq = true then ((lodgerref08_Errs.f k ap (([0, 6] : List Int))).bind fun ao => (if ao = true then (if aX = true then ((spec_Same.f k am ag an ad ae 0 1 false ([] : List Int) ([] : List Int)).bind fun al => (if al = true then ((spec_Same.f k am ag an ad ae aQ aR aS aE ap).bind fun ak => (some (!ak))) else (some false))) else (some false)) else (some false))) else (some false))) else (some false)) = some r := nf_ H
        clear H; have H := H1; clear H1
        by_cases c135 : ba = true
        ·subst c135
         have H1 : ((lodgerref03_Ints.f k a4 (([1] : List Int))).bind fun aq => (if aq = true then ((lodgerref08_Errs.f k ap (([0, 6] : List Int))).bind fun ao => (if ao = true then (if aX = true then ((spec_Same.f k am ag an ad ae 0 1 false ([] : List Int) ([] : List Int)).bind fun al => (if al = true then ((spec_Same.f k am ag an ad ae aQ aR aS aE ap).bind fun ak => (some (!ak))) else (some false))) else (some false)) else (some false))) else (some false))) = some r := pf_ rfl H
         clear H; have H := H1; clear H1; obtain ⟨bH, hy481⟩ : ∃ y_ : List Int, y_ = (([1] : List Int)) := ⟨_, rfl⟩
         replace H : ((lodgerref03_Ints.f k a4 bH).bind fun aq => (if aq = true then ((lodgerref08_Errs.f k ap (([0, 6] : List Int))).bind fun ao => (if ao = true then (if aX = true then ((spec_Same.f k am ag an ad ae 0 1 false ([] : List Int) ([] : List Int)).bind fun al => (if al = true then ((spec_Same.f k am ag an ad ae aQ aR aS aE ap).bind fun ak => (some (!ak))) else (some false))) else (some false)) else (some false))) else (some false))) = some r := rp_ hy481 H
         have Ny481 := Aside0.mk hy481; clear hy481; replace H := bi_ H; obtain ⟨aq, A1360, H⟩ := H
         replace H : (if aq = true then ((lodgerref08_Errs.f k ap (([0, 6] : List Int))).bind fun ao => (if ao = true then (if aX = true then ((spec_Same.f k am ag an ad ae 0 1 false ([] : List Int) ([] : List Int)).bind fun al => (if al = true then ((spec_Same.f k am ag an ad ae aQ aR aS aE ap).bind fun ak => (some (!ak))) else (some false))) else (some false)) else (some false))) else (some false)) = some r := H
         have A136 := Aside0.mk A1360; clear A1360
         by_cases c137 : aq = true
         ·subst c137
          have H1 : ((lodgerref08_Errs.f k ap (([0, 6] : List Int))).bind fun ao => (if ao = true then (if aX = true then ((spec_Same.f k am ag an ad ae 0 1 false ([] : List Int) ([] : List Int)).bind fun al => (if al = true then ((spec_Same.f k am ag an ad ae aQ aR aS aE ap).bind fun ak => (some (!ak))) else (some false))) else (some false)) else (some false))) = some r := pf_ rfl H
          clear H; have H := H1; clear H1; obtain ⟨bI, hy485⟩ : ∃ y_ : List Int, y_ = (([0, 6] : List Int)) := ⟨_, rfl⟩
          replace H : ((lodgerref08_Errs.f k ap bI).bind fun ao => (if ao = true then (if aX = true then ((spec_Same.f k am ag an ad ae 0 1 false ([] : List Int) ([] : List Int)).bind fun al => (if al = true then ((spec_Same.f k am ag an ad ae aQ aR aS aE ap).bind fun ak => (some (!ak))) else (some false))) else (some false)) else (some false))) = some r := rp_ hy485 H
          have Ny485 := Aside0.mk hy485; clear hy485; replace H := bi_ H; obtain ⟨ao, A1380, H⟩ := H
          replace H : (if ao = true then (if aX = true then ((spec_Same.f k am ag an ad ae 0 1 false ([] : List Int) ([] : List Int)).bind fun al => (if al = true then ((spec_Same.f k am ag an ad ae aQ aR aS aE ap).bind fun ak => (some (!ak))) else (some false))) else (some false)) else (some false)) = some r := H
          have A138 := Aside0.mk A1380; clear A1380
          by_cases c139 : ao = true
          ·subst c139
           have H1 : (if aX = true then ((spec_Same.f k am ag an ad ae 0 1 false ([] : List Int) ([] : List Int)).bind fun al => (if al = true then ((spec_Same.f k am ag an ad ae aQ aR aS aE ap).bind fun ak => (some (!ak))) else (some false))) else (some false)) = some r := pf_ rfl H
           clear H; have H := H1; clear H1
           by_cases c140 : aX = true
           ·subst c140
            have H1 : ((spec_Same.f k am ag an ad ae 0 1 false ([] : List Int) ([] : List Int)).bind fun al => (if al = true then ((spec_Same.f k am ag an ad ae aQ aR aS aE ap).bind fun ak => (some (!ak))) else (some false))) = some r := pf_ rfl H
            clear H; have H := H1; clear H1; replace H := bi_ H; obtain ⟨al, A1410, H⟩ := H
            replace H : (if al = true then ((spec_Same.f k am ag an ad ae aQ aR aS aE ap).bind fun ak => (some (!ak))) else (some false)) = some r := H
            have A141 := Aside0.mk A1410; clear A1410
            by_cases c142 : al = true
            ·subst c142
             have H1 : ((spec_Same.f k am ag an ad ae aQ aR aS aE ap).bind fun ak => (some (!ak))) = some r := pf_ rfl H
             clear H; have H := H1; clear H1; replace H := bi_ H; obtain ⟨ak, A1430, H⟩ := H
             replace H : (some (!ak)) = some r := H
             have A143 := Aside0.mk A1430; clear A1430
             first | (exfalso; rw [hr_.out] at H; exact absurd (Option.some.inj H) (by decide)) | (try clear hr_)
             all_goals
              obtain rfl := Option.some.inj H
              go_enter Tryd.func9, Tryd.ntmps9
              go_wp2_with (first | ((with_reducible refine gd_ 20 ?_); (try (refine gate_guard (by rfl) ?_; dsimp only)); refine Kd.R_lit (Kd.int .i64) _ 3 ?hg (N := 20) ?hd (xs := ([0] : List Int)) (inner := [.int .i64 0]) (ok := fun _ => True) (okp := fun _ => True) ?hr ?hp (fun _ hk => hk) trivial (Below.refl _ _) (Nat.le_refl _) (by simp) ?_; (case hd => rfl); (case hg => rfl); (case hr => first | (go_simp; done) | (go_simp; rfl)); (case hp => exact (Reps.one (show Kd.M (Kd.int .i64) _ _ _ 0 [.int .i64 0] from rfl) (Reps.none _ _))); intro v410 w144 ho145 hb hg_ hnew_; clear hg_ hnew_; (first | rw [← Ny409.out] at ho145 | (simp only [Int.reduceToNat] at ho145; rw [← Ny409.out] at ho145)); have ac := Aside0.mk (Kd.R_lower ho145 (below_size (hB_ HB))); replace HB := hS_ HB hb; clear hb ho145; obtain ⟨ar, au, eo146⟩ := Kd.R_slice ac.out; subst eo146) | ((with_reducible refine gd_ 1 ?_); (try (refine gate_guard (by rfl) ?_; dsimp only)); refine box_event ?hg (N := 1) ?hd (cs := #[.int .u32 0, .int .i64 0, .slice none 0 0, .int .i64 0, .int .i64 0, .int .i64 0, .int .i64 0]) (t := 27) ?hr ?_; (case hd => rfl); (case hg => rfl); (case hr => first | (go_simp; done) | (go_simp; rfl)); intro aB hg w147 hbox hb; replace ac := rB_ ac hb; have ab := Aside0.mk (hbox); have fK := gG_ hg HB; have fG := gG_ hg HB; replace HB := hS_ HB hb; clear hb hbox hg; obtain ⟨bJ, bK, bL, bM, bN, bO, bP, dz, dA, dB, dC, dD, dE, dF⟩ := cz7_ (w := w147) ab) | ((with_reducible refine gd_ 2 ?_); (try (refine gate_guard (by rfl) ?_; dsimp only)); refine box_event ?hg (N := 2) ?hd (cs := #[.int .i64 0, .int .u32 0, .slice none 0 0]) (t := 30) ?hr ?_; (case hd => rfl); (case hg => rfl); (case hr => first | (go_simp; done) | (go_simp; rfl)); intro aC hg w149 hbox hb; replace ac := Aside0.mk (Kd.R_below (by (with_reducible repeat (first | apply Kd.R_alloc | apply Kd.R_drewN | apply Kd.R_drew)); exact (Kd.R_mono (rF7_ (g := aB) (Kd.R_types ac.out ab.out (by decide)) (fun _ hk => hk.2)) (fun _ h_ => h_.1))) hb); have af := Aside0.mk (hbox); have fL := gG_ hg HB; have fH := gG_ hg HB; have bl := Aside0.mk ((by rw [hg]; exact Nat.ne_of_lt (blk_lt (g := aB) (o := .cells #[.int .u32 0, .int .i64 30, .slice ar aa.length au, .int .i64 1, .int .i64 1, .int .i64 1, .int .i64 1] 27 (0, 0)) (by refine bp_ ?_; apply bS7_; refine bp_ ?_; exact ab.out)) : aB ≠ aC)); have bu := Aside0.mk ((by rw [hg]; exact Nat.ne_of_gt (blk_lt (g := aB) (o := .cells #[.int .u32 0, .int .i64 30, .slice ar aa.length au, .int .i64 1, .int .i64 1, .int .i64 1, .int .i64 1] 27 (0, 0)) (by refine bp_ ?_; apply bS7_; refine bp_ ?_; exact ab.out)) : aC ≠ aB)); replace ab := Aside0.mk (blk_below (g := aB) (o := .cells #[.int .u32 0, .int .i64 30, .slice ar aa.length au, .int .i64 1, .int .i64 1, .int .i64 1, .int .i64 1] 27 (0, 0)) (by refine bp_ ?_; apply bS7_; refine bp_ ?_; exact ab.out) hb); replace HB := hS_ HB hb; clear hb hbox hg; have fo := bu.out; have fu := bl.out; obtain ⟨bQ, bR, bS, dG, dH, dI⟩ := cz3_ (w := w149) af) | ((with_reducible refine gate_store (t := 30) (p := 2) rfl ?_); refine store_event (t := 30) (p := 2) (v := ?vo_w152) (w1 := (((w149.setCell ⟨aC, 0, none⟩ (.int .i64 2)).setCell ⟨aC, 1, none⟩ (.int .u32 2)).setCell ⟨aC, 2, none⟩ (.slice none 0 0))) ?hg ?ho ?hn ?hr ?_; (case ho => rfl); (case hg => rfl); (case hn => rfl); (case hr => first | (go_simp; done) | (go_simp; rfl)); intro w152 hw; have n0_ : Aside0 (Kd.R (Kd.int .i64) 3 w152 w.heap.size (fun _ => True) (.slice ar aa.length au) aa) := ⟨(by rw [hw]; exact (by (with_reducible repeat (first | apply Kd.R_alloc | apply Kd.R_drewN | apply Kd.R_drew)); exact Kd.R_mono (rF3_ (g := aC) (Kd.R_types ac.out af.out (by decide)) (fun _ hk => hk.2)) (fun _ hk => trivial)))⟩; have n1_ : Aside0 (w152.heap[aB]? = some (.cells #[.int .u32 0, .int .i64 30, .slice ar aa.length au, .int .i64 1, .int .i64 1, .int .i64 1, .int .i64 1] 27 (0, 0))) := ⟨(by rw [hw]; exact (by refine bp_ ?_; refine bF3_ ?_ bl.out; refine bp_ ?_; exact ab.out))⟩; have n2_ : Aside0 (w152.heap[aC]? = some (.cells #[.int .i64 2, .int .u32 2, .slice none 0 0] 30 (0, 0))) := ⟨(by rw [hw]; exact (by refine bp_ ?_; apply bS3_; refine bp_ ?_; exact af.out))⟩; have n3_ : Aside0 (Below w.heap.size w w152) := ⟨(by rw [hw]; exact (hB_ HB))⟩; clear hw ac ab af HB; have ac := n0_; have ab := n1_; have af := n2_; have HB := n3_; clear n0_ n1_ n2_ n3_; obtain ⟨bT, bU, bV, bW, bX, bY, bZ, dJ, dK, dL, dM, dN, dO, dP⟩ := cz7_ (w := w152) ab; obtain ⟨b0, b1, b2, dQ, dR, dS⟩ := cz3_ (w := w152) af) | ((with_reducible refine gate_callee (f := 13) rfl ?_); refine gL_ (some 27) Tryd.func13 #[.agg #[.int .u32 0, .int .i64 30, .slice ar aa.length au, .int .i64 1, .int .i64 1, .int .i64 1, .int .i64 1], .slice none 0 0, .agg #[.int .i64 2, .int .u32 2, .slice none 0 0], .agg #[.int .i64 0, .int .u32 2, .bool false, .slice none 0 0, .slice none 0 0]] ?_; (refine (spec_Legal.calls k 0 30 _ _ aa 1 1 1 1 (fun k_ => False) _ _ ([] : List Int) 2 2 _ _ ([] : List Int) 0 2 false _ _ ([] : List Int) _ _ ([] : List Int) aw true _ ?side1 ?side2 ?side3 ?side4 ?side5 ?side6 ?side7 ?side8 ?side9 ?side10 A1.out).mono ?_); (case side1 => exact cD_ (Kd.R_reads' ac.out).2.2); (case side2 => exact (Kd.R_reads' ac.out).2.1); (case side3 => exact Kd.V_nil _ _ _ _ _); (case side4 => exact Kd.C_nil _ _); (case side5 => exact Nat.le_refl _); (case side6 => exact Kd.C_nil _ _); (case side7 => exact Nat.le_refl _); (case side8 => exact Kd.C_nil _ _); (case side9 => exact Nat.le_refl _); (case side10 => exact Lg_below HG.out (hB_ HB)); rintro e w155 ⟨v415, rfl, ho0, hb⟩; refine ⟨_, rfl, ?_⟩; have av := Aside0.mk (Kd.V_lower (Kd.V_mono (ok' := fun k_ => some k_ ≠ (.slice ar aa.length au : Value).ownBlock ∧ k_ ≠ aB ∧ k_ ≠ aC) ho0 (fun k_ hk_ => ⟨Or.elim hk_ (fun hs_ => (hs_).elim) (fun hn_ => (Kd.fresh' (Kd.R_lt (rR_ ac)) k_ hn_)), Or.elim hk_ (fun hs_ => (hs_).elim) (fun hn_ => (fB_ ab k_ hn_)), Or.elim hk_ (fun hs_ => (hs_).elim) (fun hn_ => (fB_ af k_ hn_))⟩)) (below_size (hB_ HB))); replace ac := rB_ ac hb; replace af := bB_ af hb; replace ab := bB_ ab hb; replace HB := hS_ HB hb; (try clear hb); (try clear ho0); obtain ⟨b3, b4, b5, b6, b7, b8, b9, dT, dU, dV, dW, dX, dY, dZ⟩ := cz7_ (w := w155) ab; obtain ⟨ca, cb, cc, d0, d1, d2⟩ := cz3_ (w := w155) af; obtain ⟨bi, bk, eo158⟩ := Kd.V_slice av.out; subst eo158) | ((with_reducible refine gate_callee (f := 13) rfl ?_); refine gL_ (some 35) Tryd.func13 #[.agg #[.int .u32 0, .int .i64 30, .slice ar aa.length au, .int .i64 1, .int .i64 1, .int .i64 1, .int .i64 1], .slice bi aw.length bk, .agg #[.int .i64 2, .int .u32 2, .slice none 0 0], .agg #[.int .i64 0, .int .u32 2, .bool false, .slice none 0 0, .slice none 0 0]] ?_; (refine (spec_Legal.calls k 0 30 _ _ aa 1 1 1 1 (fun k_ => (some k_ ≠ (.slice ar aa.length au : Value).ownBlock ∧ (k_ ≠ aB ∧ k_ ≠ aC))) _ _ aw 2 2 _ _ ([] : List Int) 0 2 false _ _ ([] : List Int) _ _ ([] : List Int) bB false _ ?side1 ?side2 ?side3 ?side4 ?side5 ?side6 ?side7 ?side8 ?side9 ?side10 A2.out).mono ?_); (case side1 => exact cD_ (Kd.R_reads' ac.out).2.2); (case side2 => exact (Kd.R_reads' ac.out).2.1); (case side3 => exact av.out); (case side4 => exact Kd.C_nil _ _); (case side5 => exact Nat.le_refl _); (case side6 => exact Kd.C_nil _ _); (case side7 => exact Nat.le_refl _); (case side8 => exact Kd.C_nil _ _); (case side9 => exact Nat.le_refl _); (case side10 => exact Lg_below HG.out (hB_ HB)); rintro e w159 ⟨v419, rfl, ho0, hb⟩; refine ⟨_, rfl, ?_⟩; replace av := vB_ av hb; have aH := Aside0.mk (Kd.V_lower (Kd.V_mono (ok' := fun k_ => some k_ ≠ (.slice ar aa.length au : Value).ownBlock ∧ k_ ≠ aB ∧ k_ ≠ aC) ho0 (fun k_ hk_ => ⟨Or.elim hk_ (fun hs_ => hs_.1) (fun hn_ => (Kd.fresh' (Kd.R_lt (rR_ ac)) k_ hn_)), Or.elim hk_ (fun hs_ => hs_.2.1) (fun hn_ => (fB_ ab k_ hn_)), Or.elim hk_ (fun hs_ => hs_.2.2) (fun hn_ => (fB_ af k_ hn_))⟩)) (below_size (hB_ HB))); replace ac := rB_ ac hb; replace af := bB_ af hb; replace ab := bB_ ab hb; replace HB := hS_ HB hb; (try clear hb); (try clear ho0); obtain ⟨cd, ce, cf, cg, ch, ci, cj, d3, d4, d5, d6, d7, d8, d9⟩ := cz7_ (w := w159) ab) | ((with_reducible refine gate_callee (f := 15) rfl ?_); refine gL_ (some 42) Tryd.func15 #[.agg #[.int .u32 0, .int .i64 30, .slice ar aa.length au, .int .i64 1, .int .i64 1, .int .i64 1, .int .i64 1], .slice bi aw.length bk, .agg #[.int .i64 1, .int .u32 0, .slice none 0 0]] ?_; (refine (spec_Some.calls k 0 30 _ _ aa 1 1 1 1 (fun k_ => (some k_ ≠ (.slice ar aa.length au : Value).ownBlock ∧ (k_ ≠ aB ∧ k_ ≠ aC))) _ _ aw 1 0 _ _ ([] : List Int) aW am ag an ad ae _ ?side1 ?side2 ?side3 ?side4 ?side5 ?side6 A3.out).mono ?_); (case side1 => exact cD_ (Kd.R_reads' ac.out).2.2); (case side2 => exact (Kd.R_reads' ac.out).2.1); (case side3 => exact av.out); (case side4 => exact Kd.C_nil _ _); (case side5 => exact Nat.le_refl _); (case side6 => exact Lg_below HG.out (hB_ HB)); rintro e w161 ⟨v423, v429, v432, rfl, ho0, ho1, ho2, hb⟩; refine ⟨_, rfl, ?_⟩; replace av := Aside0.mk (Kd.V_mono (Kd.V_told (Kd.V_told (Kd.V_old (vV_ av) hb) (Kd.R_base ho1)) (Kd.R_base ho2)) (fun _ h_ => h_.1)); replace aH := Aside0.mk (Kd.V_mono (Kd.V_told (Kd.V_told (Kd.V_old (vV_ aH) hb) (Kd.R_base ho1)) (Kd.R_base ho2)) (fun _ h_ => h_.1)); have az := Aside0.mk (Kd.V_lower (Kd.V_mono (ok' := fun k_ => some k_ ≠ (v429 : Value).ownBlock ∧ some k_ ≠ (v432 : Value).ownBlock ∧ some k_ ≠ (.slice ar aa.length au : Value).ownBlock ∧ k_ ≠ aB ∧ k_ ≠ aC) ho0 (fun k_ hk_ => ⟨hk_.2.1, hk_.2.2, Or.elim hk_.1 (fun hs_ => hs_.1) (fun hn_ => (Kd.fresh' (Kd.R_lt (rR_ ac)) k_ hn_)), Or.elim hk_.1 (fun hs_ => hs_.2.1) (fun hn_ => (fB_ ab k_ hn_)), Or.elim hk_.1 (fun hs_ => hs_.2.2) (fun hn_ => (fB_ af k_ hn_))⟩)) (below_size (hB_ HB))); replace ac := rB_ ac hb; have ai := Aside0.mk (Kd.R_lower (Kd.R_mono (ok' := fun k_ => True) ho1 (fun _ hk_ => trivial)) (below_size (hB_ HB))); have aj := Aside0.mk (Kd.R_lower (Kd.R_mono (ok' := fun k_ => True) ho2 (fun _ hk_ => trivial)) (below_size (hB_ HB))); replace af := bB_ af hb; replace ab := bB_ ab hb; replace HB := hS_ HB hb; (try clear hb); (try clear ho0); (try clear ho1); (try clear ho2)) | ((with_reducible refine gd_ 8 ?_); (try (refine gate_guard (by rfl) ?_; dsimp only)); refine box_event ?hg (N := 8) ?hd (cs := #[.int .i64 0, .int .u32 0, .bool false, .slice none 0 0, .slice none 0 0]) (t := 34) ?hr ?_; (case hd => rfl); (case hg => rfl); (case hr => first | (go_simp; done) | (go_simp; rfl)); intro ay hg w162 hbox hb; replace ac := rB_ ac hb; replace av := vE_ av hg hb; replace aH := vE_ aH hg hb; replace az := vE_ az hg hb; replace ai := rB_ ai hb; replace aj := rB_ aj hb; have ah := Aside0.mk (hbox); have fM := gG_ hg HB; have fI := gG_ hg HB; have bm := nL_ hg ab; have bv := nG_ hg ab; have bo := nL_ hg af; have bw := nG_ hg af; replace af := bB_ af hb; replace ab := bB_ ab hb; replace HB := hS_ HB hb; clear hb hbox hg; have fp := bv.out; have fv := bm.out; have fq := bw.out; have fw := bo.out; obtain ⟨ck, cl, cm, cn, co, ea, eb, ec, ed, ee⟩ := cz5_ (w := w162) ah; obtain ⟨aJ, aK, eo166⟩ := Kd.R_slice ai.out; subst eo166; obtain ⟨aL, aN, eo167⟩ := Kd.R_slice aj.out; subst eo167) | ((with_reducible refine gate_store (t := 34) (p := 8) rfl ?_); refine store_event (t := 34) (p := 8) (v := ?vo_w168) (w1 := (((((w162.setCell ⟨ay, 0, none⟩ (.int .i64 am)).setCell ⟨ay, 1, none⟩ (.int .u32 ag)).setCell ⟨ay, 2, none⟩ (.bool an)).setCell ⟨ay, 3, none⟩ (.slice aJ ad.length aK)).setCell ⟨ay, 4, none⟩ (.slice aL ae.length aN))) ?hg ?ho ?hn ?hr ?_; (case ho => rfl); (case hg => rfl); (case hn => rfl); (case hr => first | (go_simp; done) | (go_simp; rfl)); intro w168 hw; have n0_ : Aside0 (Kd.R (Kd.int .i64) 3 w168 w.heap.size (fun _ => True) (.slice ar aa.length au) aa) := ⟨(by rw [hw]; exact (by (with_reducible repeat (first | apply Kd.R_alloc | apply Kd.R_drewN | apply Kd.R_drew)); exact Kd.R_mono (rF5_ (g := ay) (Kd.R_types ac.out ah.out (by decide)) (fun _ hk => hk.2)) (fun _ hk => trivial)))⟩; have n1_ : Aside0 (Kd.V (Kd.int .i64) 3 w168 w.heap.size (fun k_ => some k_ ≠ (.slice ar aa.length au : Value).ownBlock ∧ some k_ ≠ (.slice aJ ad.length aK : Value).ownBlock ∧ some k_ ≠ (.slice aL ae.length aN : Value).ownBlock ∧ k_ ≠ aB ∧ k_ ≠ aC ∧ k_ ≠ ay) (.slice bi aw.length bk) aw) := ⟨(by rw [hw]; exact (by (with_reducible repeat (first | apply Kd.V_alloc | apply Kd.V_drewN | apply Kd.V_drew)); exact Kd.V_mono (vF5_ (g := ay) (Kd.V_mono av.out (fun k_ hk => (⟨hk, hk.2⟩ : _ ∧ k_ ≠ ay))) (fun _ hk => hk.2)) (fun _ hk => ⟨hk.1.1.1.1.1, ⟨hk.1.1.1.2, ⟨hk.1.1.2, ⟨hk.1.1.1.1.2.1, ⟨hk.1.1.1.1.2.2, hk.1.2⟩⟩⟩⟩⟩)))⟩; have n2_ : Aside0 (Kd.V (Kd.int .i64) 3 w168 w.heap.size (fun k_ => some k_ ≠ (.slice ar aa.length au : Value).ownBlock ∧ some k_ ≠ (.slice aJ ad.length aK : Value).ownBlock ∧ some k_ ≠ (.slice aL ae.length aN : Value).ownBlock ∧ k_ ≠ aB ∧ k_ ≠ aC ∧ k_ ≠ ay) v419 bB) := ⟨(by rw [hw]; exact (by (with_reducible repeat (first | apply Kd.V_alloc | apply Kd.V_drewN | apply Kd.V_drew)); exact Kd.V_mono (vF5_ (g := ay) (Kd.V_mono aH.out (fun k_ hk => (⟨hk, hk.2⟩ : _ ∧ k_ ≠ ay))) (fun _ hk => hk.2)) (fun _ hk => ⟨hk.1.1.1.1.1, ⟨hk.1.1.1.2, ⟨hk.1.1.2, ⟨hk.1.1.1.1.2.1, ⟨hk.1.1.1.1.2.2, hk.1.2⟩⟩⟩⟩⟩)))⟩; have n3_ : Aside0 (Kd.V (Kd.int .i64) 3 w168 w.heap.size (fun k_ => some k_ ≠ (.slice ar aa.length au : Value).ownBlock ∧ some k_ ≠ (.slice aJ ad.length aK : Value).ownBlock ∧ some k_ ≠ (.slice aL ae.length aN : Value).ownBlock ∧ k_ ≠ aB ∧ k_ ≠ aC ∧ k_ ≠ ay) v423 aW) := ⟨(by rw [hw]; exact (by (with_reducible repeat (first | apply Kd.V_alloc | apply Kd.V_drewN | apply Kd.V_drew)); exact Kd.V_mono (vF5_ (g := ay) (Kd.V_mono az.out (fun k_ hk => (⟨hk, hk.2⟩ : _ ∧ k_ ≠ ay))) (fun _ hk => hk.2)) (fun _ hk => ⟨hk.1.1.2.2.1, ⟨hk.1.1.1, ⟨hk.1.1.2.1, ⟨hk.1.1.2.2.2.1, ⟨hk.1.1.2.2.2.2, hk.1.2⟩⟩⟩⟩⟩)))⟩; have n4_ : Aside0 (Kd.R (Kd.int .u32) 22 w168 w.heap.size (fun _ => True) (.slice aJ ad.length aK) ad) := ⟨(by rw [hw]; exact (by (with_reducible repeat (first | apply Kd.R_alloc | apply Kd.R_drewN | apply Kd.R_drew)); exact Kd.R_mono (rF5_ (g := ay) (Kd.R_types ai.out ah.out (by decide)) (fun _ hk => hk.2)) (fun _ hk => trivial)))⟩; have n5_ : Aside0 (Kd.R (Kd.int .i64) 31 w168 w.heap.size (fun _ => True) (.slice aL ae.length aN) ae) := ⟨(by rw [hw]; exact (by (with_reducible repeat (first | apply Kd.R_alloc | apply Kd.R_drewN | apply Kd.R_drew)); exact Kd.R_mono (rF5_ (g := ay) (Kd.R_types aj.out ah.out (by decide)) (fun _ hk => hk.2)) (fun _ hk => trivial)))⟩; have n6_ : Aside0 (w168.heap[aB]? = some (.cells #[.int .u32 0, .int .i64 30, .slice ar aa.length au, .int .i64 1, .int .i64 1, .int .i64 1, .int .i64 1] 27 (0, 0))) := ⟨(by rw [hw]; exact (by refine bp_ ?_; refine bF5_ ?_ bm.out; refine bp_ ?_; exact ab.out))⟩; have n7_ : Aside0 (w168.heap[aC]? = some (.cells #[.int .i64 2, .int .u32 2, .slice none 0 0] 30 (0, 0))) := ⟨(by rw [hw]; exact (by refine bp_ ?_; refine bF5_ ?_ bo.out; refine bp_ ?_; exact af.out))⟩; have n8_ : Aside0 (w168.heap[ay]? = some (.cells #[.int .i64 am, .int .u32 ag, .bool an, .slice aJ ad.length aK, .slice aL ae.length aN] 34 (0, 0))) := ⟨(by rw [hw]; exact (by refine bp_ ?_; apply bS5_; refine bp_ ?_; exact ah.out))⟩; have n9_ : Aside0 (Below w.heap.size w w168) := ⟨(by rw [hw]; exact (hB_ HB))⟩; clear hw ac av aH az ai aj ab af ah HB; have ac := n0_; have av := n1_; have aH := n2_; have az := n3_; have ai := n4_; have aj := n5_; have ab := n6_; have af := n7_; have ah := n8_; have HB := n9_; clear n0_ n1_ n2_ n3_ n4_ n5_ n6_ n7_ n8_ n9_; obtain ⟨cp, cq, cr, ct, cu, cv, cw, ef, eg, eh, ei, ej, ek, el⟩ := cz7_ (w := w168) ab) | ((with_reducible refine gate_callee (f := 13) rfl ?_); refine gL_ (some 50) Tryd.func13 #[.agg #[.int .u32 0, .int .i64 30, .slice ar aa.length au, .int .i64 1, .int .i64 1, .int .i64 1, .int .i64 1], .slice bi aw.length bk, .agg #[.int .i64 1, .int .u32 0, .slice none 0 0], .agg #[.int .i64 0, .int .u32 3, .bool false, .slice none 0 0, .slice none 0 0]] ?_; (refine (spec_Legal.calls k 0 30 _ _ aa 1 1 1 1 (fun k_ => (some k_ ≠ (.slice ar aa.length au : Value).ownBlock ∧ (some k_ ≠ (.slice aJ ad.length aK : Value).ownBlock ∧ (some k_ ≠ (.slice aL ae.length aN : Value).ownBlock ∧ (k_ ≠ aB ∧ (k_ ≠ aC ∧ k_ ≠ ay)))))) _ _ aw 1 0 _ _ ([] : List Int) 0 3 false _ _ ([] : List Int) _ _ ([] : List Int) bC true _ ?side1 ?side2 ?side3 ?side4 ?side5 ?side6 ?side7 ?side8 ?side9 ?side10 A4.out).mono ?_); (case side1 => exact cD_ (Kd.R_reads' ac.out).2.2); (case side2 => exact (Kd.R_reads' ac.out).2.1); (case side3 => exact av.out); (case side4 => exact Kd.C_nil _ _); (case side5 => exact Nat.le_refl _); (case side6 => exact Kd.C_nil _ _); (case side7 => exact Nat.le_refl _); (case side8 => exact Kd.C_nil _ _); (case side9 => exact Nat.le_refl _); (case side10 => exact Lg_below HG.out (hB_ HB)); rintro e w170 ⟨v436, rfl, ho0, hb⟩; refine ⟨_, rfl, ?_⟩; replace av := vB_ av hb; replace aH := vB_ aH hb; replace az := vB_ az hb; have aT := Aside0.mk (Kd.V_lower (Kd.V_mono (ok' := fun k_ => some k_ ≠ (.slice ar aa.length au : Value).ownBlock ∧ some k_ ≠ (.slice aJ ad.length aK : Value).ownBlock ∧ some k_ ≠ (.slice aL ae.length aN : Value).ownBlock ∧ k_ ≠ aB ∧ k_ ≠ aC ∧ k_ ≠ ay) ho0 (fun k_ hk_ => ⟨Or.elim hk_ (fun hs_ => hs_.1) (fun hn_ => (Kd.fresh' (Kd.R_lt (rR_ ac)) k_ hn_)), Or.elim hk_ (fun hs_ => hs_.2.1) (fun hn_ => (Kd.fresh' (Kd.R_lt (rR_ ai)) k_ hn_)), Or.elim hk_ (fun hs_ => hs_.2.2.1) (fun hn_ => (Kd.fresh' (Kd.R_lt (rR_ aj)) k_ hn_)), Or.elim hk_ (fun hs_ => hs_.2.2.2.1) (fun hn_ => (fB_ ab k_ hn_)), Or.elim hk_ (fun hs_ => hs_.2.2.2.2.1) (fun hn_ => (fB_ af k_ hn_)), Or.elim hk_ (fun hs_ => hs_.2.2.2.2.2) (fun hn_ => (fB_ ah k_ hn_))⟩)) (below_size (hB_ HB))); replace ac := rB_ ac hb; replace ai := rB_ ai hb; replace aj := rB_ aj hb; replace af := bB_ af hb; replace HB := hS_ HB hb; replace ab := bB_ ab hb; replace ah := bB_ ah hb; (try clear hb); (try clear ho0); obtain ⟨cx, cy, cz, cA, cB, cC, cD, em, en, eo, ep, er, et, eu⟩ := cz7_ (w := w170) ab) | ((with_reducible refine gate_callee (f := 13) rfl ?_); refine gL_ (some 58) Tryd.func13 #[.agg #[.int .u32 0, .int .i64 30, .slice ar aa.length au, .int .i64 1, .int .i64 1, .int .i64 1, .int .i64 1], .slice bi aw.length bk, .agg #[.int .i64 1, .int .u32 0, .slice none 0 0], .agg #[.int .i64 9, .int .u32 0, .bool false, .slice none 0 0, .slice none 0 0]] ?_; (refine (spec_Legal.calls k 0 30 _ _ aa 1 1 1 1 (fun k_ => (some k_ ≠ (.slice ar aa.length au : Value).ownBlock ∧ (some k_ ≠ (.slice aJ ad.length aK : Value).ownBlock ∧ (some k_ ≠ (.slice aL ae.length aN : Value).ownBlock ∧ (k_ ≠ aB ∧ (k_ ≠ aC ∧ k_ ≠ ay)))))) _ _ aw 1 0 _ _ ([] : List Int) 9 0 false _ _ ([] : List Int) _ _ ([] : List Int) bD false _ ?side1 ?side2 ?side3 ?side4 ?side5 ?side6 ?side7 ?side8 ?side9 ?side10 A5.out).mono ?_); (case side1 => exact cD_ (Kd.R_reads' ac.out).2.2); (case side2 => exact (Kd.R_reads' ac.out).2.1); (case side3 => exact av.out); (case side4 => exact Kd.C_nil _ _); (case side5 => exact Nat.le_refl _); (case side6 => exact Kd.C_nil _ _); (case side7 => exact Nat.le_refl _); (case side8 => exact Kd.C_nil _ _); (case side9 => exact Nat.le_refl _); (case side10 => exact Lg_below HG.out (hB_ HB)); rintro e w172 ⟨v440, rfl, ho0, hb⟩; refine ⟨_, rfl, ?_⟩; replace av := vB_ av hb; replace aH := vB_ aH hb; replace az := vB_ az hb; replace aT := vB_ aT hb; have aV := Aside0.mk (Kd.V_lower (Kd.V_mono (ok' := fun k_ => some k_ ≠ (.slice ar aa.length au : Value).ownBlock ∧ some k_ ≠ (.slice aJ ad.length aK : Value).ownBlock ∧ some k_ ≠ (.slice aL ae.length aN : Value).ownBlock ∧ k_ ≠ aB ∧ k_ ≠ aC ∧ k_ ≠ ay) ho0 (fun k_ hk_ => ⟨Or.elim hk_ (fun hs_ => hs_.1) (fun hn_ => (Kd.fresh' (Kd.R_lt (rR_ ac)) k_ hn_)), Or.elim hk_ (fun hs_ => hs_.2.1) (fun hn_ => (Kd.fresh' (Kd.R_lt (rR_ ai)) k_ hn_)), Or.elim hk_ (fun hs_ => hs_.2.2.1) (fun hn_ => (Kd.fresh' (Kd.R_lt (rR_ aj)) k_ hn_)), Or.elim hk_ (fun hs_ => hs_.2.2.2.1) (fun hn_ => (fB_ ab k_ hn_)), Or.elim hk_ (fun hs_ => hs_.2.2.2.2.1) (fun hn_ => (fB_ af k_ hn_)), Or.elim hk_ (fun hs_ => hs_.2.2.2.2.2) (fun hn_ => (fB_ ah k_ hn_))⟩)) (below_size (hB_ HB))); replace ac := rB_ ac hb; replace ai := rB_ ai hb; replace aj := rB_ aj hb; replace af := bB_ af hb; replace HB := hS_ HB hb; replace ab := bB_ ab hb; replace ah := bB_ ah hb; (try clear hb); (try clear ho0); obtain ⟨cE, cF, cG, cH, cI, cJ, cK, ev, ew, ex, ey, ez, eA, eB⟩ := cz7_ (w := w172) ab) | ((with_reducible refine gd_ 63 ?_); (try (refine gate_guard (by rfl) ?_; dsimp only)); refine Kd.R_lit (Kd.int .i64) _ 3 ?hg (N := 63) ?hd (xs := ([1, 2, 3] : List Int)) (inner := [.int .i64 1, .int .i64 2, .int .i64 3]) (ok := fun _ => True) (okp := fun _ => True) ?hr ?hp (fun _ hk => hk) trivial (Below.refl _ _) (Nat.le_refl _) (by simp) ?_; (case hd => rfl); (case hg => rfl); (case hr => first | (go_simp; done) | (go_simp; rfl)); (case hp => exact (Reps.one (show Kd.M (Kd.int .i64) _ _ _ 1 [.int .i64 1] from rfl) (Reps.one (show Kd.M (Kd.int .i64) _ _ _ 2 [.int .i64 2] from rfl) (Reps.one (show Kd.M (Kd.int .i64) _ _ _ 3 [.int .i64 3] from rfl) (Reps.none _ _))))); intro v444 w174 ho175 hb hg_ hnew_; clear hg_ hnew_; (first | rw [← Ny443.out] at ho175 | (simp only [Int.reduceToNat] at ho175; rw [← Ny443.out] at ho175)); replace av := Aside0.mk (Kd.V_elder' (vV_ av) (Kd.R_base ho175) hb); replace aH := Aside0.mk (Kd.V_elder' (vV_ aH) (Kd.R_base ho175) hb); replace az := Aside0.mk (Kd.V_elder' (vV_ az) (Kd.R_base ho175) hb); replace ai := rB_ ai hb; replace aj := rB_ aj hb; replace aT := Aside0.mk (Kd.V_elder' (vV_ aT) (Kd.R_base ho175) hb); replace aV := Aside0.mk (Kd.V_elder' (vV_ aV) (Kd.R_base ho175) hb); have aA := Aside0.mk (Kd.R_lower (Kd.R_new' ho175 (Kd.R_lt (rR_ ac))) (below_size (hB_ HB))); replace ac := Aside0.mk (Kd.R_elder' (rR_ ac) (Kd.R_base ho175) hb); replace af := bB_ af hb; replace HB := hS_ HB hb; replace ab := bB_ ab hb; replace ah := bB_ ah hb; clear hb ho175; obtain ⟨aY, a0, eo176⟩ := Kd.R_slice aA.out; subst eo176) | ((with_reducible refine gate_callee (f := 13) rfl ?_); refine gL_ (some 66) Tryd.func13 #[.agg #[.int .u32 0, .int .i64 30, .slice ar aa.length au, .int .i64 1, .int .i64 1, .int .i64 1, .int .i64 1], .slice aY a5.length a0, .agg #[.int .i64 1, .int .u32 0, .slice none 0 0], .agg #[.int .i64 9, .int .u32 0, .bool false, .slice none 0 0, .slice none 0 0]] ?_; (refine (spec_Legal.calls k 0 30 _ _ aa 1 1 1 1 (fun k_ => some k_ = (.slice aY a5.length a0 : Value).ownBlock) _ _ a5 1 0 _ _ ([] : List Int) 9 0 false _ _ ([] : List Int) _ _ ([] : List Int) bE true _ ?side1 ?side2 ?side3 ?side4 ?side5 ?side6 ?side7 ?side8 ?side9 ?side10 A6.out).mono ?_); (case side1 => exact cD_ (Kd.R_reads' ac.out).2.2); (case side2 => exact (Kd.R_reads' ac.out).2.1); (case side3 => exact Kd.R_V (Kd.R_tight rfl (Kd.R_types (Kd.R_types (Kd.R_types (Kd.R_apart' (Kd.R_apart' (aA.out) (Kd.R_typed ai.out) (by decide)) (Kd.R_typed aj.out) (by decide)) ab.out (by decide)) af.out (by decide)) ah.out (by decide)))); (case side4 => exact Kd.C_nil _ _); (case side5 => exact Nat.le_refl _); (case side6 => exact Kd.C_nil _ _); (case side7 => exact Nat.le_refl _); (case side8 => exact Kd.C_nil _ _); (case side9 => exact Nat.le_refl _); (case side10 => exact Lg_below HG.out (hB_ HB)); rintro e w177 ⟨v447, rfl, ho0, hb⟩; refine ⟨_, rfl, ?_⟩; replace av := vB_ av hb; replace aH := vB_ aH hb; replace az := vB_ az hb; replace aT := vB_ aT hb; replace aV := vB_ aV hb; have bg := Aside0.mk (Kd.V_lower (Kd.V_mono (ok' := fun k_ => some k_ ≠ (.slice ar aa.length au : Value).ownBlock ∧ some k_ ≠ (.slice aJ ad.length aK : Value).ownBlock ∧ some k_ ≠ (.slice aL ae.length aN : Value).ownBlock ∧ k_ ≠ aB ∧ k_ ≠ aC ∧ k_ ≠ ay) ho0 (fun k_ hk_ => ⟨Or.elim hk_ (fun hs_ => ((Kd.R_types (Kd.R_types (Kd.R_types (Kd.R_apart' (Kd.R_apart' (aA.out) (Kd.R_typed ai.out) (by decide)) (Kd.R_typed aj.out) (by decide)) ab.out (by decide)) af.out (by decide)) ah.out (by decide)).1 k_ hs_.symm).1.1.1.1.1.2) (fun hn_ => (Kd.fresh' (Kd.R_lt (rR_ ac)) k_ hn_)), Or.elim hk_ (fun hs_ => ((Kd.R_types (Kd.R_types (Kd.R_types (Kd.R_apart' (Kd.R_apart' (aA.out) (Kd.R_typed ai.out) (by decide)) (Kd.R_typed aj.out) (by decide)) ab.out (by decide)) af.out (by decide)) ah.out (by decide)).1 k_ hs_.symm).1.1.1.1.2) (fun hn_ => (Kd.fresh' (Kd.R_lt (rR_ ai)) k_ hn_)), Or.elim hk_ (fun hs_ => ((Kd.R_types (Kd.R_types (Kd.R_types (Kd.R_apart' (Kd.R_apart' (aA.out) (Kd.R_typed ai.out) (by decide)) (Kd.R_typed aj.out) (by decide)) ab.out (by decide)) af.out (by decide)) ah.out (by decide)).1 k_ hs_.symm).1.1.1.2) (fun hn_ => (Kd.fresh' (Kd.R_lt (rR_ aj)) k_ hn_)), Or.elim hk_ (fun hs_ => ((Kd.R_types (Kd.R_types (Kd.R_types (Kd.R_apart' (Kd.R_apart' (aA.out) (Kd.R_typed ai.out) (by decide)) (Kd.R_typed aj.out) (by decide)) ab.out (by decide)) af.out (by decide)) ah.out (by decide)).1 k_ hs_.symm).1.1.2) (fun hn_ => (fB_ ab k_ hn_)), Or.elim hk_ (fun hs_ => ((Kd.R_types (Kd.R_types (Kd.R_types (Kd.R_apart' (Kd.R_apart' (aA.out) (Kd.R_typed ai.out) (by decide)) (Kd.R_typed aj.out) (by decide)) ab.out (by decide)) af.out (by decide)) ah.out (by decide)).1 k_ hs_.symm).1.2) (fun hn_ => (fB_ af k_ hn_)), Or.elim hk_ (fun hs_ => ((Kd.R_types (Kd.R_types (Kd.R_types (Kd.R_apart' (Kd.R_apart' (aA.out) (Kd.R_typed ai.out) (by decide)) (Kd.R_typed aj.out) (by decide)) ab.out (by decide)) af.out (by decide)) ah.out (by decide)).1 k_ hs_.symm).2) (fun hn_ => (fB_ ah k_ hn_))⟩)) (below_size (hB_ HB))); replace ac := rB_ ac hb; replace ai := rB_ ai hb; replace aj := rB_ aj hb; replace aA := rB_ aA hb; replace af := bB_ af hb; replace HB := hS_ HB hb; replace ab := bB_ ab hb; replace ah := bB_ ah hb; (try clear hb); (try clear ho0); obtain ⟨cL, cM, cN, cO, cP, cQ, cR, eC, eD, eE, eF, eG, eH, eI⟩ := cz7_ (w := w177) ab) | ((with_reducible refine gd_ 71 ?_); (try (refine gate_guard (by rfl) ?_; dsimp only)); refine Kd.R_lit (Kd.int .i64) _ 3 ?hg (N := 71) ?hd (xs := ([1, 3] : List Int)) (inner := [.int .i64 1, .int .i64 3]) (ok := fun _ => True) (okp := fun _ => True) ?hr ?hp (fun _ hk => hk) trivial (Below.refl _ _) (Nat.le_refl _) (by simp) ?_; (case hd => rfl); (case hg => rfl); (case hr => first | (go_simp; done) | (go_simp; rfl)); (case hp => exact (Reps.one (show Kd.M (Kd.int .i64) _ _ _ 1 [.int .i64 1] from rfl) (Reps.one (show Kd.M (Kd.int .i64) _ _ _ 3 [.int .i64 3] from rfl) (Reps.none _ _)))); intro v451 w179 ho180 hb hg_ hnew_; clear hg_ hnew_; (first | rw [← Ny450.out] at ho180 | (simp only [Int.reduceToNat] at ho180; rw [← Ny450.out] at ho180)); replace av := Aside0.mk (Kd.V_elder' (vV_ av) (Kd.R_base ho180) hb); replace aH := Aside0.mk (Kd.V_elder' (vV_ aH) (Kd.R_base ho180) hb); replace az := Aside0.mk (Kd.V_elder' (vV_ az) (Kd.R_base ho180) hb); replace ai := rB_ ai hb; replace aj := rB_ aj hb; replace aT := Aside0.mk (Kd.V_elder' (vV_ aT) (Kd.R_base ho180) hb); replace aV := Aside0.mk (Kd.V_elder' (vV_ aV) (Kd.R_base ho180) hb); replace bg := Aside0.mk (Kd.V_elder' (vV_ bg) (Kd.R_base ho180) hb); have aF := Aside0.mk (Kd.R_lower (Kd.R_new' (Kd.R_new' ho180 (Kd.R_lt (rR_ ac))) (Kd.R_lt (rR_ aA))) (below_size (hB_ HB))); replace ac := Aside0.mk (Kd.R_elder' (rR_ ac) (Kd.R_base ho180) hb); replace aA := Aside0.mk (Kd.R_elder' (rR_ aA) (Kd.R_base ho180) hb); replace af := bB_ af hb; replace HB := hS_ HB hb; replace ab := bB_ ab hb; replace ah := bB_ ah hb; clear hb ho180) | ((with_reducible refine gd_ 72 ?_); (try (refine gate_guard (by rfl) ?_; dsimp only)); refine Kd.R_lit (Kd.int .u32) _ 22 ?hg (N := 72) ?hd (xs := ([3, 2] : List Int)) (inner := [.int .u32 3, .int .u32 2]) (ok := fun _ => True) (okp := fun _ => True) ?hr ?hp (fun _ hk => hk) trivial (Below.refl _ _) (Nat.le_refl _) (by simp) ?_; (case hd => rfl); (case hg => rfl); (case hr => first | (go_simp; done) | (go_simp; rfl)); (case hp => exact (Reps.one (show Kd.M (Kd.int .u32) _ _ _ 3 [.int .u32 3] from rfl) (Reps.one (show Kd.M (Kd.int .u32) _ _ _ 2 [.int .u32 2] from rfl) (Reps.none _ _)))); intro v454 w181 ho182 hb hg_ hnew_; clear hg_ hnew_; (first | rw [← Ny453.out] at ho182 | (simp only [Int.reduceToNat] at ho182; rw [← Ny453.out] at ho182)); replace ac := rB_ ac hb; replace av := Aside0.mk (Kd.V_elder' (vV_ av) (Kd.R_base ho182) hb); replace aH := Aside0.mk (Kd.V_elder' (vV_ aH) (Kd.R_base ho182) hb); replace az := Aside0.mk (Kd.V_elder' (vV_ az) (Kd.R_base ho182) hb); replace aj := rB_ aj hb; replace aT := Aside0.mk (Kd.V_elder' (vV_ aT) (Kd.R_base ho182) hb); replace aV := Aside0.mk (Kd.V_elder' (vV_ aV) (Kd.R_base ho182) hb); replace aA := rB_ aA hb; replace bg := Aside0.mk (Kd.V_elder' (vV_ bg) (Kd.R_base ho182) hb); replace aF := rB_ aF hb; have aO := Aside0.mk (Kd.R_lower (Kd.R_new' ho182 (Kd.R_lt (rR_ ai))) (below_size (hB_ HB))); replace ai := Aside0.mk (Kd.R_elder' (rR_ ai) (Kd.R_base ho182) hb); replace af := bB_ af hb; replace HB := hS_ HB hb; replace ab := bB_ ab hb; replace ah := bB_ ah hb; clear hb ho182; obtain ⟨a6, a8, eo183⟩ := Kd.R_slice aO.out; subst eo183; obtain ⟨bd, be, eo184⟩ := Kd.R_slice aF.out; subst eo184) | ((with_reducible refine gate_callee (f := 15) rfl ?_); refine gM_ (some 74) Tryd.func15 (spec_Some.calls k 0 30 _ _ aa 1 1 1 1 (fun k_ => some k_ = (.slice bd bb.length be : Value).ownBlock) _ _ bb 4 0 _ _ bc a4 aQ aR aS aE ap _ (cD_ (Kd.R_reads' ac.out).2.2) ((Kd.R_reads' ac.out).2.1) (Kd.R_V (Kd.R_tight rfl (Kd.R_types (Kd.R_types (Kd.R_types (Kd.R_apart' (Kd.R_apart' (Kd.R_apart' (aF.out) (Kd.R_typed ai.out) (by decide)) (Kd.R_typed aj.out) (by decide)) (Kd.R_typed aO.out) (by decide)) ab.out (by decide)) af.out (by decide)) ah.out (by decide)))) (cD_ (Kd.R_reads' aO.out).2.2) ((Kd.R_reads' aO.out).2.1) (Lg_below HG.out (hB_ HB)) A7.out) ?_; rintro e w185 ⟨v457, v463, v466, rfl, ho0, ho1, ho2, hb⟩; refine ⟨_, rfl, ?_⟩; replace av := Aside0.mk (Kd.V_mono (Kd.V_told (Kd.V_told (Kd.V_old (vV_ av) hb) (Kd.R_base ho1)) (Kd.R_base ho2)) (fun _ h_ => h_.1)); replace aH := Aside0.mk (Kd.V_mono (Kd.V_told (Kd.V_told (Kd.V_old (vV_ aH) hb) (Kd.R_base ho1)) (Kd.R_base ho2)) (fun _ h_ => h_.1)); replace az := Aside0.mk (Kd.V_mono (Kd.V_told (Kd.V_told (Kd.V_old (vV_ az) hb) (Kd.R_base ho1)) (Kd.R_base ho2)) (fun _ h_ => h_.1)); replace aT := Aside0.mk (Kd.V_mono (Kd.V_told (Kd.V_told (Kd.V_old (vV_ aT) hb) (Kd.R_base ho1)) (Kd.R_base ho2)) (fun _ h_ => h_.1)); replace aV := Aside0.mk (Kd.V_mono (Kd.V_told (Kd.V_told (Kd.V_old (vV_ aV) hb) (Kd.R_base ho1)) (Kd.R_base ho2)) (fun _ h_ => h_.1)); replace bg := Aside0.mk (Kd.V_mono (Kd.V_told (Kd.V_told (Kd.V_old (vV_ bg) hb) (Kd.R_base ho1)) (Kd.R_base ho2)) (fun _ h_ => h_.1)); have aU := Aside0.mk (Kd.V_lower (Kd.V_mono (ok' := fun k_ => some k_ ≠ (v463 : Value).ownBlock ∧ some k_ ≠ (v466 : Value).ownBlock ∧ some k_ ≠ (.slice ar aa.length au : Value).ownBlock ∧ some k_ ≠ (.slice aJ ad.length aK : Value).ownBlock ∧ some k_ ≠ (.slice aL ae.length aN : Value).ownBlock ∧ some k_ ≠ (.slice aY a5.length a0 : Value).ownBlock ∧ some k_ ≠ (.slice a6 bc.length a8 : Value).ownBlock ∧ k_ ≠ aB ∧ k_ ≠ aC ∧ k_ ≠ ay) ho0 (fun k_ hk_ => ⟨hk_.2.1, hk_.2.2, Or.elim hk_.1 (fun hs_ => ((Kd.R_types (Kd.R_types (Kd.R_types (Kd.R_apart' (Kd.R_apart' (Kd.R_apart' (aF.out) (Kd.R_typed ai.out) (by decide)) (Kd.R_typed aj.out) (by decide)) (Kd.R_typed aO.out) (by decide)) ab.out (by decide)) af.out (by decide)) ah.out (by decide)).1 k_ hs_.symm).1.1.1.1.1.1.1.2) (fun hn_ => (Kd.fresh' (Kd.R_lt (rR_ ac)) k_ hn_)), Or.elim hk_.1 (fun hs_ => ((Kd.R_types (Kd.R_types (Kd.R_types (Kd.R_apart' (Kd.R_apart' (Kd.R_apart' (aF.out) (Kd.R_typed ai.out) (by decide)) (Kd.R_typed aj.out) (by decide)) (Kd.R_typed aO.out) (by decide)) ab.out (by decide)) af.out (by decide)) ah.out (by decide)).1 k_ hs_.symm).1.1.1.1.1.2) (fun hn_ => (Kd.fresh' (Kd.R_lt (rR_ ai)) k_ hn_)), Or.elim hk_.1 (fun hs_ => ((Kd.R_types (Kd.R_types (Kd.R_types (Kd.R_apart' (Kd.R_apart' (Kd.R_apart' (aF.out) (Kd.R_typed ai.out) (by decide)) (Kd.R_typed aj.out) (by decide)) (Kd.R_typed aO.out) (by decide)) ab.out (by decide)) af.out (by decide)) ah.out (by decide)).1 k_ hs_.symm).1.1.1.1.2) (fun hn_ => (Kd.fresh' (Kd.R_lt (rR_ aj)) k_ hn_)), Or.elim hk_.1 (fun hs_ => ((Kd.R_types (Kd.R_types (Kd.R_types (Kd.R_apart' (Kd.R_apart' (Kd.R_apart' (aF.out) (Kd.R_typed ai.out) (by decide)) (Kd.R_typed aj.out) (by decide)) (Kd.R_typed aO.out) (by decide)) ab.out (by decide)) af.out (by decide)) ah.out (by decide)).1 k_ hs_.symm).1.1.1.1.1.1.2) (fun hn_ => (Kd.fresh' (Kd.R_lt (rR_ aA)) k_ hn_)), Or.elim hk_.1 (fun hs_ => ((Kd.R_types (Kd.R_types (Kd.R_types (Kd.R_apart' (Kd.R_apart' (Kd.R_apart' (aF.out) (Kd.R_typed ai.out) (by decide)) (Kd.R_typed aj.out) (by decide)) (Kd.R_typed aO.out) (by decide)) ab.out (by decide)) af.out (by decide)) ah.out (by decide)).1 k_ hs_.symm).1.1.1.2) (fun hn_ => (Kd.fresh' (Kd.R_lt (rR_ aO)) k_ hn_)), Or.elim hk_.1 (fun hs_ => ((Kd.R_types (Kd.R_types (Kd.R_types (Kd.R_apart' (Kd.R_apart' (Kd.R_apart' (aF.out) (Kd.R_typed ai.out) (by decide)) (Kd.R_typed aj.out) (by decide)) (Kd.R_typed aO.out) (by decide)) ab.out (by decide)) af.out (by decide)) ah.out (by decide)).1 k_ hs_.symm).1.1.2) (fun hn_ => (fB_ ab k_ hn_)), Or.elim hk_.1 (fun hs_ => ((Kd.R_types (Kd.R_types (Kd.R_types (Kd.R_apart' (Kd.R_apart' (Kd.R_apart' (aF.out) (Kd.R_typed ai.out) (by decide)) (Kd.R_typed aj.out) (by decide)) (Kd.R_typed aO.out) (by decide)) ab.out (by decide)) af.out (by decide)) ah.out (by decide)).1 k_ hs_.symm).1.2) (fun hn_ => (fB_ af k_ hn_)), Or.elim hk_.1 (fun hs_ => ((Kd.R_types (Kd.R_types (Kd.R_types (Kd.R_apart' (Kd.R_apart' (Kd.R_apart' (aF.out) (Kd.R_typed ai.out) (by decide)) (Kd.R_typed aj.out) (by decide)) (Kd.R_typed aO.out) (by decide)) ab.out (by decide)) af.out (by decide)) ah.out (by decide)).1 k_ hs_.symm).2) (fun hn_ => (fB_ ah k_ hn_))⟩)) (below_size (hB_ HB))); replace ac := rB_ ac hb; replace aA := rB_ aA hb; replace aF := rB_ aF hb; have aP := Aside0.mk (Kd.R_lower (Kd.R_new' (Kd.R_new' (Kd.R_mono (ok' := fun k_ => True) ho1 (fun _ hk_ => trivial)) (Kd.R_lt (rR_ ai))) (Kd.R_lt (rR_ aO))) (below_size (hB_ HB))); replace ai := Aside0.mk (Kd.R_elder' (rR_ ai) (Kd.R_base ho1) hb); replace aO := Aside0.mk (Kd.R_elder' (rR_ aO) (Kd.R_base ho1) hb); have aM := Aside0.mk (Kd.R_lower (Kd.R_new' (Kd.R_mono (ok' := fun k_ => True) ho2 (fun _ hk_ => trivial)) (Kd.R_lt (rR_ aj))) (below_size (hB_ HB))); replace aj := Aside0.mk (Kd.R_elder' (rR_ aj) (Kd.R_base ho2) hb); replace af := bB_ af hb; replace HB := hS_ HB hb; replace ab := bB_ ab hb; replace ah := bB_ ah hb; (try clear hb); (try clear ho0); (try clear ho1); (try clear ho2)) | ((with_reducible refine gd_ 16 ?_); (try (refine gate_guard (by rfl) ?_; dsimp only)); refine box_event ?hg (N := 16) ?hd (cs := #[.int .i64 0, .int .u32 0, .bool false, .slice none 0 0, .slice none 0 0]) (t := 34) ?hr ?_; (case hd => rfl); (case hg => rfl); (case hr => first | (go_simp; done) | (go_simp; rfl)); intro ax hg w186 hbox hb; replace ac := rB_ ac hb; replace av := vE_ av hg hb; replace aH := vE_ aH hg hb; replace az := vE_ az hg hb; replace ai := rB_ ai hb; replace aj := rB_ aj hb; replace aT := vE_ aT hg hb; replace aV := vE_ aV hg hb; replace aA := rB_ aA hb; replace bg := vE_ bg hg hb; replace aF := rB_ aF hb; replace aO := rB_ aO hb; replace aU := vE_ aU hg hb; replace aP := rB_ aP hb; replace aM := rB_ aM hb; have aG := Aside0.mk (hbox); have fN := gG_ hg HB; have fJ := gG_ hg HB; replace HB := hS_ HB hb; have bn := nL_ hg ab; have bx := nG_ hg ab; have bp := nL_ hg af; have bz := nG_ hg af; replace af := bB_ af hb; have bq := nL_ hg ah; have bA := nG_ hg ah; replace ab := bB_ ab hb; replace ah := bB_ ah hb; clear hb hbox hg; have fr := bx.out; have fx := bn.out; have fs := bz.out; have fy := bp.out; have ft := bA.out; have fz := bq.out; obtain ⟨cS, cT, cU, cV, cW, eJ, eK, eL, eM, eN⟩ := cz5_ (w := w186) aG; obtain ⟨aZ, a1, eo191⟩ := Kd.R_slice aP.out; subst eo191; obtain ⟨a7, a9, eo192⟩ := Kd.R_slice aM.out; subst eo192) | ((with_reducible refine gate_store (t := 34) (p := 16) rfl ?_); refine store_event (t := 34) (p := 16) (v := ?vo_w193) (w1 := (((((w186.setCell ⟨ax, 0, none⟩ (.int .i64 aQ)).setCell ⟨ax, 1, none⟩ (.int .u32 aR)).setCell ⟨ax, 2, none⟩ (.bool aS)).setCell ⟨ax, 3, none⟩ (.slice aZ aE.length a1)).setCell ⟨ax, 4, none⟩ (.slice a7 ap.length a9))) ?hg ?ho ?hn ?hr ?_; (case ho => rfl); (case hg => rfl); (case hn => rfl); (case hr => first | (go_simp; done) | (go_simp; rfl)); intro w193 hw; have n0_ : Aside0 (Kd.R (Kd.int .i64) 3 w193 w.heap.size (fun k_ => some k_ ≠ (.slice aY a5.length a0 : Value).ownBlock ∧ some k_ ≠ (.slice bd bb.length be : Value).ownBlock) (.slice ar aa.length au) aa) := ⟨(by rw [hw]; exact (by (with_reducible repeat (first | apply Kd.R_alloc | apply Kd.R_drewN | apply Kd.R_drew)); exact Kd.R_mono (rF5_ (g := ax) (Kd.R_types ac.out aG.out (by decide)) (fun _ hk => hk.2)) (fun _ hk => ⟨hk.1.1.2, hk.1.2⟩)))⟩; have n1_ : Aside0 (Kd.V (Kd.int .i64) 3 w193 w.heap.size (fun k_ => some k_ ≠ (.slice ar aa.length au : Value).ownBlock ∧ some k_ ≠ (.slice aJ ad.length aK : Value).ownBlock ∧ some k_ ≠ (.slice aL ae.length aN : Value).ownBlock ∧ some k_ ≠ (.slice aY a5.length a0 : Value).ownBlock ∧ some k_ ≠ (.slice bd bb.length be : Value).ownBlock ∧ some k_ ≠ (.slice a6 bc.length a8 : Value).ownBlock ∧ some k_ ≠ (.slice aZ aE.length a1 : Value).ownBlock ∧ some k_ ≠ (.slice a7 ap.length a9 : Value).ownBlock ∧ k_ ≠ aB ∧ k_ ≠ aC ∧ k_ ≠ ay ∧ k_ ≠ ax) (.slice bi aw.length bk) aw) := ⟨(by rw [hw]; exact (by (with_reducible repeat (first | apply Kd.V_alloc | apply Kd.V_drewN | apply Kd.V_drew)); exact Kd.V_mono (vF5_ (g := ax) (Kd.V_mono av.out (fun k_ hk => (⟨hk, hk.2⟩ : _ ∧ k_ ≠ ax))) (fun _ hk => hk.2)) (fun _ hk => ⟨hk.1.1.1.1.1.1.1.1, ⟨hk.1.1.1.1.1.1.1.2.1, ⟨hk.1.1.1.1.1.1.1.2.2.1, ⟨hk.1.1.1.1.1.1.2, ⟨hk.1.1.1.1.1.2, ⟨hk.1.1.1.1.2, ⟨hk.1.1.1.2, ⟨hk.1.1.2, ⟨hk.1.1.1.1.1.1.1.2.2.2.1, ⟨hk.1.1.1.1.1.1.1.2.2.2.2.1, ⟨hk.1.1.1.1.1.1.1.2.2.2.2.2, hk.1.2⟩⟩⟩⟩⟩⟩⟩⟩⟩⟩⟩)))⟩; have n2_ : Aside0 (Kd.V (Kd.int .i64) 3 w193 w.heap.size (fun k_ => some k_ ≠ (.slice ar aa.length au : Value).ownBlock ∧ some k_ ≠ (.slice aJ ad.length aK : Value).ownBlock ∧ some k_ ≠ (.slice aL ae.length aN : Value).ownBlock ∧ some k_ ≠ (.slice aY a5.length a0 : Value).ownBlock ∧ some k_ ≠ (.slice bd bb.length be : Value).ownBlock ∧ some k_ ≠ (.slice a6 bc.length a8 : Value).ownBlock ∧ some k_ ≠ (.slice aZ aE.length a1 : Value).ownBlock ∧ some k_ ≠ (.slice a7 ap.length a9 : Value).ownBlock ∧ k_ ≠ aB ∧ k_ ≠ aC ∧ k_ ≠ ay ∧ k_ ≠ ax) v419 bB) := ⟨(by rw [hw]; exact (by (with_reducible repeat (first | apply Kd.V_alloc | apply Kd.V_drewN | apply Kd.V_drew)); exact Kd.V_mono (vF5_ (g := ax) (Kd.V_mono aH.out (fun k_ hk => (⟨hk, hk.2⟩ : _ ∧ k_ ≠ ax))) (fun _ hk => hk.2)) (fun _ hk => ⟨hk.1.1.1.1.1.1.1.1, ⟨hk.1.1.1.1.1.1.1.2.1, ⟨hk.1.1.1.1.1.1.1.2.2.1, ⟨hk.1.1.1.1.1.1.2, ⟨hk.1.1.1.1.1.2, ⟨hk.1.1.1.1.2, ⟨hk.1.1.1.2, ⟨hk.1.1.2, ⟨hk.1.1.1.1.1.1.1.2.2.2.1, ⟨hk.1.1.1.1.1.1.1.2.2.2.2.1, ⟨hk.1.1.1.1.1.1.1.2.2.2.2.2, hk.1.2⟩⟩⟩⟩⟩⟩⟩⟩⟩⟩⟩)))⟩; have n3_ : Aside0 (Kd.V (Kd.int .i64) 3 w193 w.heap.size (fun k_ => some k_ ≠ (.slice ar aa.length au : Value).ownBlock ∧ some k_ ≠ (.slice aJ ad.length aK : Value).ownBlock ∧ some k_ ≠ (.slice aL ae.length aN : Value).ownBlock ∧ some k_ ≠ (.slice aY a5.length a0 : Value).ownBlock ∧ some k_ ≠ (.slice bd bb.length be : Value).ownBlock ∧ some k_ ≠ (.slice a6 bc.length a8 : Value).ownBlock ∧ some k_ ≠ (.slice aZ aE.length a1 : Value).ownBlock ∧ some k_ ≠ (.slice a7 ap.length a9 : Value).ownBlock ∧ k_ ≠ aB ∧ k_ ≠ aC ∧ k_ ≠ ay ∧ k_ ≠ ax) v423 aW) := ⟨(by rw [hw]; exact (by (with_reducible repeat (first | apply Kd.V_alloc | apply Kd.V_drewN | apply Kd.V_drew)); exact Kd.V_mono (vF5_ (g := ax) (Kd.V_mono az.out (fun k_ hk => (⟨hk, hk.2⟩ : _ ∧ k_ ≠ ax))) (fun _ hk => hk.2)) (fun _ hk => ⟨hk.1.1.1.1.1.1.1.1, ⟨hk.1.1.1.1.1.1.1.2.1, ⟨hk.1.1.1.1.1.1.1.2.2.1, ⟨hk.1.1.1.1.1.1.2, ⟨hk.1.1.1.1.1.2, ⟨hk.1.1.1.1.2, ⟨hk.1.1.1.2, ⟨hk.1.1.2, ⟨hk.1.1.1.1.1.1.1.2.2.2.1, ⟨hk.1.1.1.1.1.1.1.2.2.2.2.1, ⟨hk.1.1.1.1.1.1.1.2.2.2.2.2, hk.1.2⟩⟩⟩⟩⟩⟩⟩⟩⟩⟩⟩)))⟩; have n4_ : Aside0 (Kd.R (Kd.int .u32) 22 w193 w.heap.size (fun k_ => some k_ ≠ (.slice a6 bc.length a8 : Value).ownBlock ∧ some k_ ≠ (.slice aZ aE.length a1 : Value).ownBlock) (.slice aJ ad.length aK) ad) := ⟨(by rw [hw]; exact (by (with_reducible repeat (first | apply Kd.R_alloc | apply Kd.R_drewN | apply Kd.R_drew)); exact Kd.R_mono (rF5_ (g := ax) (Kd.R_types ai.out aG.out (by decide)) (fun _ hk => hk.2)) (fun _ hk => ⟨hk.1.1.2, hk.1.2⟩)))⟩; have n5_ : Aside0 (Kd.R (Kd.int .i64) 31 w193 w.heap.size (fun k_ => some k_ ≠ (.slice a7 ap.length a9 : Value).ownBlock) (.slice aL ae.length aN) ae) := ⟨(by rw [hw]; exact (by (with_reducible repeat (first | apply Kd.R_alloc | apply Kd.R_drewN | apply Kd.R_drew)); exact Kd.R_mono (rF5_ (g := ax) (Kd.R_types aj.out aG.out (by decide)) (fun _ hk => hk.2)) (fun _ hk => hk.1.2)))⟩; have n6_ : Aside0 (Kd.V (Kd.int .i64) 3 w193 w.heap.size (fun k_ => some k_ ≠ (.slice ar aa.length au : Value).ownBlock ∧ some k_ ≠ (.slice aJ ad.length aK : Value).ownBlock ∧ some k_ ≠ (.slice aL ae.length aN : Value).ownBlock ∧ some k_ ≠ (.slice aY a5.length a0 : Value).ownBlock ∧ some k_ ≠ (.slice bd bb.length be : Value).ownBlock ∧ some k_ ≠ (.slice a6 bc.length a8 : Value).ownBlock ∧ some k_ ≠ (.slice aZ aE.length a1 : Value).ownBlock ∧ some k_ ≠ (.slice a7 ap.length a9 : Value).ownBlock ∧ k_ ≠ aB ∧ k_ ≠ aC ∧ k_ ≠ ay ∧ k_ ≠ ax) v436 bC) := ⟨(by rw [hw]; exact (by (with_reducible repeat (first | apply Kd.V_alloc | apply Kd.V_drewN | apply Kd.V_drew)); exact Kd.V_mono (vF5_ (g := ax) (Kd.V_mono aT.out (fun k_ hk => (⟨hk, hk.2⟩ : _ ∧ k_ ≠ ax))) (fun _ hk => hk.2)) (fun _ hk => ⟨hk.1.1.1.1.1.1.1.1, ⟨hk.1.1.1.1.1.1.1.2.1, ⟨hk.1.1.1.1.1.1.1.2.2.1, ⟨hk.1.1.1.1.1.1.2, ⟨hk.1.1.1.1.1.2, ⟨hk.1.1.1.1.2, ⟨hk.1.1.1.2, ⟨hk.1.1.2, ⟨hk.1.1.1.1.1.1.1.2.2.2.1, ⟨hk.1.1.1.1.1.1.1.2.2.2.2.1, ⟨hk.1.1.1.1.1.1.1.2.2.2.2.2, hk.1.2⟩⟩⟩⟩⟩⟩⟩⟩⟩⟩⟩)))⟩; have n7_ : Aside0 (Kd.V (Kd.int .i64) 3 w193 w.heap.size (fun k_ => some k_ ≠ (.slice ar aa.length au : Value).ownBlock ∧ some k_ ≠ (.slice aJ ad.length aK : Value).ownBlock ∧ some k_ ≠ (.slice aL ae.length aN : Value).ownBlock ∧ some k_ ≠ (.slice aY a5.length a0 : Value).ownBlock ∧ some k_ ≠ (.slice bd bb.length be : Value).ownBlock ∧ some k_ ≠ (.slice a6 bc.length a8 : Value).ownBlock ∧ some k_ ≠ (.slice aZ aE.length a1 : Value).ownBlock ∧ some k_ ≠ (.slice a7 ap.length a9 : Value).ownBlock ∧ k_ ≠ aB ∧ k_ ≠ aC ∧ k_ ≠ ay ∧ k_ ≠ ax) v440 bD) := ⟨(by rw [hw]; exact (by (with_reducible repeat (first | apply Kd.V_alloc | apply Kd.V_drewN | apply Kd.V_drew)); exact Kd.V_mono (vF5_ (g := ax) (Kd.V_mono aV.out (fun k_ hk => (⟨hk, hk.2⟩ : _ ∧ k_ ≠ ax))) (fun _ hk => hk.2)) (fun _ hk => ⟨hk.1.1.1.1.1.1.1.1, ⟨hk.1.1.1.1.1.1.1.2.1, ⟨hk.1.1.1.1.1.1.1.2.2.1, ⟨hk.1.1.1.1.1.1.2, ⟨hk.1.1.1.1.1.2, ⟨hk.1.1.1.1.2, ⟨hk.1.1.1.2, ⟨hk.1.1.2, ⟨hk.1.1.1.1.1.1.1.2.2.2.1, ⟨hk.1.1.1.1.1.1.1.2.2.2.2.1, ⟨hk.1.1.1.1.1.1.1.2.2.2.2.2, hk.1.2⟩⟩⟩⟩⟩⟩⟩⟩⟩⟩⟩)))⟩; have n8_ : Aside0 (Kd.R (Kd.int .i64) 3 w193 w.heap.size (fun k_ => some k_ ≠ (.slice ar aa.length au : Value).ownBlock ∧ some k_ ≠ (.slice bd bb.length be : Value).ownBlock) (.slice aY a5.length a0) a5) := ⟨(by rw [hw]; exact (by (with_reducible repeat (first | apply Kd.R_alloc | apply Kd.R_drewN | apply Kd.R_drew)); exact Kd.R_mono (rF5_ (g := ax) (Kd.R_types aA.out aG.out (by decide)) (fun _ hk => hk.2)) (fun _ hk => ⟨hk.1.1.2, hk.1.2⟩)))⟩; have n9_ : Aside0 (Kd.V (Kd.int .i64) 3 w193 w.heap.size (fun k_ => some k_ ≠ (.slice ar aa.length au : Value).ownBlock ∧ some k_ ≠ (.slice aJ ad.length aK : Value).ownBlock ∧ some k_ ≠ (.slice aL ae.length aN : Value).ownBlock ∧ some k_ ≠ (.slice bd bb.length be : Value).ownBlock ∧ some k_ ≠ (.slice a6 bc.length a8 : Value).ownBlock ∧ some k_ ≠ (.slice aZ aE.length a1 : Value).ownBlock ∧ some k_ ≠ (.slice a7 ap.length a9 : Value).ownBlock ∧ k_ ≠ aB ∧ k_ ≠ aC ∧ k_ ≠ ay ∧ k_ ≠ ax) v447 bE) := ⟨(by rw [hw]; exact (by (with_reducible repeat (first | apply Kd.V_alloc | apply Kd.V_drewN | apply Kd.V_drew)); exact Kd.V_mono (vF5_ (g := ax) (Kd.V_mono bg.out (fun k_ hk => (⟨hk, hk.2⟩ : _ ∧ k_ ≠ ax))) (fun _ hk => hk.2)) (fun _ hk => ⟨hk.1.1.1.1.1.1.1, ⟨hk.1.1.1.1.1.1.2.1, ⟨hk.1.1.1.1.1.1.2.2.1, ⟨hk.1.1.1.1.1.2, ⟨hk.1.1.1.1.2, ⟨hk.1.1.1.2, ⟨hk.1.1.2, ⟨hk.1.1.1.1.1.1.2.2.2.1, ⟨hk.1.1.1.1.1.1.2.2.2.2.1, ⟨hk.1.1.1.1.1.1.2.2.2.2.2, hk.1.2⟩⟩⟩⟩⟩⟩⟩⟩⟩⟩)))⟩; have n10_ : Aside0 (Kd.R (Kd.int .i64) 3 w193 w.heap.size (fun k_ => some k_ ≠ (.slice ar aa.length au : Value).ownBlock ∧ some k_ ≠ (.slice aY a5.length a0 : Value).ownBlock) (.slice bd bb.length be) bb) := ⟨(by rw [hw]; exact (by (with_reducible repeat (first | apply Kd.R_alloc | apply Kd.R_drewN | apply Kd.R_drew)); exact Kd.R_mono (rF5_ (g := ax) (Kd.R_types aF.out aG.out (by decide)) (fun _ hk => hk.2)) (fun _ hk => ⟨hk.1.1.2, hk.1.2⟩)))⟩; have n11_ : Aside0 (Kd.R (Kd.int .u32) 22 w193 w.heap.size (fun k_ => some k_ ≠ (.slice aJ ad.length aK : Value).ownBlock ∧ some k_ ≠ (.slice aZ aE.length a1 : Value).ownBlock) (.slice a6 bc.length a8) bc) := ⟨(by rw [hw]; exact (by (with_reducible repeat (first | apply Kd.R_alloc | apply Kd.R_drewN | apply Kd.R_drew)); exact Kd.R_mono (rF5_ (g := ax) (Kd.R_types aO.out aG.out (by decide)) (fun _ hk => hk.2)) (fun _ hk => ⟨hk.1.1.2, hk.1.2⟩)))⟩; have n12_ : Aside0 (Kd.V (Kd.int .i64) 3 w193 w.heap.size (fun k_ => some k_ ≠ (.slice ar aa.length au : Value).ownBlock ∧ some k_ ≠ (.slice aJ ad.length aK : Value).ownBlock ∧ some k_ ≠ (.slice aL ae.length aN : Value).ownBlock ∧ some k_ ≠ (.slice aY a5.length a0 : Value).ownBlock ∧ some k_ ≠ (.slice a6 bc.length a8 : Value).ownBlock ∧ some k_ ≠ (.slice aZ aE.length a1 : Value).ownBlock ∧ some k_ ≠ (.slice a7 ap.length a9 : Value).ownBlock ∧ k_ ≠ aB ∧ k_ ≠ aC ∧ k_ ≠ ay ∧ k_ ≠ ax) v457 a4) := ⟨(by rw [hw]; exact (by (with_reducible repeat (first | apply Kd.V_alloc | apply Kd.V_drewN | apply Kd.V_drew)); exact Kd.V_mono (vF5_ (g := ax) (Kd.V_mono aU.out (fun k_ hk => (⟨hk, hk.2⟩ : _ ∧ k_ ≠ ax))) (fun _ hk => hk.2)) (fun _ hk => ⟨hk.1.1.2.2.1, ⟨hk.1.1.2.2.2.1, ⟨hk.1.1.2.2.2.2.1, ⟨hk.1.1.2.2.2.2.2.1, ⟨hk.1.1.2.2.2.2.2.2.1, ⟨hk.1.1.1, ⟨hk.1.1.2.1, ⟨hk.1.1.2.2.2.2.2.2.2.1, ⟨hk.1.1.2.2.2.2.2.2.2.2.1, ⟨hk.1.1.2.2.2.2.2.2.2.2.2, hk.1.2⟩⟩⟩⟩⟩⟩⟩⟩⟩⟩)))⟩; have n13_ : Aside0 (Kd.R (Kd.int .u32) 22 w193 w.heap.size (fun k_ => some k_ ≠ (.slice aJ ad.length aK : Value).ownBlock ∧ some k_ ≠ (.slice a6 bc.length a8 : Value).ownBlock) (.slice aZ aE.length a1) aE) := ⟨(by rw [hw]; exact (by (with_reducible repeat (first | apply Kd.R_alloc | apply Kd.R_drewN | apply Kd.R_drew)); exact Kd.R_mono (rF5_ (g := ax) (Kd.R_types aP.out aG.out (by decide)) (fun _ hk => hk.2)) (fun _ hk => ⟨hk.1.1.2, hk.1.2⟩)))⟩; have n14_ : Aside0 (Kd.R (Kd.int .i64) 31 w193 w.heap.size (fun k_ => some k_ ≠ (.slice aL ae.length aN : Value).ownBlock) (.slice a7 ap.length a9) ap) := ⟨(by rw [hw]; exact (by (with_reducible repeat (first | apply Kd.R_alloc | apply Kd.R_drewN | apply Kd.R_drew)); exact Kd.R_mono (rF5_ (g := ax) (Kd.R_types aM.out aG.out (by decide)) (fun _ hk => hk.2)) (fun _ hk => hk.1.2)))⟩; have n15_ : Aside0 (w193.heap[aB]? = some (.cells #[.int .u32 0, .int .i64 30, .slice ar aa.length au, .int .i64 1, .int .i64 1, .int .i64 1, .int .i64 1] 27 (0, 0))) := ⟨(by rw [hw]; exact (by refine bp_ ?_; refine bF5_ ?_ bn.out; refine bp_ ?_; exact ab.out))⟩; have n16_ : Aside0 (w193.heap[aC]? = some (.cells #[.int .i64 2, .int .u32 2, .slice none 0 0] 30 (0, 0))) := ⟨(by rw [hw]; exact (by refine bp_ ?_; refine bF5_ ?_ bp.out; refine bp_ ?_; exact af.out))⟩; have n17_ : Aside0 (w193.heap[ay]? = some (.cells #[.int .i64 am, .int .u32 ag, .bool an, .slice aJ ad.length aK, .slice aL ae.length aN] 34 (0, 0))) := ⟨(by rw [hw]; exact (by refine bp_ ?_; refine bF5_ ?_ bq.out; refine bp_ ?_; exact ah.out))⟩; have n18_ : Aside0 (w193.heap[ax]? = some (.cells #[.int .i64 aQ, .int .u32 aR, .bool aS, .slice aZ aE.length a1, .slice a7 ap.length a9] 34 (0, 0))) := ⟨(by rw [hw]; exact (by refine bp_ ?_; apply bS5_; refine bp_ ?_; exact aG.out))⟩; have n19_ : Aside0 (Below w.heap.size w w193) := ⟨(by rw [hw]; exact (hB_ HB))⟩; clear hw ac av aH az ai aj aT aV aA bg aF aO aU aP aM ab af ah aG HB; have ac := n0_; have av := n1_; have aH := n2_; have az := n3_; have ai := n4_; have aj := n5_; have aT := n6_; have aV := n7_; have aA := n8_; have bg := n9_; have aF := n10_; have aO := n11_; have aU := n12_; have aP := n13_; have aM := n14_; have ab := n15_; have af := n16_; have ah := n17_; have aG := n18_; have HB := n19_; clear n0_ n1_ n2_ n3_ n4_ n5_ n6_ n7_ n8_ n9_ n10_ n11_ n12_ n13_ n14_ n15_ n16_ n17_ n18_ n19_; obtain ⟨cX, cY, cZ, c0, c1, c2, c3, eO, eP, eQ, eR, eS, eT, eU⟩ := cz7_ (w := w193) ab; obtain ⟨c4, c5, c6, eV, eW, eX⟩ := cz3_ (w := w193) af) | ((with_reducible refine gate_callee (f := 13) rfl ?_); refine gL_ (some 82) Tryd.func13 #[.agg #[.int .u32 0, .int .i64 30, .slice ar aa.length au, .int .i64 1, .int .i64 1, .int .i64 1, .int .i64 1], .slice bi aw.length bk, .agg #[.int .i64 2, .int .u32 2, .slice none 0 0], .agg #[.int .i64 10, .int .u32 0, .bool false, .slice none 0 0, .slice none 0 0]] ?_; (refine (spec_Legal.calls k 0 30 _ _ aa 1 1 1 1 (fun k_ => (some k_ ≠ (.slice ar aa.length au : Value).ownBlock ∧ (some k_ ≠ (.slice aJ ad.length aK : Value).ownBlock ∧ (some k_ ≠ (.slice aL ae.length aN : Value).ownBlock ∧ (some k_ ≠ (.slice aY a5.length a0 : Value).ownBlock ∧ (some k_ ≠ (.slice bd bb.length be : Value).ownBlock ∧ (some k_ ≠ (.slice a6 bc.length a8 : Value).ownBlock ∧ (some k_ ≠ (.slice aZ aE.length a1 : Value).ownBlock ∧ (some k_ ≠ (.slice a7 ap.length a9 : Value).ownBlock ∧ (k_ ≠ aB ∧ (k_ ≠ aC ∧ (k_ ≠ ay ∧ k_ ≠ ax)))))))))))) _ _ aw 2 2 _ _ ([] : List Int) 10 0 false _ _ ([] : List Int) _ _ ([] : List Int) fn true _ ?side1 ?side2 ?side3 ?side4 ?side5 ?side6 ?side7 ?side8 ?side9 ?side10 A8.out).mono ?_); (case side1 => exact cD_ (Kd.R_reads' ac.out).2.2); (case side2 => exact (Kd.R_reads' ac.out).2.1); (case side3 => exact av.out); (case side4 => exact Kd.C_nil _ _); (case side5 => exact Nat.le_refl _); (case side6 => exact Kd.C_nil _ _); (case side7 => exact Nat.le_refl _); (case side8 => exact Kd.C_nil _ _); (case side9 => exact Nat.le_refl _); (case side10 => exact Lg_below HG.out (hB_ HB)); rintro e w196 ⟨v470, rfl, ho0, hb⟩; refine ⟨_, rfl, ?_⟩; replace av := vB_ av hb; replace az := vB_ az hb; replace aU := vB_ aU hb; have fO := Aside0.mk (Kd.V_lower (Kd.V_mono (ok' := fun k_ => some k_ ≠ (.slice ar aa.length au : Value).ownBlock ∧ some k_ ≠ (.slice aJ ad.length aK : Value).ownBlock ∧ some k_ ≠ (.slice aL ae.length aN : Value).ownBlock ∧ some k_ ≠ (.slice aY a5.length a0 : Value).ownBlock ∧ some k_ ≠ (.slice bd bb.length be : Value).ownBlock ∧ some k_ ≠ (.slice a6 bc.length a8 : Value).ownBlock ∧ some k_ ≠ (.slice aZ aE.length a1 : Value).ownBlock ∧ some k_ ≠ (.slice a7 ap.length a9 : Value).ownBlock ∧ k_ ≠ aB ∧ k_ ≠ aC ∧ k_ ≠ ay ∧ k_ ≠ ax) ho0 (fun k_ hk_ => ⟨Or.elim hk_ (fun hs_ => hs_.1) (fun hn_ => (Kd.fresh' (Kd.R_lt (rR_ ac)) k_ hn_)), Or.elim hk_ (fun hs_ => hs_.2.1) (fun hn_ => (Kd.fresh' (Kd.R_lt (rR_ ai)) k_ hn_)), Or.elim hk_ (fun hs_ => hs_.2.2.1) (fun hn_ => (Kd.fresh' (Kd.R_lt (rR_ aj)) k_ hn_)), Or.elim hk_ (fun hs_ => hs_.2.2.2.1) (fun hn_ => (Kd.fresh' (Kd.R_lt (rR_ aA)) k_ hn_)), Or.elim hk_ (fun hs_ => hs_.2.2.2.2.1) (fun hn_ => (Kd.fresh' (Kd.R_lt (rR_ aF)) k_ hn_)), Or.elim hk_ (fun hs_ => hs_.2.2.2.2.2.1) (fun hn_ => (Kd.fresh' (Kd.R_lt (rR_ aO)) k_ hn_)), Or.elim hk_ (fun hs_ => hs_.2.2.2.2.2.2.1) (fun hn_ => (Kd.fresh' (Kd.R_lt (rR_ aP)) k_ hn_)), Or.elim hk_ (fun hs_ => hs_.2.2.2.2.2.2.2.1) (fun hn_ => (Kd.fresh' (Kd.R_lt (rR_ aM)) k_ hn_)), Or.elim hk_ (fun hs_ => hs_.2.2.2.2.2.2.2.2.1) (fun hn_ => (fB_ ab k_ hn_)), Or.elim hk_ (fun hs_ => hs_.2.2.2.2.2.2.2.2.2.1) (fun hn_ => (fB_ af k_ hn_)), Or.elim hk_ (fun hs_ => hs_.2.2.2.2.2.2.2.2.2.2.1) (fun hn_ => (fB_ ah k_ hn_)), Or.elim hk_ (fun hs_ => hs_.2.2.2.2.2.2.2.2.2.2.2) (fun hn_ => (fB_ aG k_ hn_))⟩)) (below_size (hB_ HB))); replace ac := rB_ ac hb; replace ai := rB_ ai hb; replace aj := rB_ aj hb; replace aA := rB_ aA hb; replace aF := rB_ aF hb; replace aP := rB_ aP hb; replace aM := rB_ aM hb; replace aG := bB_ aG hb; replace ah := bB_ ah hb; replace HB := hS_ HB hb; (try clear hb); (try clear ho0)) | ((with_reducible refine gd_ 88 ?_); (try (refine gate_guard (by rfl) ?_; dsimp only)); refine Kd.R_lit (Kd.int .i64) _ 3 ?hg (N := 88) ?hd (xs := ([2] : List Int)) (inner := [.int .i64 2]) (ok := fun _ => True) (okp := fun _ => True) ?hr ?hp (fun _ hk => hk) trivial (Below.refl _ _) (Nat.le_refl _) (by simp) ?_; (case hd => rfl); (case hg => rfl); (case hr => first | (go_simp; done) | (go_simp; rfl)); (case hp => exact (Reps.one (show Kd.M (Kd.int .i64) _ _ _ 2 [.int .i64 2] from rfl) (Reps.none _ _))); intro v474 w197 ho198 hb hg_ hnew_; clear hg_ hnew_; (first | rw [← Ny473.out] at ho198 | (simp only [Int.reduceToNat] at ho198; rw [← Ny473.out] at ho198)); replace av := Aside0.mk (Kd.V_elder' (vV_ av) (Kd.R_base ho198) hb); replace az := Aside0.mk (Kd.V_elder' (vV_ az) (Kd.R_base ho198) hb); replace ai := rB_ ai hb; replace aj := rB_ aj hb; replace aU := Aside0.mk (Kd.V_elder' (vV_ aU) (Kd.R_base ho198) hb); replace aP := rB_ aP hb; replace aM := rB_ aM hb; have bj := Aside0.mk (Kd.R_lower (Kd.R_new' (Kd.R_new' (Kd.R_new' ho198 (Kd.R_lt (rR_ ac))) (Kd.R_lt (rR_ aA))) (Kd.R_lt (rR_ aF))) (below_size (hB_ HB))); replace ac := Aside0.mk (Kd.R_elder' (rR_ ac) (Kd.R_base ho198) hb); replace aA := Aside0.mk (Kd.R_elder' (rR_ aA) (Kd.R_base ho198) hb); replace aF := Aside0.mk (Kd.R_elder' (rR_ aF) (Kd.R_base ho198) hb); replace aG := bB_ aG hb; replace ah := bB_ ah hb; replace HB := hS_ HB hb; clear hb ho198; obtain ⟨fA, fR, eo199⟩ := Kd.R_slice bj.out; subst eo199) | (go_at_call 17; (with_reducible refine (lodgerref03_Ints.calls k _ _ aw _ _ bF true _ (cD_ (Kd.V_reads' av.out).2.2) ((Kd.V_reads' av.out).2.1) (cD_ (Kd.R_reads' bj.out).2.2) ((Kd.R_reads' bj.out).2.1) A10.out).mono ?_); rintro e w' ⟨rfl, ⟨nd, rfl⟩⟩) | ((with_reducible refine gd_ 97 ?_); (try (refine gate_guard (by rfl) ?_; dsimp only)); refine Kd.R_lit (Kd.int .i64) _ 3 ?hg (N := 97) ?hd (xs := ([1, 2] : List Int)) (inner := [.int .i64 1, .int .i64 2]) (ok := fun _ => True) (okp := fun _ => True) ?hr ?hp (fun _ hk => hk) trivial (Below.refl _ _) (Nat.le_refl _) (by simp) ?_; (case hd => rfl); (case hg => rfl); (case hr => first | (go_simp; done) | (go_simp; rfl)); (case hp => exact (Reps.one (show Kd.M (Kd.int .i64) _ _ _ 1 [.int .i64 1] from rfl) (Reps.one (show Kd.M (Kd.int .i64) _ _ _ 2 [.int .i64 2] from rfl) (Reps.none _ _)))); intro v478 w200 ho201 hb hg_ hnew_; clear hg_ hnew_; (first | rw [← Ny477.out] at ho201 | (simp only [Int.reduceToNat] at ho201; rw [← Ny477.out] at ho201)); replace az := Aside0.mk (Kd.V_elder' (vV_ az) (Kd.R_base ho201) hb); replace ai := rB_ ai hb; replace aj := rB_ aj hb; replace aU := Aside0.mk (Kd.V_elder' (vV_ aU) (Kd.R_base ho201) hb); replace aP := rB_ aP hb; replace aM := rB_ aM hb; have br := Aside0.mk (Kd.R_lower (Kd.R_new' (Kd.R_new' (Kd.R_new' (Kd.R_new' ho201 (Kd.R_lt (rR_ ac))) (Kd.R_lt (rR_ aA))) (Kd.R_lt (rR_ aF))) (Kd.R_lt (rR_ bj))) (below_size (hB_ HB))); replace ac := Aside0.mk (Kd.R_elder' (rR_ ac) (Kd.R_base ho201) hb); replace aA := Aside0.mk (Kd.R_elder' (rR_ aA) (Kd.R_base ho201) hb); replace aF := Aside0.mk (Kd.R_elder' (rR_ aF) (Kd.R_base ho201) hb); replace bj := Aside0.mk (Kd.R_elder' (rR_ bj) (Kd.R_base ho201) hb); replace aG := bB_ aG hb; replace ah := bB_ ah hb; replace HB := hS_ HB hb; clear hb ho201; obtain ⟨fB, fS, eo202⟩ := Kd.V_slice az.out; subst eo202; obtain ⟨fC, fT, eo203⟩ := Kd.R_slice br.out; subst eo203) | (go_at_call 17; (with_reducible refine (lodgerref03_Ints.calls k _ _ aW _ _ bG true _ (cD_ (Kd.V_reads' az.out).2.2) ((Kd.V_reads' az.out).2.1) (cD_ (Kd.R_reads' br.out).2.2) ((Kd.R_reads' br.out).2.1) A69.out).mono ?_); rintro e w' ⟨rfl, ⟨nd, rfl⟩⟩; obtain ⟨c7, c8, da, db, dc, eY, eZ, e0, e1, e2⟩ := cz5_ (w := w200) ah) | ((with_reducible refine gd_ 117 ?_); (try (refine gate_guard (by rfl) ?_; dsimp only)); refine Kd.R_lit (Kd.int .i64) _ 3 ?hg (N := 117) ?hd (xs := ([1] : List Int)) (inner := [.int .i64 1]) (ok := fun _ => True) (okp := fun _ => True) ?hr ?hp (fun _ hk => hk) trivial (Below.refl _ _) (Nat.le_refl _) (by simp) ?_; (case hd => rfl); (case hg => rfl); (case hr => first | (go_simp; done) | (go_simp; rfl)); (case hp => exact (Reps.one (show Kd.M (Kd.int .i64) _ _ _ 1 [.int .i64 1] from rfl) (Reps.none _ _))); intro v482 w205 ho206 hb hg_ hnew_; clear hg_ hnew_; (first | rw [← Ny481.out] at ho206 | (simp only [Int.reduceToNat] at ho206; rw [← Ny481.out] at ho206)); replace ai := rB_ ai hb; replace aj := rB_ aj hb; replace aU := Aside0.mk (Kd.V_elder' (vV_ aU) (Kd.R_base ho206) hb); replace aP := rB_ aP hb; replace aM := rB_ aM hb; have bs := Aside0.mk (Kd.R_lower (Kd.R_new' (Kd.R_new' (Kd.R_new' (Kd.R_new' (Kd.R_new' ho206 (Kd.R_lt (rR_ ac))) (Kd.R_lt (rR_ aA))) (Kd.R_lt (rR_ aF))) (Kd.R_lt (rR_ bj))) (Kd.R_lt (rR_ br))) (below_size (hB_ HB))); replace aG := bB_ aG hb; replace ah := bB_ ah hb; replace HB := hS_ HB hb; clear hb ho206; obtain ⟨fD, fU, eo207⟩ := Kd.V_slice aU.out; subst eo207; obtain ⟨fE, fV, eo208⟩ := Kd.R_slice bs.out; subst eo208) | (go_at_call 17; (with_reducible refine (lodgerref03_Ints.calls k _ _ a4 _ _ bH true _ (cD_ (Kd.V_reads' aU.out).2.2) ((Kd.V_reads' aU.out).2.1) (cD_ (Kd.R_reads' bs.out).2.2) ((Kd.R_reads' bs.out).2.1) A136.out).mono ?_); rintro e w' ⟨rfl, ⟨nd, rfl⟩⟩; obtain ⟨dd, de, df, dg, dh, e3, e4, e5, e6, e7⟩ := cz5_ (w := w205) aG) | ((with_reducible refine gd_ 123 ?_); (try (refine gate_guard (by rfl) ?_; dsimp only)); refine Kd.R_lit (Kd.int .i64) _ 31 ?hg (N := 123) ?hd (xs := ([0, 6] : List Int)) (inner := [.int .i64 0, .int .i64 6]) (ok := fun _ => True) (okp := fun _ => True) ?hr ?hp (fun _ hk => hk) trivial (Below.refl _ _) (Nat.le_refl _) (by simp) ?_; (case hd => rfl); (case hg => rfl); (case hr => first | (go_simp; done) | (go_simp; rfl)); (case hp => exact (Reps.one (show Kd.M (Kd.int .i64) _ _ _ 0 [.int .i64 0] from rfl) (Reps.one (show Kd.M (Kd.int .i64) _ _ _ 6 [.int .i64 6] from rfl) (Reps.none _ _)))); intro v486 w210 ho211 hb hg_ hnew_; clear hg_ hnew_; (first | rw [← Ny485.out] at ho211 | (simp only [Int.reduceToNat] at ho211; rw [← Ny485.out] at ho211)); replace ai := rB_ ai hb; replace aP := rB_ aP hb; have bt := Aside0.mk (Kd.R_lower (Kd.R_new' (Kd.R_new' ho211 (Kd.R_lt (rR_ aj))) (Kd.R_lt (rR_ aM))) (below_size (hB_ HB))); replace aj := Aside0.mk (Kd.R_elder' (rR_ aj) (Kd.R_base ho211) hb); replace aM := Aside0.mk (Kd.R_elder' (rR_ aM) (Kd.R_base ho211) hb); replace aG := bB_ aG hb; replace ah := bB_ ah hb; replace HB := hS_ HB hb; clear hb ho211; obtain ⟨fF, fW, eo212⟩ := Kd.R_slice bt.out; subst eo212) | (go_at_call 28; (with_reducible refine (lodgerref08_Errs.calls k _ _ ap _ _ bI true _ (cD_ (Kd.R_reads' aM.out).2.2) ((Kd.R_reads' aM.out).2.1) (cD_ (Kd.R_reads' bt.out).2.2) ((Kd.R_reads' bt.out).2.1) A138.out).mono ?_); rintro e w' ⟨rfl, ⟨nd, rfl⟩⟩; obtain ⟨di, dj, dk, dl, dm, e8, e9, fa, fb, fc⟩ := cz5_ (w := w210) ah) | (go_at_call 19; (refine (spec_Same.calls k am ag an _ _ ad _ _ ae 0 1 false _ _ ([] : List Int) _ _ ([] : List Int) true _ ?side1 ?side2 ?side3 ?side4 ?side5 ?side6 ?side7 ?side8 A141.out).mono ?_); (case side1 => exact cD_ (Kd.R_reads' ai.out).2.2); (case side2 => exact (Kd.R_reads' ai.out).2.1); (case side3 => exact cD_ (Kd.R_reads' aj.out).2.2); (case side4 => exact (Kd.R_reads' aj.out).2.1); (case side5 => exact Kd.C_nil _ _); (case side6 => exact Nat.le_refl _); (case side7 => exact Kd.C_nil _ _); (case side8 => exact Nat.le_refl _); rintro e w214 ⟨rfl, hb⟩; (try clear A141); replace ai := rB_ ai hb; replace aj := rB_ aj hb; replace aP := rB_ aP hb; replace aM := rB_ aM hb; replace aG := bB_ aG hb; replace ah := bB_ ah hb; replace HB := hS_ HB hb; (try clear hb); obtain ⟨dn, dp, dq, dr, dt, fd, fe, ff, fg, fh⟩ := cz5_ (w := w214) ah; obtain ⟨du, dv, dw, dx, dy, fi, fj, fk, fl, fm⟩ := cz5_ (w := w214) aG) | (go_at_call 19; (with_reducible refine (spec_Same.calls k am ag an _ _ ad _ _ ae aQ aR aS _ _ aE _ _ ap ak _ (cD_ (Kd.R_reads' ai.out).2.2) ((Kd.R_reads' ai.out).2.1) (cD_ (Kd.R_reads' aj.out).2.2) ((Kd.R_reads' aj.out).2.1) (cD_ (Kd.R_reads' aP.out).2.2) ((Kd.R_reads' aP.out).2.1) (cD_ (Kd.R_reads' aM.out).2.2) ((Kd.R_reads' aM.out).2.1) A143.out).mono ?_); rintro e w217 ⟨rfl, hb⟩; replace HB := hS_ HB hb; skip; (try clear hb)))
              go_ret
              exact ⟨er_, hB_ HB⟩
            ·replace c142 := Bool.eq_false_iff.mpr c142
             subst c142
             have H1 : (some false) = some r := nf_ H
             rw [hr_.out] at H1
             exact absurd (Option.some.inj H1) (by decide)
           ·replace c140 := Bool.eq_false_iff.mpr c140
            subst c140
            have H1 : (some false) = some r := nf_ H
            rw [hr_.out] at H1
            exact absurd (Option.some.inj H1) (by decide)
          ·replace c139 := Bool.eq_false_iff.mpr c139
           subst c139
           have H1 : (some false) = some r := nf_ H
           rw [hr_.out] at H1
           exact absurd (Option.some.inj H1) (by decide)
         ·replace c137 := Bool.eq_false_iff.mpr c137
          subst c137
          have H1 : (some false) = some r := nf_ H
          rw [hr_.out] at H1
          exact absurd (Option.some.inj H1) (by decide)
        ·replace c135 := Bool.eq_false_iff.mpr c135
         subst c135
         have H1 : (some false) = some r := nf_ H
         rw [hr_.out] at H1
         exact absurd (Option.some.inj H1) (by decide)
      ·replace c72 := Bool.eq_false_iff.mpr c72
       subst c72
       have H1 : (some false) = some r := nf_ H
       rw [hr_.out] at H1
       exact absurd (Option.some.inj H1) (by decide)
     ·rw [if_neg c71] at H
      rw [hr_.out] at H
      exact absurd (Option.some.inj H) (by decide)
    ·replace c70 := Bool.eq_false_iff.mpr c70
     subst c70
     have H1 : (some false) = some r := nf_ H
     rw [hr_.out] at H1
     exact absurd (Option.some.inj H1) (by decide)
  ·replace c11 := Bool.eq_false_iff.mpr c11
   subst c11
   have H1 : (some false) = some r := nf_ H
   rw [hr_.out] at H1
   exact absurd (Option.some.inj H1) (by decide)
 ·replace c9 := Bool.eq_false_iff.mpr c9
  subst c9
  have H1 : (some false) = some r := nf_ H
  rw [hr_.out] at H1
  exact absurd (Option.some.inj H1) (by decide)

/-! ### lodgerref05_Held: function 22 -/
def lodgerref05_Held.l0 : Nat → Int → Int → Int → Int → List Int → Int → Int → Int → Int → Option (Bool)
 | 0, _, _, _, _, _, _, _, _, _ => none
 | k + 1, x1, x5, x492000, x492001, x492002, x492003, x492004, x492005, x492006 => if x5 < (x492002.length : Int) then (if 0 ≤ x5 then (if (rd x492002 x5) = x1 then (some true) else (lodgerref05_Held.l0 k x1 (wrap64 (x5 + 1)) x492000 x492001 x492002 x492003 x492004 x492005 x492006)) else (none)) else (some false)
def lodgerref05_Held.f (k : Nat) (a0_0 a0_1 : Int) (l0_2 : List Int) (a0_3 a0_4 : Int) (a0_5 a0_6 a1 : Int) : Option (Bool) := lodgerref05_Held.l0 k a1 0 a0_0 a0_1 l0_2 a0_3 a0_4 a0_5 a0_6
theorem lodgerref05_Held.mono_l : ∀ k, (∀ y0 y1 y2 y3 y4 y5 y6 y7 y8, LeO (lodgerref05_Held.l0 k y0 y1 y2 y3 y4 y5 y6 y7 y8) (lodgerref05_Held.l0 (k + 1) y0 y1 y2 y3 y4 y5 y6 y7 y8))
 | 0 => fun _ _ _ _ _ _ _ _ _ r h => by simp [lodgerref05_Held.l0] at h
 | k + 1 => by
  have ih0 := lodgerref05_Held.mono_l k
  ·intro y0 y1 y2 y3 y4 y5 y6 y7 y8
   unfold lodgerref05_Held.l0
   repeat' (with_reducible first | apply ih0 | exact LeO.refl _ | exact LeO.none _ | refine LeO.ite ?_ ?_ | refine LeO.bind ?_ (fun _ => ?_))
theorem lodgerref05_Held.mono : ∀ a0 a1 a2 a3 a4 a5 a6 a7 k, LeO (lodgerref05_Held.f k a0 a1 a2 a3 a4 a5 a6 a7) (lodgerref05_Held.f (k + 1) a0 a1 a2 a3 a4 a5 a6 a7) := by
 intro a0 a1 a2 a3 a4 a5 a6 a7 k
 have ih0 := lodgerref05_Held.mono_l k
 unfold lodgerref05_Held.f
 repeat' (with_reducible first | apply ih0 | exact LeO.refl _ | exact LeO.none _ | refine LeO.ite ?_ ?_ | refine LeO.bind ?_ (fun _ => ?_))
set_option maxHeartbeats 8000000 in
set_option maxRecDepth 100000 in
theorem lodgerref05_Held.calls (k : Nat) (ad ae : Int) (aj : Option Addr) (ak : Nat) (ab : List Int) (af ag : Int) (ah ai a1 : Int) (r : Bool) (w : World) (hr0_2 : Kd.C (Kd.int .i64) w aj ab.length ab) (hc0_2 : ab.length ≤ ak) (h : lodgerref05_Held.f k ad ae ab af ag ah ai a1 = some r) :
  Calls Tryd.prog 22 #[.agg #[.int .u32 ad, .int .i64 ae, .slice aj ab.length ak, .int .i64 af, .int .i64 ag, .int .i64 ah, .int .i64 ai], .int .i64 a1] w fun e w' => e = .returned (.bool r) ∧ Below w.heap.size w w' := by
 have hu27 := Tryd.underlying27
 have al := Aside0.mk hr0_2
 have bb := Aside0.mk hc0_2
 clear hr0_2 hc0_2
 have HB := Aside0.mk (Below.refl w.heap.size w)
 have H : (lodgerref05_Held.l0 k a1 0 ad ae ab af ag ah ai) = some r := h
 clear h
 have H' := Aside0.mk H
 clear H
 go_enter Tryd.func22, Tryd.ntmps22
 go_wp2_with (first | ((with_reducible refine gd_ 2 ?_); refine bx_ (N := 2) (cs := #[.int .u32 ad, .int .i64 ae, .slice aj ab.length ak, .int .i64 af, .int .i64 ag, .int .i64 ah, .int .i64 ai]) (t := 27) ?_; intro am hg w3 ac hb; have ba := gG_ hg HB; have a9 := gG_ hg HB; replace HB := hS_ HB hb; clear hb hg))
 go_loopg [5] k (fun kq v5 w' => ∃ (aa : Int), v5 = .int .i64 aa ∧ Aside0 (lodgerref05_Held.l0 kq a1 aa ad ae ab af ag ah ai = some r) ∧ Aside0 (kq ≤ k) ∧ Aside0 (w'.heap[am]? = some (.cells #[.int .u32 ad, .int .i64 ae, (.slice aj ab.length ak), .int .i64 af, .int .i64 ag, .int .i64 ah, .int .i64 ai] 27 (0, 0))) ∧ Aside0 (Below w.heap.size w w'))
 case atStart => exact ⟨(0), rs_, H', ⟨Nat.le_refl _⟩, ⟨bk_ ac⟩, ⟨hB_ HB⟩⟩
 case round =>
  clear H'
  try clear c2
  try clear p2
  obtain ⟨aa, rfl, HA, HK1, ac, HB⟩ := hrel
  cases gk with
  | zero => exact absurd HA.out (by simp [lodgerref05_Held.l0])
  | succ k1 =>
   have H := HA.out; clear HA; simp only [lodgerref05_Held.l0] at H
   by_cases c4 : aa < (ab.length : Int)
   ·rw [if_pos c4] at H
    have an : decide (aa < (ab.length : Int)) = true := decide_eq_true c4
    clear c4
    by_cases c5 : 0 ≤ aa
    ·rw [if_pos c5] at H
     have bc : decide (0 ≤ aa) = true := decide_eq_true c5
     clear c5
     by_cases c6 : (rd ab aa) = a1
     ·rw [if_pos c6] at H
      have ao : ((rd ab aa) == a1) = true := beq_iff_eq.mpr c6
      have ap : ((rd ab aa) != a1) = false := bne_eq_false_iff_eq.mpr c6
      clear c6
      obtain rfl := Option.some.inj H
      obtain ⟨aq, ar, au, av, aw, ax, ay, aN, aO, aP, aQ, aR, aS, aT⟩ := cz7_ (w := wr) ac
      have p492 : 0 ≤ (aa : Int) := od_
      have q492 : aa < (ab.length : Int) := od_
      obtain ⟨ad492, e492, hx492_0⟩ := Kd.at_int al.out aa p492 q492
      cases e492
      replace hx492_0 := (HB.out.cell (World.block_lt_of_cell? w _ hx492_0)).trans hx492_0; replace p492 := eq_true p492; replace q492 := eq_true q492
      go_wp2
      go_ret
      exact ⟨er_, hB_ HB⟩
     ·rw [if_neg c6] at H
      have ao : ((rd ab aa) == a1) = false := beq_eq_false_iff_ne.mpr c6
      have ap : ((rd ab aa) != a1) = true := bne_iff_ne.mpr c6
      have H' := Aside0.mk H
      clear H; obtain ⟨az, aA, aB, aC, aD, aE, aF, aU, aV, aW, aX, aY, aZ, a0⟩ := cz7_ (w := wr) ac
      have p492 : 0 ≤ (aa : Int) := od_
      have q492 : aa < (ab.length : Int) := od_
      obtain ⟨ad492, e492, hx492_0⟩ := Kd.at_int al.out aa p492 q492
      cases e492
      replace hx492_0 := (HB.out.cell (World.block_lt_of_cell? w _ hx492_0)).trans hx492_0; replace p492 := eq_true p492; replace q492 := eq_true q492
      go_wp2
      go_roundg k1
      case measure => have := HK1.out; omega
      case rel => exact ⟨(wrap64 (aa + 1)), rs_, H', ⟨om_ HK1⟩, ⟨bk_ ac⟩, ⟨hB_ HB⟩⟩
    ·rw [if_neg c5] at H
     exact absurd H (by simp)
   ·rw [if_neg c4] at H
    have an : decide (aa < (ab.length : Int)) = false := decide_eq_false c4
    clear c4
    obtain rfl := Option.some.inj H
    obtain ⟨aG, aH, aI, aJ, aK, aL, aM, a2, a3, a4, a5, a6, a7, a8⟩ := cz7_ (w := wr) ac
    go_wp2
    go_ret
    exact ⟨er_, hB_ HB⟩

/-! ### lodgerref04_Many: function 45 -/
def lodgerref04_Many.l0 : Nat → Int → Int → Option (Int)
 | 0, _, _ => none
 | k + 1, x3, x4 => if x4 < 32 then (lodgerref04_Many.l0 k (wrap64 (2 * x3)) (wrap64 (x4 + 1))) else (some x3)
def lodgerref04_Many.f (k : Nat) (a0 : Int) : Option (Int) := lodgerref04_Many.l0 k 1 a0
theorem lodgerref04_Many.mono_l : ∀ k, (∀ y0 y1, LeO (lodgerref04_Many.l0 k y0 y1) (lodgerref04_Many.l0 (k + 1) y0 y1))
 | 0 => fun _ _ r h => by simp [lodgerref04_Many.l0] at h
 | k + 1 => by
  have ih0 := lodgerref04_Many.mono_l k
  ·intro y0 y1
   unfold lodgerref04_Many.l0
   repeat' (with_reducible first | apply ih0 | exact LeO.refl _ | exact LeO.none _ | refine LeO.ite ?_ ?_ | refine LeO.bind ?_ (fun _ => ?_))
theorem lodgerref04_Many.mono : ∀ a0 k, LeO (lodgerref04_Many.f k a0) (lodgerref04_Many.f (k + 1) a0) := by
 intro a0 k
 have ih0 := lodgerref04_Many.mono_l k
 unfold lodgerref04_Many.f
 repeat' (with_reducible first | apply ih0 | exact LeO.refl _ | exact LeO.none _ | refine LeO.ite ?_ ?_ | refine LeO.bind ?_ (fun _ => ?_))
set_option maxHeartbeats 8000000 in
set_option maxRecDepth 100000 in
theorem lodgerref04_Many.calls (k : Nat) (a0 r : Int) (w : World) (h : lodgerref04_Many.f k a0 = some r) :
  Calls Tryd.prog 45 #[.int .i64 a0] w fun e w' => e = .returned (.int .i64 r) ∧ Drawn0 w w' := by
 have H : (lodgerref04_Many.l0 k 1 a0) = some r := h
 clear h
 have H' := Aside0.mk H
 clear H
 go_enter Tryd.func45, Tryd.ntmps45
 go_wp2
 go_loopg [3, 4] k (fun kq v3 v4 w' => ∃ (ab aa : Int), v3 = .int .i64 ab ∧ v4 = .int .i64 aa ∧ Aside0 (lodgerref04_Many.l0 kq ab aa = some r) ∧ Aside0 (kq ≤ k) ∧ Drawn0 w w')
 case atStart => exact ⟨(1), (a0), rs_, rs_, H', ⟨Nat.le_refl _⟩, dn_⟩
 case round =>
  clear H'; obtain ⟨ab, aa, rfl, rfl, HA, HK1, ⟨m1, rfl⟩⟩ := hrel
  cases gk with
  | zero => exact absurd HA.out (by simp [lodgerref04_Many.l0])
  | succ k1 =>
   have H := HA.out; clear HA; simp only [lodgerref04_Many.l0] at H
   by_cases c2 : aa < 32
   ·rw [if_pos c2] at H
    have ac : decide (aa < 32) = true := decide_eq_true c2
    clear c2
    have H' := Aside0.mk H
    clear H
    go_wp2
    go_roundg k1
    case measure => have := HK1.out; omega
    case rel => exact ⟨(wrap64 (2 * ab)), (wrap64 (aa + 1)), rs_, rs_, H', ⟨om_ HK1⟩, dn_⟩
   ·rw [if_neg c2] at H
    have ac : decide (aa < 32) = false := decide_eq_false c2
    clear c2
    obtain rfl := Option.some.inj H
    go_wp2
    go_ret
    exact ⟨rs_, dn_⟩

end Go.Proofs.YtkiimboedgnoiaaDoor.PSpecTells
