/- The walk of SeekEnds, part of it: what the Go functions answer; no condition. -/
import Derived.Test.YtfhjeneegfmngaaQSeekEndsx0
import Derived.Test.YtfhjeneegfmngaaQSeekEndsx2
import Derived.Test.YtfhjeneegfmngaaQSeekEndsx3
import Derived.Test.YtfhjeneegfmngaaQSeekEndsx5
namespace Go.Proofs.Ytfhjeneegfmngaa.PSeekEnds
open Go.RowKit Go.Proofs.YtfhjeneegfmngaaW.PrintWords Go.Proofs.YtfhjeneegfmngaaW.PrintLast Go.Proofs.YtfhjeneegfmngaaW.PrintMore
attribute [local go_sem] max2_int min2_int max_two min_two max_three min_three max_four min_four   -- for this text's walks alone
set_option linter.unusedVariables false
set_option linter.unusedSimpArgs false

variable {tb_ : Int → Option Addr × Nat × Nat}

/-! ### lodgerlaw15_SeekEnds: function 3 -/
mutual
def lodgerlaw15_SeekEnds.j0 : Nat → List Int → Int → Bool → Int → Int → List Int → Int → Int → Int → Int → Option (Bool)
 | 0, _, _, _, _, _, _, _, _, _, _ => none
 | k + 1, x1, x2, x26, x315000, x315001, x315002, x315003, x315004, x315005, x315006 => if x26 = true then ((lodgerlaw15_awake.f k).bind fun t317 => (some t317)) else ((lodgerref05_Many.f k x315000 x315001).bind fun t318 => (if x315003 = 0 then (none) else ((lodgerref06_Tops.f k t318).bind fun t320 => (lodgerlaw15_SeekEnds.l0 k x1 t318 (wrap64 (x315003 * (wrap64 (2 + t320)))) 0 0 x315000 x315001 x315002 x315003 x315004 x315005 x315006 0 0 0 0 0 false 0 0 1 (Int.tmod (wrap64 (x2)) x315003) 0 0 0 0 false 0 0 0 0 0))))
def lodgerlaw15_SeekEnds.j2 : Nat → List Int → Int → Int → Int → Int → Int → List Int → Int → Int → Int → Int → Int → Int → Int → Int → Int → Bool → Int → Int → Int → Int → Int → Int → Int → Int → Bool → Int → Int → Int → Int → Int → Option (Bool)
 | 0, _, _, _, _, _, _, _, _, _, _, _, _, _, _, _, _, _, _, _, _, _, _, _, _, _, _, _, _, _, _, _ => none
 | k + 1, x1, x7, x9, x10, x315000, x315001, x315002, x315003, x315004, x315005, x315006, x320000, x320001, x320002, x320003, x320004, x320005, x320006, x320007, x320008, x320009, x320010, x320011, x320012, x320013, x320014, x320015, x320016, x320017, x320018, x320019 => if x320008 = 1 then (lodgerlaw15_SeekEnds.j3 k x1 x7 true x315000 x315001 x315002 x315003 x315004 x315005 x315006 x320000 x320001 x320002 x320003 x320004 x320005 x320006 x320007 x320008 x320009 x320010 x320011 x320012 x320013 x320014 x320015 x320016 x320017 x320018 x320019) else (lodgerlaw15_SeekEnds.j3 k x1 x7 (decide (x10 > x9)) x315000 x315001 x315002 x315003 x315004 x315005 x315006 x320000 x320001 x320002 x320003 x320004 x320005 x320006 x320007 x320008 x320009 x320010 x320011 x320012 x320013 x320014 x320015 x320016 x320017 x320018 x320019)
def lodgerlaw15_SeekEnds.j3 : Nat → List Int → Int → Bool → Int → Int → List Int → Int → Int → Int → Int → Int → Int → Int → Int → Int → Bool → Int → Int → Int → Int → Int → Int → Int → Int → Bool → Int → Int → Int → Int → Int → Option (Bool)
 | 0, _, _, _, _, _, _, _, _, _, _, _, _, _, _, _, _, _, _, _, _, _, _, _, _, _, _, _, _, _, _ => none
 | k + 1, x1, x7, x66, x315000, x315001, x315002, x315003, x315004, x315005, x315006, x320000, x320001, x320002, x320003, x320004, x320005, x320006, x320007, x320008, x320009, x320010, x320011, x320012, x320013, x320014, x320015, x320016, x320017, x320018, x320019 => if x66 = true then (some false) else (lodgerlaw15_SeekEnds.l1 k x1 x7 false 0 x315000 x315001 x315002 x315003 x315004 x315005 x315006 x320000 x320001 x320002 x320003 x320004 x320005 x320006 x320007 x320008 x320009 x320010 x320011 x320012 x320013 x320014 x320015 x320016 x320017 x320018 x320019)
def lodgerlaw15_SeekEnds.l1 : Nat → List Int → Int → Bool → Int → Int → Int → List Int → Int → Int → Int → Int → Int → Int → Int → Int → Int → Bool → Int → Int → Int → Int → Int → Int → Int → Int → Bool → Int → Int → Int → Int → Int → Option (Bool)
 | 0, _, _, _, _, _, _, _, _, _, _, _, _, _, _, _, _, _, _, _, _, _, _, _, _, _, _, _, _, _, _, _ => none
 | k + 1, x1, x7, x12, x13, x315000, x315001, x315002, x315003, x315004, x315005, x315006, x320000, x320001, x320002, x320003, x320004, x320005, x320006, x320007, x320008, x320009, x320010, x320011, x320012, x320013, x320014, x320015, x320016, x320017, x320018, x320019 => (lodgerref06_Leaves.f k x7).bind fun t341 => (if x13 < t341 then ((lodgerref06_Top.f k x7 x13).bind fun bt342 => ((lodgerref06_Root.f k x7 x13).bind fun bt344 => (if 0 ≤ bt342.1 then (if bt342.1 < (x1.length : Int) then ((lodgerref01_Has.f k (rd x1 bt342.1) bt342.2).bind fun t347 => (if t347 = true then (lodgerlaw15_SeekEnds.j5 k x1 x7 x12 x13 false x315000 x315001 x315002 x315003 x315004 x315005 x315006 x320000 x320001 x320002 x320003 x320004 x320005 x320006 x320007 x320008 x320009 x320010 x320011 x320012 x320013 x320014 x320015 x320016 x320017 x320018 x320019) else (if 0 ≤ bt344.1 then (if bt344.1 < (x1.length : Int) then ((lodgerref01_Has.f k (rd x1 bt344.1) bt344.2).bind fun t349 => (lodgerlaw15_SeekEnds.j5 k x1 x7 x12 x13 (!t349) x315000 x315001 x315002 x315003 x315004 x315005 x315006 x320000 x320001 x320002 x320003 x320004 x320005 x320006 x320007 x320008 x320009 x320010 x320011 x320012 x320013 x320014 x320015 x320016 x320017 x320018 x320019)) else (none)) else (none)))) else (none)) else (none)))) else (if ((x320008 == 2) == x12) = true then (if x12 = true then (some true) else (if x320008 = 6 then (some (x320010 == x315003)) else (some false))) else (some false)))
def lodgerlaw15_SeekEnds.j5 : Nat → List Int → Int → Bool → Int → Bool → Int → Int → List Int → Int → Int → Int → Int → Int → Int → Int → Int → Int → Bool → Int → Int → Int → Int → Int → Int → Int → Int → Bool → Int → Int → Int → Int → Int → Option (Bool)
 | 0, _, _, _, _, _, _, _, _, _, _, _, _, _, _, _, _, _, _, _, _, _, _, _, _, _, _, _, _, _, _, _, _ => none
 | k + 1, x1, x7, x12, x13, x18, x315000, x315001, x315002, x315003, x315004, x315005, x315006, x320000, x320001, x320002, x320003, x320004, x320005, x320006, x320007, x320008, x320009, x320010, x320011, x320012, x320013, x320014, x320015, x320016, x320017, x320018, x320019 => if x12 = true then (lodgerlaw15_SeekEnds.j6 k x1 x7 true x13 x18 x315000 x315001 x315002 x315003 x315004 x315005 x315006 x320000 x320001 x320002 x320003 x320004 x320005 x320006 x320007 x320008 x320009 x320010 x320011 x320012 x320013 x320014 x320015 x320016 x320017 x320018 x320019) else (lodgerlaw15_SeekEnds.j6 k x1 x7 x18 x13 x18 x315000 x315001 x315002 x315003 x315004 x315005 x315006 x320000 x320001 x320002 x320003 x320004 x320005 x320006 x320007 x320008 x320009 x320010 x320011 x320012 x320013 x320014 x320015 x320016 x320017 x320018 x320019)
def lodgerlaw15_SeekEnds.j6 : Nat → List Int → Int → Bool → Int → Bool → Int → Int → List Int → Int → Int → Int → Int → Int → Int → Int → Int → Int → Bool → Int → Int → Int → Int → Int → Int → Int → Int → Bool → Int → Int → Int → Int → Int → Option (Bool)
 | 0, _, _, _, _, _, _, _, _, _, _, _, _, _, _, _, _, _, _, _, _, _, _, _, _, _, _, _, _, _, _, _, _ => none
 | k + 1, x1, x7, x12, x13, x18, x315000, x315001, x315002, x315003, x315004, x315005, x315006, x320000, x320001, x320002, x320003, x320004, x320005, x320006, x320007, x320008, x320009, x320010, x320011, x320012, x320013, x320014, x320015, x320016, x320017, x320018, x320019 => if x320008 = 2 then (if x13 = x320011 then (if x18 = true then ((lodgerref12_Of.f k x7 x315003 x13).bind fun t350 => ((lodgerref12_Rest.f (wrap64 (x320009 + x320010)) x315003).bind fun t351 => (if t350 = t351 then (lodgerlaw15_SeekEnds.l1 k x1 x7 x12 (wrap64 (x13 + 1)) x315000 x315001 x315002 x315003 x315004 x315005 x315006 x320000 x320001 x320002 x320003 x320004 x320005 x320006 x320007 x320008 x320009 x320010 x320011 x320012 x320013 x320014 x320015 x320016 x320017 x320018 x320019) else (some false)))) else (some false)) else (lodgerlaw15_SeekEnds.l1 k x1 x7 x12 (wrap64 (x13 + 1)) x315000 x315001 x315002 x315003 x315004 x315005 x315006 x320000 x320001 x320002 x320003 x320004 x320005 x320006 x320007 x320008 x320009 x320010 x320011 x320012 x320013 x320014 x320015 x320016 x320017 x320018 x320019)) else (lodgerlaw15_SeekEnds.l1 k x1 x7 x12 (wrap64 (x13 + 1)) x315000 x315001 x315002 x315003 x315004 x315005 x315006 x320000 x320001 x320002 x320003 x320004 x320005 x320006 x320007 x320008 x320009 x320010 x320011 x320012 x320013 x320014 x320015 x320016 x320017 x320018 x320019)
def lodgerlaw15_SeekEnds.l0 : Nat → List Int → Int → Int → Int → Int → Int → Int → List Int → Int → Int → Int → Int → Int → Int → Int → Int → Int → Bool → Int → Int → Int → Int → Int → Int → Int → Int → Bool → Int → Int → Int → Int → Int → Option (Bool)
 | 0, _, _, _, _, _, _, _, _, _, _, _, _, _, _, _, _, _, _, _, _, _, _, _, _, _, _, _, _, _, _, _, _ => none
 | k + 1, x1, x7, x9, x10, x11, x315000, x315001, x315002, x315003, x315004, x315005, x315006, x320000, x320001, x320002, x320003, x320004, x320005, x320006, x320007, x320008, x320009, x320010, x320011, x320012, x320013, x320014, x320015, x320016, x320017, x320018, x320019 => if x11 < x9 then (if x320008 = 1 then ((seek_Step.f k x315000 x315001 x315002 x315003 x315004 x315005 x315006 x1 x320000 x320001 x320002 x320003 x320004 x320005 x320006 x320007 x320008 x320009 x320010 x320011 x320012 x320013 x320014 x320015 x320016 x320017 x320018 x320019).bind fun bt321 => (lodgerlaw15_SeekEnds.l0 k x1 x7 x9 (wrap64 (x10 + 1)) (wrap64 (x11 + 1)) x315000 x315001 x315002 x315003 x315004 x315005 x315006 bt321.1 bt321.2.1 bt321.2.2.1 bt321.2.2.2.1 bt321.2.2.2.2.1 bt321.2.2.2.2.2.1 bt321.2.2.2.2.2.2.1 bt321.2.2.2.2.2.2.2.1 bt321.2.2.2.2.2.2.2.2.1 bt321.2.2.2.2.2.2.2.2.2.1 bt321.2.2.2.2.2.2.2.2.2.2.1 bt321.2.2.2.2.2.2.2.2.2.2.2.1 bt321.2.2.2.2.2.2.2.2.2.2.2.2.1 bt321.2.2.2.2.2.2.2.2.2.2.2.2.2.1 bt321.2.2.2.2.2.2.2.2.2.2.2.2.2.2.1 bt321.2.2.2.2.2.2.2.2.2.2.2.2.2.2.2.1 bt321.2.2.2.2.2.2.2.2.2.2.2.2.2.2.2.2.1 bt321.2.2.2.2.2.2.2.2.2.2.2.2.2.2.2.2.2.1 bt321.2.2.2.2.2.2.2.2.2.2.2.2.2.2.2.2.2.2.1 bt321.2.2.2.2.2.2.2.2.2.2.2.2.2.2.2.2.2.2.2)) else (lodgerlaw15_SeekEnds.j2 k x1 x7 x9 x10 x315000 x315001 x315002 x315003 x315004 x315005 x315006 x320000 x320001 x320002 x320003 x320004 x320005 x320006 x320007 x320008 x320009 x320010 x320011 x320012 x320013 x320014 x320015 x320016 x320017 x320018 x320019)) else (lodgerlaw15_SeekEnds.j2 k x1 x7 x9 x10 x315000 x315001 x315002 x315003 x315004 x315005 x315006 x320000 x320001 x320002 x320003 x320004 x320005 x320006 x320007 x320008 x320009 x320010 x320011 x320012 x320013 x320014 x320015 x320016 x320017 x320018 x320019)
end
def lodgerlaw15_SeekEnds.f (k : Nat) (a0_0 a0_1 : Int) (l0_2 : List Int) (a0_3 a0_4 : Int) (a0_5 a0_6 : Int) (l1 : List Int) (a2 : Int) : Option (Bool) := (lodgerlaw15_awake.f k).bind fun t315 => (if t315 = true then ((lodgerref08_Fits.f k a0_0 a0_1 l0_2 a0_3 a0_4 a0_5 a0_6 l1).bind fun t316 => (lodgerlaw15_SeekEnds.j0 k l1 a2 (!t316) a0_0 a0_1 l0_2 a0_3 a0_4 a0_5 a0_6)) else (lodgerlaw15_SeekEnds.j0 k l1 a2 true a0_0 a0_1 l0_2 a0_3 a0_4 a0_5 a0_6))
theorem lodgerlaw15_SeekEnds.mono_l : ∀ k, (∀ y0 y1 y2 y3 y4 y5 y6 y7 y8 y9, LeO (lodgerlaw15_SeekEnds.j0 k y0 y1 y2 y3 y4 y5 y6 y7 y8 y9) (lodgerlaw15_SeekEnds.j0 (k + 1) y0 y1 y2 y3 y4 y5 y6 y7 y8 y9)) ∧ (∀ y0 y1 y2 y3 y4 y5 y6 y7 y8 y9 y10 y11 y12 y13 y14 y15 y16 y17 y18 y19 y20 y21 y22 y23 y24 y25 y26 y27 y28 y29 y30, LeO (lodgerlaw15_SeekEnds.j2 k y0 y1 y2 y3 y4 y5 y6 y7 y8 y9 y10 y11 y12 y13 y14 y15 y16 y17 y18 y19 y20 y21 y22 y23 y24 y25 y26 y27 y28 y29 y30) (lodgerlaw15_SeekEnds.j2 (k + 1) y0 y1 y2 y3 y4 y5 y6 y7 y8 y9 y10 y11 y12 y13 y14 y15 y16 y17 y18 y19 y20 y21 y22 y23 y24 y25 y26 y27 y28 y29 y30)) ∧ (∀ y0 y1 y2 y3 y4 y5 y6 y7 y8 y9 y10 y11 y12 y13 y14 y15 y16 y17 y18 y19 y20 y21 y22 y23 y24 y25 y26 y27 y28 y29, LeO (lodgerlaw15_SeekEnds.j3 k y0 y1 y2 y3 y4 y5 y6 y7 y8 y9 y10 y11 y12 y13 y14 y15 y16 y17 y18 y19 y20 y21 y22 y23 y24 y25 y26 y27 y28 y29) (lodgerlaw15_SeekEnds.j3 (k + 1) y0 y1 y2 y3 y4 y5 y6 y7 y8 y9 y10 y11 y12 y13 y14 y15 y16 y17 y18 y19 y20 y21 y22 y23 y24 y25 y26 y27 y28 y29)) ∧ (∀ y0 y1 y2 y3 y4 y5 y6 y7 y8 y9 y10 y11 y12 y13 y14 y15 y16 y17 y18 y19 y20 y21 y22 y23 y24 y25 y26 y27 y28 y29 y30, LeO (lodgerlaw15_SeekEnds.l1 k y0 y1 y2 y3 y4 y5 y6 y7 y8 y9 y10 y11 y12 y13 y14 y15 y16 y17 y18 y19 y20 y21 y22 y23 y24 y25 y26 y27 y28 y29 y30) (lodgerlaw15_SeekEnds.l1 (k + 1) y0 y1 y2 y3 y4 y5 y6 y7 y8 y9 y10 y11 y12 y13 y14 y15 y16 y17 y18 y19 y20 y21 y22 y23 y24 y25 y26 y27 y28 y29 y30)) ∧ (∀ y0 y1 y2 y3 y4 y5 y6 y7 y8 y9 y10 y11 y12 y13 y14 y15 y16 y17 y18 y19 y20 y21 y22 y23 y24 y25 y26 y27 y28 y29 y30 y31, LeO (lodgerlaw15_SeekEnds.j5 k y0 y1 y2 y3 y4 y5 y6 y7 y8 y9 y10 y11 y12 y13 y14 y15 y16 y17 y18 y19 y20 y21 y22 y23 y24 y25 y26 y27 y28 y29 y30 y31) (lodgerlaw15_SeekEnds.j5 (k + 1) y0 y1 y2 y3 y4 y5 y6 y7 y8 y9 y10 y11 y12 y13 y14 y15 y16 y17 y18 y19 y20 y21 y22 y23 y24 y25 y26 y27 y28 y29 y30 y31)) ∧ (∀ y0 y1 y2 y3 y4 y5 y6 y7 y8 y9 y10 y11 y12 y13 y14 y15 y16 y17 y18 y19 y20 y21 y22 y23 y24 y25 y26 y27 y28 y29 y30 y31, LeO (lodgerlaw15_SeekEnds.j6 k y0 y1 y2 y3 y4 y5 y6 y7 y8 y9 y10 y11 y12 y13 y14 y15 y16 y17 y18 y19 y20 y21 y22 y23 y24 y25 y26 y27 y28 y29 y30 y31) (lodgerlaw15_SeekEnds.j6 (k + 1) y0 y1 y2 y3 y4 y5 y6 y7 y8 y9 y10 y11 y12 y13 y14 y15 y16 y17 y18 y19 y20 y21 y22 y23 y24 y25 y26 y27 y28 y29 y30 y31)) ∧ (∀ y0 y1 y2 y3 y4 y5 y6 y7 y8 y9 y10 y11 y12 y13 y14 y15 y16 y17 y18 y19 y20 y21 y22 y23 y24 y25 y26 y27 y28 y29 y30 y31, LeO (lodgerlaw15_SeekEnds.l0 k y0 y1 y2 y3 y4 y5 y6 y7 y8 y9 y10 y11 y12 y13 y14 y15 y16 y17 y18 y19 y20 y21 y22 y23 y24 y25 y26 y27 y28 y29 y30 y31) (lodgerlaw15_SeekEnds.l0 (k + 1) y0 y1 y2 y3 y4 y5 y6 y7 y8 y9 y10 y11 y12 y13 y14 y15 y16 y17 y18 y19 y20 y21 y22 y23 y24 y25 y26 y27 y28 y29 y30 y31))
 | 0 => ⟨fun _ _ _ _ _ _ _ _ _ _ r h => by simp [lodgerlaw15_SeekEnds.j0] at h, fun _ _ _ _ _ _ _ _ _ _ _ _ _ _ _ _ _ _ _ _ _ _ _ _ _ _ _ _ _ _ _ r h => by simp [lodgerlaw15_SeekEnds.j2] at h, fun _ _ _ _ _ _ _ _ _ _ _ _ _ _ _ _ _ _ _ _ _ _ _ _ _ _ _ _ _ _ r h => by simp [lodgerlaw15_SeekEnds.j3] at h, fun _ _ _ _ _ _ _ _ _ _ _ _ _ _ _ _ _ _ _ _ _ _ _ _ _ _ _ _ _ _ _ r h => by simp [lodgerlaw15_SeekEnds.l1] at h, fun _ _ _ _ _ _ _ _ _ _ _ _ _ _ _ _ _ _ _ _ _ _ _ _ _ _ _ _ _ _ _ _ r h => by simp [lodgerlaw15_SeekEnds.j5] at h, fun _ _ _ _ _ _ _ _ _ _ _ _ _ _ _ _ _ _ _ _ _ _ _ _ _ _ _ _ _ _ _ _ r h => by simp [lodgerlaw15_SeekEnds.j6] at h, fun _ _ _ _ _ _ _ _ _ _ _ _ _ _ _ _ _ _ _ _ _ _ _ _ _ _ _ _ _ _ _ _ r h => by simp [lodgerlaw15_SeekEnds.l0] at h⟩
 | k + 1 => by
  obtain ⟨ih0, ih1, ih2, ih3, ih4, ih5, ih6⟩ := lodgerlaw15_SeekEnds.mono_l k
  refine ⟨?_, ?_, ?_, ?_, ?_, ?_, ?_⟩
  ·intro y0 y1 y2 y3 y4 y5 y6 y7 y8 y9
   unfold lodgerlaw15_SeekEnds.j0
   repeat' (with_reducible first | apply ih0 | apply ih1 | apply ih2 | apply ih3 | apply ih4 | apply ih5 | apply ih6 | apply lodgerlaw15_awake.mono | apply lodgerref01_Has.mono | apply lodgerref05_Many.mono | apply lodgerref06_Leaves.mono | apply lodgerref06_Root.mono | apply lodgerref06_Top.mono | apply lodgerref06_Tops.mono | apply lodgerref08_Fits.mono | apply lodgerref12_Of.mono | apply seek_Step.mono | exact LeO.refl _ | exact LeO.none _ | refine LeO.ite ?_ ?_ | refine LeO.bind ?_ (fun _ => ?_))
  ·intro y0 y1 y2 y3 y4 y5 y6 y7 y8 y9 y10 y11 y12 y13 y14 y15 y16 y17 y18 y19 y20 y21 y22 y23 y24 y25 y26 y27 y28 y29 y30
   unfold lodgerlaw15_SeekEnds.j2
   repeat' (with_reducible first | apply ih0 | apply ih1 | apply ih2 | apply ih3 | apply ih4 | apply ih5 | apply ih6 | apply lodgerlaw15_awake.mono | apply lodgerref01_Has.mono | apply lodgerref05_Many.mono | apply lodgerref06_Leaves.mono | apply lodgerref06_Root.mono | apply lodgerref06_Top.mono | apply lodgerref06_Tops.mono | apply lodgerref08_Fits.mono | apply lodgerref12_Of.mono | apply seek_Step.mono | exact LeO.refl _ | exact LeO.none _ | refine LeO.ite ?_ ?_ | refine LeO.bind ?_ (fun _ => ?_))
  ·intro y0 y1 y2 y3 y4 y5 y6 y7 y8 y9 y10 y11 y12 y13 y14 y15 y16 y17 y18 y19 y20 y21 y22 y23 y24 y25 y26 y27 y28 y29
   unfold lodgerlaw15_SeekEnds.j3
   repeat' (with_reducible first | apply ih0 | apply ih1 | apply ih2 | apply ih3 | apply ih4 | apply ih5 | apply ih6 | apply lodgerlaw15_awake.mono | apply lodgerref01_Has.mono | apply lodgerref05_Many.mono | apply lodgerref06_Leaves.mono | apply lodgerref06_Root.mono | apply lodgerref06_Top.mono | apply lodgerref06_Tops.mono | apply lodgerref08_Fits.mono | apply lodgerref12_Of.mono | apply seek_Step.mono | exact LeO.refl _ | exact LeO.none _ | refine LeO.ite ?_ ?_ | refine LeO.bind ?_ (fun _ => ?_))
  ·intro y0 y1 y2 y3 y4 y5 y6 y7 y8 y9 y10 y11 y12 y13 y14 y15 y16 y17 y18 y19 y20 y21 y22 y23 y24 y25 y26 y27 y28 y29 y30
   unfold lodgerlaw15_SeekEnds.l1
   repeat' (with_reducible first | apply ih0 | apply ih1 | apply ih2 | apply ih3 | apply ih4 | apply ih5 | apply ih6 | apply lodgerlaw15_awake.mono | apply lodgerref01_Has.mono | apply lodgerref05_Many.mono | apply lodgerref06_Leaves.mono | apply lodgerref06_Root.mono | apply lodgerref06_Top.mono | apply lodgerref06_Tops.mono | apply lodgerref08_Fits.mono | apply lodgerref12_Of.mono | apply seek_Step.mono | exact LeO.refl _ | exact LeO.none _ | refine LeO.ite ?_ ?_ | refine LeO.bind ?_ (fun _ => ?_))
  ·intro y0 y1 y2 y3 y4 y5 y6 y7 y8 y9 y10 y11 y12 y13 y14 y15 y16 y17 y18 y19 y20 y21 y22 y23 y24 y25 y26 y27 y28 y29 y30 y31
   unfold lodgerlaw15_SeekEnds.j5
   repeat' (with_reducible first | apply ih0 | apply ih1 | apply ih2 | apply ih3 | apply ih4 | apply ih5 | apply ih6 | apply lodgerlaw15_awake.mono | apply lodgerref01_Has.mono | apply lodgerref05_Many.mono | apply lodgerref06_Leaves.mono | apply lodgerref06_Root.mono | apply lodgerref06_Top.mono | apply lodgerref06_Tops.mono | apply lodgerref08_Fits.mono | apply lodgerref12_Of.mono | apply seek_Step.mono | exact LeO.refl _ | exact LeO.none _ | refine LeO.ite ?_ ?_ | refine LeO.bind ?_ (fun _ => ?_))
  ·intro y0 y1 y2 y3 y4 y5 y6 y7 y8 y9 y10 y11 y12 y13 y14 y15 y16 y17 y18 y19 y20 y21 y22 y23 y24 y25 y26 y27 y28 y29 y30 y31
   unfold lodgerlaw15_SeekEnds.j6
   repeat' (with_reducible first | apply ih0 | apply ih1 | apply ih2 | apply ih3 | apply ih4 | apply ih5 | apply ih6 | apply lodgerlaw15_awake.mono | apply lodgerref01_Has.mono | apply lodgerref05_Many.mono | apply lodgerref06_Leaves.mono | apply lodgerref06_Root.mono | apply lodgerref06_Top.mono | apply lodgerref06_Tops.mono | apply lodgerref08_Fits.mono | apply lodgerref12_Of.mono | apply seek_Step.mono | exact LeO.refl _ | exact LeO.none _ | refine LeO.ite ?_ ?_ | refine LeO.bind ?_ (fun _ => ?_))
  ·intro y0 y1 y2 y3 y4 y5 y6 y7 y8 y9 y10 y11 y12 y13 y14 y15 y16 y17 y18 y19 y20 y21 y22 y23 y24 y25 y26 y27 y28 y29 y30 y31
   unfold lodgerlaw15_SeekEnds.l0
   repeat' (with_reducible first | apply ih0 | apply ih1 | apply ih2 | apply ih3 | apply ih4 | apply ih5 | apply ih6 | apply lodgerlaw15_awake.mono | apply lodgerref01_Has.mono | apply lodgerref05_Many.mono | apply lodgerref06_Leaves.mono | apply lodgerref06_Root.mono | apply lodgerref06_Top.mono | apply lodgerref06_Tops.mono | apply lodgerref08_Fits.mono | apply lodgerref12_Of.mono | apply seek_Step.mono | exact LeO.refl _ | exact LeO.none _ | refine LeO.ite ?_ ?_ | refine LeO.bind ?_ (fun _ => ?_))
theorem lodgerlaw15_SeekEnds.mono : ∀ a0 a1 a2 a3 a4 a5 a6 a7 a8 k, LeO (lodgerlaw15_SeekEnds.f k a0 a1 a2 a3 a4 a5 a6 a7 a8) (lodgerlaw15_SeekEnds.f (k + 1) a0 a1 a2 a3 a4 a5 a6 a7 a8) := by
 intro a0 a1 a2 a3 a4 a5 a6 a7 a8 k
 obtain ⟨ih0, ih1, ih2, ih3, ih4, ih5, ih6⟩ := lodgerlaw15_SeekEnds.mono_l k
 unfold lodgerlaw15_SeekEnds.f
 repeat' (with_reducible first | apply ih0 | apply ih1 | apply ih2 | apply ih3 | apply ih4 | apply ih5 | apply ih6 | apply lodgerlaw15_awake.mono | apply lodgerref01_Has.mono | apply lodgerref05_Many.mono | apply lodgerref06_Leaves.mono | apply lodgerref06_Root.mono | apply lodgerref06_Top.mono | apply lodgerref06_Tops.mono | apply lodgerref08_Fits.mono | apply lodgerref12_Of.mono | apply seek_Step.mono | exact LeO.refl _ | exact LeO.none _ | refine LeO.ite ?_ ?_ | refine LeO.bind ?_ (fun _ => ?_))
set_option maxHeartbeats 8000000 in
set_option maxRecDepth 100000 in
theorem lodgerlaw15_SeekEnds.calls (k : Nat) (az aA : Int) (cb : Option Addr) (cd : Nat) (aB : List Int) (ae aE : Int) (aF aG : Int) (A1 : Option Addr) (c1 : Nat) (l1 : List Int) (a2 : Int) (r : Bool) (w : World) (hr0_2 : Kd.C (Kd.int .i64) w cb aB.length aB) (hc0_2 : aB.length ≤ cd) (hr1 : Kd.C (Kd.int .u64) w A1 l1.length l1) (hc1 : l1.length ≤ c1) (hr_ : r = true) (h : lodgerlaw15_SeekEnds.f k az aA aB ae aE aF aG l1 a2 = some r) :
  Calls Try.prog 3 #[.agg #[.int .u32 az, .int .i64 aA, .slice cb aB.length cd, .int .i64 ae, .int .i64 aE, .int .i64 aF, .int .i64 aG], .slice A1 l1.length c1, .int .u8 a2] w fun e w' => e = .returned (.bool r) ∧ Below w.heap.size w w' := by
 have hu27 := Try.underlying27
 have hu24 := Try.underlying24
 have hu41 := Try.underlying41
 have dr := Aside0.mk hr0_2
 have dq := Aside0.mk hc0_2
 clear hr0_2 hc0_2
 have dn := Aside0.mk hr1
 have ee := Aside0.mk hc1
 clear hr1 hc1
 have HB := Aside0.mk (Below.refl w.heap.size w)
 replace hr_ := Aside0.mk hr_
 have H : ((lodgerlaw15_awake.f k).bind fun eE => (if eE = true then ((lodgerref08_Fits.f k az aA aB ae aE aF aG l1).bind fun cE => (lodgerlaw15_SeekEnds.j0 k l1 a2 (!cE) az aA aB ae aE aF aG)) else (lodgerlaw15_SeekEnds.j0 k l1 a2 true az aA aB ae aE aF aG))) = some r := h
 clear h
 have eW := Aside0.mk H
 clear H
 go_enter Try.func3, Try.ntmps3
 go_upto_region 1 with (first | ((with_reducible refine gd_ 55 ?_); first | refine ld_ aa hu41 ?_ | refine ldS_ aa hu41 ?_) | ((with_reducible refine gs_ (ty := 41) rfl ?_); first | (refine st7_ aa ab (by first | assumption | (exact Ne.symm (by assumption))) ?_; intro s7_; obtain ⟨s7a, s7b, s7c, s7d, s7e, s7f, s7g, s7h, s7i, s7j, s7k, s7l, s7m, s7n⟩ := cz7_ s7_; clear s7_) | refine st_ aa ?_) | ((with_reducible refine gd_ 3 ?_); refine bx_ (N := 3) (cs := #[.int .u32 az, .int .i64 aA, .slice cb aB.length cd, .int .i64 ae, .int .i64 aE, .int .i64 aF, .int .i64 aG]) (t := 27) ?_; intro cg hg w5 ab hb; have eL := gG_ hg HB; have eJ := gG_ hg HB; replace HB := hS_ HB hb; clear hb hg))
 repeat (go_quiet (first | ((with_reducible refine gd_ 55 ?_); first | refine ld_ aa hu41 ?_ | refine ldS_ aa hu41 ?_) | ((with_reducible refine gs_ (ty := 41) rfl ?_); first | (refine st7_ aa ab (by first | assumption | (exact Ne.symm (by assumption))) ?_; intro s7_; obtain ⟨s7a, s7b, s7c, s7d, s7e, s7f, s7g, s7h, s7i, s7j, s7k, s7l, s7m, s7n⟩ := cz7_ s7_; clear s7_) | refine st_ aa ?_) | ((with_reducible refine gd_ 3 ?_); refine bx_ (N := 3) (cs := #[.int .u32 az, .int .i64 aA, .slice cb aB.length cd, .int .i64 ae, .int .i64 aE, .int .i64 aF, .int .i64 aG]) (t := 27) ?_; intro cg hg w5 ab hb; have eL := gG_ hg HB; have eJ := gG_ hg HB; replace HB := hS_ HB hb; clear hb hg)); go_upto_region 1 with (first | ((with_reducible refine gd_ 55 ?_); first | refine ld_ aa hu41 ?_ | refine ldS_ aa hu41 ?_) | ((with_reducible refine gs_ (ty := 41) rfl ?_); first | (refine st7_ aa ab (by first | assumption | (exact Ne.symm (by assumption))) ?_; intro s7_; obtain ⟨s7a, s7b, s7c, s7d, s7e, s7f, s7g, s7h, s7i, s7j, s7k, s7l, s7m, s7n⟩ := cz7_ s7_; clear s7_) | refine st_ aa ?_) | ((with_reducible refine gd_ 3 ?_); refine bx_ (N := 3) (cs := #[.int .u32 az, .int .i64 aA, .slice cb aB.length cd, .int .i64 ae, .int .i64 aE, .int .i64 aF, .int .i64 aG]) (t := 27) ?_; intro cg hg w5 ab hb; have eL := gG_ hg HB; have eJ := gG_ hg HB; replace HB := hS_ HB hb; clear hb hg)))
 (try simp only [Act.put, List.setIfInBounds_toArray, List.set_cons_zero, List.set_cons_succ, i64_w, i32_w])
 go_cut [26] (fun v26 wc => ∃ (kq : Nat) (dL : Bool), v26 = .bool dL ∧ Aside0 (lodgerlaw15_SeekEnds.j0 kq l1 a2 dL az aA aB ae aE aF aG = some r) ∧ Aside0 (kq ≤ k) ∧ Aside0 (wc.heap[cg]? = some (.cells #[.int .u32 az, .int .i64 aA, (.slice cb aB.length cd), .int .i64 ae, .int .i64 aE, .int .i64 aF, .int .i64 aG] 27 (0, 0))) ∧ Aside0 (Below w.heap.size w wc))
 case first =>
  have H := eW.out; clear eW; replace H := bi_ H; obtain ⟨eE, A60, H⟩ := H
  replace H : (if eE = true then ((lodgerref08_Fits.f k az aA aB ae aE aF aG l1).bind fun cE => (lodgerlaw15_SeekEnds.j0 k l1 a2 (!cE) az aA aB ae aE aF aG)) else (lodgerlaw15_SeekEnds.j0 k l1 a2 true az aA aB ae aE aF aG)) = some r := H
  have A6 := Aside0.mk A60; clear A60
  by_cases c7 : eE = true
  ·subst c7
   have H1 : ((lodgerref08_Fits.f k az aA aB ae aE aF aG l1).bind fun cE => (lodgerlaw15_SeekEnds.j0 k l1 a2 (!cE) az aA aB ae aE aF aG)) = some r := pf_ rfl H
   clear H; have H := H1; clear H1; replace H := bi_ H; obtain ⟨cE, A80, H⟩ := H
   replace H : (lodgerlaw15_SeekEnds.j0 k l1 a2 (!cE) az aA aB ae aE aF aG) = some r := H
   have A8 := Aside0.mk A80; clear A80
   have H' := Aside0.mk H
   clear H
   go_wp2_with (first | ((with_reducible refine gd_ 55 ?_); first | refine ld_ aa hu41 ?_ | refine ldS_ aa hu41 ?_) | ((with_reducible refine gs_ (ty := 41) rfl ?_); first | (refine st7_ aa ab (by first | assumption | (exact Ne.symm (by assumption))) ?_; intro s7_; obtain ⟨s7a, s7b, s7c, s7d, s7e, s7f, s7g, s7h, s7i, s7j, s7k, s7l, s7m, s7n⟩ := cz7_ s7_; clear s7_) | refine st_ aa ?_) | (go_at_call 7; (with_reducible refine (lodgerlaw15_awake.calls k  true _ A6.out).mono ?_); rintro e w9 ⟨rfl, hb⟩; replace HB := hS_ HB hb; replace ab := bB_ ab hb; (try clear hb); obtain ⟨bb, bc, bd, be, bf, bg, bh, bi, bj, bk, bl, bm, bn, bo⟩ := cz7_ (w := w9) ab) | (go_at_call 8; (with_reducible refine (lodgerref08_Fits.calls k az aA _ _ aB ae aE aF aG _ _ l1 cE _ (cC_ dr HB) dq.out (cC_ dn HB) ee.out A8.out).mono ?_); rintro e w11 ⟨rfl, hb⟩; replace HB := hS_ HB hb; replace ab := bB_ ab hb; (try clear hb)))
   repeat (go_quiet (first | ((with_reducible refine gd_ 55 ?_); first | refine ld_ aa hu41 ?_ | refine ldS_ aa hu41 ?_) | ((with_reducible refine gs_ (ty := 41) rfl ?_); first | (refine st7_ aa ab (by first | assumption | (exact Ne.symm (by assumption))) ?_; intro s7_; obtain ⟨s7a, s7b, s7c, s7d, s7e, s7f, s7g, s7h, s7i, s7j, s7k, s7l, s7m, s7n⟩ := cz7_ s7_; clear s7_) | refine st_ aa ?_) | (go_at_call 7; (with_reducible refine (lodgerlaw15_awake.calls k  true _ A6.out).mono ?_); rintro e w9 ⟨rfl, hb⟩; replace HB := hS_ HB hb; replace ab := bB_ ab hb; (try clear hb); obtain ⟨bb, bc, bd, be, bf, bg, bh, bi, bj, bk, bl, bm, bn, bo⟩ := cz7_ (w := w9) ab) | (go_at_call 8; (with_reducible refine (lodgerref08_Fits.calls k az aA _ _ aB ae aE aF aG _ _ l1 cE _ (cC_ dr HB) dq.out (cC_ dn HB) ee.out A8.out).mono ?_); rintro e w11 ⟨rfl, hb⟩; replace HB := hS_ HB hb; replace ab := bB_ ab hb; (try clear hb))); try go_wp2_with (first | ((with_reducible refine gd_ 55 ?_); first | refine ld_ aa hu41 ?_ | refine ldS_ aa hu41 ?_) | ((with_reducible refine gs_ (ty := 41) rfl ?_); first | (refine st7_ aa ab (by first | assumption | (exact Ne.symm (by assumption))) ?_; intro s7_; obtain ⟨s7a, s7b, s7c, s7d, s7e, s7f, s7g, s7h, s7i, s7j, s7k, s7l, s7m, s7n⟩ := cz7_ s7_; clear s7_) | refine st_ aa ?_) | (go_at_call 7; (with_reducible refine (lodgerlaw15_awake.calls k  true _ A6.out).mono ?_); rintro e w9 ⟨rfl, hb⟩; replace HB := hS_ HB hb; replace ab := bB_ ab hb; (try clear hb); obtain ⟨bb, bc, bd, be, bf, bg, bh, bi, bj, bk, bl, bm, bn, bo⟩ := cz7_ (w := w9) ab) | (go_at_call 8; (with_reducible refine (lodgerref08_Fits.calls k az aA _ _ aB ae aE aF aG _ _ l1 cE _ (cC_ dr HB) dq.out (cC_ dn HB) ee.out A8.out).mono ?_); rintro e w11 ⟨rfl, hb⟩; replace HB := hS_ HB hb; replace ab := bB_ ab hb; (try clear hb))))
   go_meet
   case rel => exact ⟨_, (!cE), rs_, H', ⟨by first | omega | exact Nat.le_refl _⟩, ⟨bk_ ab⟩, ⟨hB_ HB⟩⟩
  ·replace c7 := Bool.eq_false_iff.mpr c7
   subst c7
   have H1 : (lodgerlaw15_SeekEnds.j0 k l1 a2 true az aA aB ae aE aF aG) = some r := nf_ H
   clear H; have H := H1; clear H1
   have H' := Aside0.mk H
   clear H
   go_wp2_with (first | ((with_reducible refine gd_ 55 ?_); first | refine ld_ aa hu41 ?_ | refine ldS_ aa hu41 ?_) | ((with_reducible refine gs_ (ty := 41) rfl ?_); first | (refine st7_ aa ab (by first | assumption | (exact Ne.symm (by assumption))) ?_; intro s7_; obtain ⟨s7a, s7b, s7c, s7d, s7e, s7f, s7g, s7h, s7i, s7j, s7k, s7l, s7m, s7n⟩ := cz7_ s7_; clear s7_) | refine st_ aa ?_) | (go_at_call 7; (with_reducible refine (lodgerlaw15_awake.calls k  false _ A6.out).mono ?_); rintro e w12 ⟨rfl, hb⟩; replace HB := hS_ HB hb; replace ab := bB_ ab hb; (try clear hb)))
   repeat (go_quiet (first | ((with_reducible refine gd_ 55 ?_); first | refine ld_ aa hu41 ?_ | refine ldS_ aa hu41 ?_) | ((with_reducible refine gs_ (ty := 41) rfl ?_); first | (refine st7_ aa ab (by first | assumption | (exact Ne.symm (by assumption))) ?_; intro s7_; obtain ⟨s7a, s7b, s7c, s7d, s7e, s7f, s7g, s7h, s7i, s7j, s7k, s7l, s7m, s7n⟩ := cz7_ s7_; clear s7_) | refine st_ aa ?_) | (go_at_call 7; (with_reducible refine (lodgerlaw15_awake.calls k  false _ A6.out).mono ?_); rintro e w12 ⟨rfl, hb⟩; replace HB := hS_ HB hb; replace ab := bB_ ab hb; (try clear hb))); try go_wp2_with (first | ((with_reducible refine gd_ 55 ?_); first | refine ld_ aa hu41 ?_ | refine ldS_ aa hu41 ?_) | ((with_reducible refine gs_ (ty := 41) rfl ?_); first | (refine st7_ aa ab (by first | assumption | (exact Ne.symm (by assumption))) ?_; intro s7_; obtain ⟨s7a, s7b, s7c, s7d, s7e, s7f, s7g, s7h, s7i, s7j, s7k, s7l, s7m, s7n⟩ := cz7_ s7_; clear s7_) | refine st_ aa ?_) | (go_at_call 7; (with_reducible refine (lodgerlaw15_awake.calls k  false _ A6.out).mono ?_); rintro e w12 ⟨rfl, hb⟩; replace HB := hS_ HB hb; replace ab := bB_ ab hb; (try clear hb))))
   go_meet
   case rel => exact ⟨_, (true), rs_, H', ⟨by first | omega | exact Nat.le_refl _⟩, ⟨bk_ ab⟩, ⟨hB_ HB⟩⟩
 case rest =>
  clear eW
  try clear c1
  try clear p2
  try clear c3
  try clear c7
  try clear bb bc bd be bf bg bh
  try clear bi bj bk bl bm bn bo
  obtain ⟨kq, dL, rfl, HA, ce, ab, HB⟩ := hcut
  cases kq with
  | zero => exact absurd HA.out (by simp [lodgerlaw15_SeekEnds.j0])
  | succ kj3 =>
   have H := HA.out; clear HA; simp only [lodgerlaw15_SeekEnds.j0] at H
   by_cases c13 : dL = true
   ·subst c13
    have H1 : ((lodgerlaw15_awake.f kj3).bind fun dJ => (some dJ)) = some r := pf_ rfl H
    clear H; have H := H1; clear H1; replace H := bi_ H; obtain ⟨dJ, A140, H⟩ := H
    replace H : (some dJ) = some r := H
    have A14 := Aside0.mk A140; clear A140
    first | (exfalso; rw [hr_.out] at H; exact absurd (Option.some.inj H) (by decide)) | (try clear hr_)
    all_goals
     obtain rfl := Option.some.inj H
     go_wp2_with (first | ((with_reducible refine gd_ 55 ?_); first | refine ld_ aa hu41 ?_ | refine ldS_ aa hu41 ?_) | ((with_reducible refine gs_ (ty := 41) rfl ?_); first | (refine st7_ aa ab (by first | assumption | (exact Ne.symm (by assumption))) ?_; intro s7_; obtain ⟨s7a, s7b, s7c, s7d, s7e, s7f, s7g, s7h, s7i, s7j, s7k, s7l, s7m, s7n⟩ := cz7_ s7_; clear s7_) | refine st_ aa ?_) | (go_at_call 7; (with_reducible refine (lodgerlaw15_awake.calls kj3  dJ _ A14.out).mono ?_); rintro e w15 ⟨rfl, hb⟩; replace HB := hS_ HB hb; replace ab := bB_ ab hb; (try clear hb)))
     repeat (go_quiet (first | ((with_reducible refine gd_ 55 ?_); first | refine ld_ aa hu41 ?_ | refine ldS_ aa hu41 ?_) | ((with_reducible refine gs_ (ty := 41) rfl ?_); first | (refine st7_ aa ab (by first | assumption | (exact Ne.symm (by assumption))) ?_; intro s7_; obtain ⟨s7a, s7b, s7c, s7d, s7e, s7f, s7g, s7h, s7i, s7j, s7k, s7l, s7m, s7n⟩ := cz7_ s7_; clear s7_) | refine st_ aa ?_) | (go_at_call 7; (with_reducible refine (lodgerlaw15_awake.calls kj3  dJ _ A14.out).mono ?_); rintro e w15 ⟨rfl, hb⟩; replace HB := hS_ HB hb; replace ab := bB_ ab hb; (try clear hb))); try go_wp2_with (first | ((with_reducible refine gd_ 55 ?_); first | refine ld_ aa hu41 ?_ | refine ldS_ aa hu41 ?_) | ((with_reducible refine gs_ (ty := 41) rfl ?_); first | (refine st7_ aa ab (by first | assumption | (exact Ne.symm (by assumption))) ?_; intro s7_; obtain ⟨s7a, s7b, s7c, s7d, s7e, s7f, s7g, s7h, s7i, s7j, s7k, s7l, s7m, s7n⟩ := cz7_ s7_; clear s7_) | refine st_ aa ?_) | (go_at_call 7; (with_reducible refine (lodgerlaw15_awake.calls kj3  dJ _ A14.out).mono ?_); rintro e w15 ⟨rfl, hb⟩; replace HB := hS_ HB hb; replace ab := bB_ ab hb; (try clear hb))))
     go_ret
     exact ⟨er_, hB_ HB⟩
   ·replace c13 := Bool.eq_false_iff.mpr c13
    subst c13
    have H1 : ((lodgerref05_Many.f kj3 az aA).bind fun aC => (if ae = 0 then (none) else ((lodgerref06_Tops.f kj3 aC).bind fun bt => (lodgerlaw15_SeekEnds.l0 kj3 l1 aC (wrap64 (ae * (wrap64 (2 + bt)))) 0 0 az aA aB ae aE aF aG 0 0 0 0 0 false 0 0 1 (Int.tmod (wrap64 (a2)) ae) 0 0 0 0 false 0 0 0 0 0)))) = some r := nf_ H
    clear H; have H := H1; clear H1; replace H := bi_ H; obtain ⟨aC, A160, H⟩ := H
    replace H : (if ae = 0 then (none) else ((lodgerref06_Tops.f kj3 aC).bind fun bt => (lodgerlaw15_SeekEnds.l0 kj3 l1 aC (wrap64 (ae * (wrap64 (2 + bt)))) 0 0 az aA aB ae aE aF aG 0 0 0 0 0 false 0 0 1 (Int.tmod (wrap64 (a2)) ae) 0 0 0 0 false 0 0 0 0 0))) = some r := H
    have A16 := Aside0.mk A160; clear A160
    by_cases c17 : ae = 0
    ·rw [if_pos c17] at H
     exact absurd H (by simp)
    ·rw [if_neg c17] at H
     have dt : (ae == 0) = false := beq_eq_false_iff_ne.mpr c17
     have du : (ae != 0) = true := bne_iff_ne.mpr c17
     replace H := bi_ H; obtain ⟨bt, A180, H⟩ := H
     replace H : (lodgerlaw15_SeekEnds.l0 kj3 l1 aC (wrap64 (ae * (wrap64 (2 + bt)))) 0 0 az aA aB ae aE aF aG 0 0 0 0 0 false 0 0 1 (Int.tmod (wrap64 (a2)) ae) 0 0 0 0 false 0 0 0 0 0) = some r := H
     have A18 := Aside0.mk A180; clear A180; have eF := Aside0.mk H; clear H; obtain ⟨ch, ci, cj, ck, cl, cm, cn, co, cp, cq, cr, ct, cu, cv⟩ := cz7_ (w := wc) ab
     go_upto_block 0 with (first | ((with_reducible refine gd_ 55 ?_); first | refine ld_ aa hu41 ?_ | refine ldS_ aa hu41 ?_) | ((with_reducible refine gs_ (ty := 41) rfl ?_); first | (refine st7_ aa ab (by first | assumption | (exact Ne.symm (by assumption))) ?_; intro s7_; obtain ⟨s7a, s7b, s7c, s7d, s7e, s7f, s7g, s7h, s7i, s7j, s7k, s7l, s7m, s7n⟩ := cz7_ s7_; clear s7_) | refine st_ aa ?_) | (go_at_call 9; (with_reducible refine (lodgerref05_Many.calls kj3 az aA aC _ A16.out).mono ?_); rintro e w21 ⟨rfl, hb⟩; replace HB := hS_ HB hb; replace ab := bB_ ab hb; (try clear hb); obtain ⟨bv, bw, bx, bz, bA, bB, bC, bM, bN, bO, bP, bQ, bR, bS⟩ := cz7_ (w := w21) ab) | ((with_reducible refine gd_ 8 ?_); refine bx_ (N := 8) (cs := #[.int .i64 0, .int .u32 0, rho_ tb0_ 0, .int .i64 0, .int .u32 0, .bool false, rho_ tb0_ 0, rho_ tb0_ 0, .int .i64 0, .int .i64 0, .int .i64 0, .int .i64 0, .int .i64 0, .int .u64 0, .bool false, rho_ tb0_ 0, .int .i64 0, .int .i64 0, .int .i64 0, .int .i64 0]) (t := 41) ?_; intro b2 hg w23 aa hb; have eM := gG_ hg HB; have eK := gG_ hg HB; replace HB := hS_ HB hb; have aH := nL_ hg ab; have aI := nG_ hg ab; replace ab := bB_ ab hb; clear hb hg; have eQ := aI.out; have eT := aH.out; obtain ⟨bD, bT⟩ := c20_8 (w := w23) aa; obtain ⟨bE, bU⟩ := c20_9 (w := w23) aa; obtain ⟨a7, a9⟩ := c20_10 (w := w23) aa; obtain ⟨a8, ba⟩ := c20_11 (w := w23) aa; obtain ⟨bF, bG, bH, bI, bJ, bK, bL, bV, bW, bX, bY, bZ, b0, b1⟩ := cz7_ (w := w23) ab) | (go_at_call 10; (with_reducible refine (lodgerref06_Tops.calls kj3 aC bt _ A18.out).mono ?_); rintro e w' ⟨rfl, ⟨nd, rfl⟩⟩; (try first | exact ⟨rfl, _, World.drewN_drewN _ _ _⟩ | exact ⟨rfl, _, Eq.trans (World.drewN_drewN _ _ _) (congrArg (World.drewN _) (Nat.add_assoc _ _ _))⟩)))
     repeat (go_quiet (first | ((with_reducible refine gd_ 55 ?_); first | refine ld_ aa hu41 ?_ | refine ldS_ aa hu41 ?_) | ((with_reducible refine gs_ (ty := 41) rfl ?_); first | (refine st7_ aa ab (by first | assumption | (exact Ne.symm (by assumption))) ?_; intro s7_; obtain ⟨s7a, s7b, s7c, s7d, s7e, s7f, s7g, s7h, s7i, s7j, s7k, s7l, s7m, s7n⟩ := cz7_ s7_; clear s7_) | refine st_ aa ?_) | (go_at_call 9; (with_reducible refine (lodgerref05_Many.calls kj3 az aA aC _ A16.out).mono ?_); rintro e w21 ⟨rfl, hb⟩; replace HB := hS_ HB hb; replace ab := bB_ ab hb; (try clear hb); obtain ⟨bv, bw, bx, bz, bA, bB, bC, bM, bN, bO, bP, bQ, bR, bS⟩ := cz7_ (w := w21) ab) | ((with_reducible refine gd_ 8 ?_); refine bx_ (N := 8) (cs := #[.int .i64 0, .int .u32 0, rho_ tb0_ 0, .int .i64 0, .int .u32 0, .bool false, rho_ tb0_ 0, rho_ tb0_ 0, .int .i64 0, .int .i64 0, .int .i64 0, .int .i64 0, .int .i64 0, .int .u64 0, .bool false, rho_ tb0_ 0, .int .i64 0, .int .i64 0, .int .i64 0, .int .i64 0]) (t := 41) ?_; intro b2 hg w23 aa hb; have eM := gG_ hg HB; have eK := gG_ hg HB; replace HB := hS_ HB hb; have aH := nL_ hg ab; have aI := nG_ hg ab; replace ab := bB_ ab hb; clear hb hg; have eQ := aI.out; have eT := aH.out; obtain ⟨bD, bT⟩ := c20_8 (w := w23) aa; obtain ⟨bE, bU⟩ := c20_9 (w := w23) aa; obtain ⟨a7, a9⟩ := c20_10 (w := w23) aa; obtain ⟨a8, ba⟩ := c20_11 (w := w23) aa; obtain ⟨bF, bG, bH, bI, bJ, bK, bL, bV, bW, bX, bY, bZ, b0, b1⟩ := cz7_ (w := w23) ab) | (go_at_call 10; (with_reducible refine (lodgerref06_Tops.calls kj3 aC bt _ A18.out).mono ?_); rintro e w' ⟨rfl, ⟨nd, rfl⟩⟩; (try first | exact ⟨rfl, _, World.drewN_drewN _ _ _⟩ | exact ⟨rfl, _, Eq.trans (World.drewN_drewN _ _ _) (congrArg (World.drewN _) (Nat.add_assoc _ _ _))⟩))); go_upto_block 0 with (first | ((with_reducible refine gd_ 55 ?_); first | refine ld_ aa hu41 ?_ | refine ldS_ aa hu41 ?_) | ((with_reducible refine gs_ (ty := 41) rfl ?_); first | (refine st7_ aa ab (by first | assumption | (exact Ne.symm (by assumption))) ?_; intro s7_; obtain ⟨s7a, s7b, s7c, s7d, s7e, s7f, s7g, s7h, s7i, s7j, s7k, s7l, s7m, s7n⟩ := cz7_ s7_; clear s7_) | refine st_ aa ?_) | (go_at_call 9; (with_reducible refine (lodgerref05_Many.calls kj3 az aA aC _ A16.out).mono ?_); rintro e w21 ⟨rfl, hb⟩; replace HB := hS_ HB hb; replace ab := bB_ ab hb; (try clear hb); obtain ⟨bv, bw, bx, bz, bA, bB, bC, bM, bN, bO, bP, bQ, bR, bS⟩ := cz7_ (w := w21) ab) | ((with_reducible refine gd_ 8 ?_); refine bx_ (N := 8) (cs := #[.int .i64 0, .int .u32 0, rho_ tb0_ 0, .int .i64 0, .int .u32 0, .bool false, rho_ tb0_ 0, rho_ tb0_ 0, .int .i64 0, .int .i64 0, .int .i64 0, .int .i64 0, .int .i64 0, .int .u64 0, .bool false, rho_ tb0_ 0, .int .i64 0, .int .i64 0, .int .i64 0, .int .i64 0]) (t := 41) ?_; intro b2 hg w23 aa hb; have eM := gG_ hg HB; have eK := gG_ hg HB; replace HB := hS_ HB hb; have aH := nL_ hg ab; have aI := nG_ hg ab; replace ab := bB_ ab hb; clear hb hg; have eQ := aI.out; have eT := aH.out; obtain ⟨bD, bT⟩ := c20_8 (w := w23) aa; obtain ⟨bE, bU⟩ := c20_9 (w := w23) aa; obtain ⟨a7, a9⟩ := c20_10 (w := w23) aa; obtain ⟨a8, ba⟩ := c20_11 (w := w23) aa; obtain ⟨bF, bG, bH, bI, bJ, bK, bL, bV, bW, bX, bY, bZ, b0, b1⟩ := cz7_ (w := w23) ab) | (go_at_call 10; (with_reducible refine (lodgerref06_Tops.calls kj3 aC bt _ A18.out).mono ?_); rintro e w' ⟨rfl, ⟨nd, rfl⟩⟩; (try first | exact ⟨rfl, _, World.drewN_drewN _ _ _⟩ | exact ⟨rfl, _, Eq.trans (World.drewN_drewN _ _ _) (congrArg (World.drewN _) (Nat.add_assoc _ _ _))⟩))))
     (try simp only [Act.put, List.setIfInBounds_toArray, List.set_cons_zero, List.set_cons_succ, i64_w, i32_w])
     go_cut [10] (fun v10 wc => ∃ (kq : Nat) (dG ah : Int) (ai aj : Int) (ak al : Int) (am : Bool) (an ao : Int) (ac af : Int) (ad ag : Int) (ap aq : Int) (ar : Bool) (au av : Int) (aw ax ay : Int), v10 = .int .i64 dG ∧ Aside0 (lodgerlaw15_SeekEnds.j2 kq l1 aC (wrap64 (ae * (wrap64 (2 + bt)))) dG az aA aB ae aE aF aG ah ai aj ak al am an ao ac af ad ag ap aq ar au av aw ax ay = some r) ∧ Aside0 (kq ≤ kj3) ∧ Aside0 (wc.heap[cg]? = some (.cells #[.int .u32 az, .int .i64 aA, (.slice cb aB.length cd), .int .i64 ae, .int .i64 aE, .int .i64 aF, .int .i64 aG] 27 (0, 0))) ∧ Aside0 (wc.heap[b2]? = some (.cells #[.int .i64 ah, .int .u32 ai, rho_ tb0_ aj, .int .i64 ak, .int .u32 al, .bool am, rho_ tb0_ an, rho_ tb0_ ao, .int .i64 ac, .int .i64 af, .int .i64 ad, .int .i64 ag, .int .i64 ap, .int .u64 aq, .bool ar, rho_ tb0_ au, .int .i64 av, .int .i64 aw, .int .i64 ax, .int .i64 ay] 41 (0, 0))) ∧ Aside0 (Below w.heap.size w wc))
     case first =>
      have H := eF.out; clear eF
      have H' := Aside0.mk H
      clear H
      go_wp2
      repeat (go_quiet (fail); try go_wp2)
      go_loopg [10, 11] kj3 (fun kq v10 v11 w' => ∃ (dl cH : Int) (aM aN : Int) (aO aP aQ : Int) (aR : Bool) (aS aT : Int) (aJ aU : Int) (aV aW : Int) (aX aY : Int) (aZ : Bool) (a0 a1 : Int) (a3 a4 a5 : Int), v10 = .int .i64 dl ∧ v11 = .int .i64 cH ∧ Aside0 (lodgerlaw15_SeekEnds.l0 kq l1 aC (wrap64 (ae * (wrap64 (2 + bt)))) dl cH az aA aB ae aE aF aG aM aN aO aP aQ aR aS aT aJ aU aV aW aX aY aZ a0 a1 a3 a4 a5 = some r) ∧ Aside0 (kq ≤ kj3) ∧ Aside0 (w'.heap[cg]? = some (.cells #[.int .u32 az, .int .i64 aA, (.slice cb aB.length cd), .int .i64 ae, .int .i64 aE, .int .i64 aF, .int .i64 aG] 27 (0, 0))) ∧ Aside0 (w'.heap[b2]? = some (.cells #[.int .i64 aM, .int .u32 aN, rho_ tb0_ aO, .int .i64 aP, .int .u32 aQ, .bool aR, rho_ tb0_ aS, rho_ tb0_ aT, .int .i64 aJ, .int .i64 aU, .int .i64 aV, .int .i64 aW, .int .i64 aX, .int .u64 aY, .bool aZ, rho_ tb0_ a0, .int .i64 a1, .int .i64 a3, .int .i64 a4, .int .i64 a5] 41 (0, 0))) ∧ Aside0 (Below w.heap.size w w'))
      case atStart => exact ⟨(0), (0), (0), (0), (0), (0), (0), (false), (0), (0), (1), (Int.tmod (wrap64 (a2)) ae), (0), (0), (0), (0), (false), (0), (0), (0), (0), (0), rs_, rs_, H', ⟨Nat.le_refl _⟩, ⟨by refine bp_ ?_; refine bF20_ ?_ aH.out; refine bp_ ?_; exact ab.out⟩, ⟨by refine bp_ ?_; apply bS20_; refine bp_ ?_; exact aa.out⟩, ⟨hB_ HB⟩⟩
      case round =>
       clear H'
       try clear c1
       try clear c2
       try clear p2
       try clear c3
       try clear p6
       try clear c7
       try clear c13
       try clear c17
       try clear dt
       try clear du
       try clear c24
       try clear bb bc bd be bf bg bh
       try clear ch ci cj ck cl cm cn
       try clear bv bw bx bz bA bB bC
       try clear a7 a8 bD bE
       try clear bF bG bH bI bJ bK bL
       try clear bi bj bk bl bm bn bo
       try clear co cp cq cr ct cu cv
       try clear bM bN bO bP bQ bR bS
       try clear a9 ba bT bU
       try clear bV bW bX bY bZ b0 b1
       try clear p2
       obtain ⟨dl, cH, aM, aN, aO, aP, aQ, aR, aS, aT, aJ, aU, aV, aW, aX, aY, aZ, a0, a1, a3, a4, a5, rfl, rfl, HA, HK2, ab, aa, HB⟩ := hrel
       cases gk with
       | zero => exact absurd HA.out (by simp [lodgerlaw15_SeekEnds.l0])
       | succ k2 =>
        have H := HA.out; clear HA; simp only [lodgerlaw15_SeekEnds.l0] at H
        by_cases c27 : cH < (wrap64 (ae * (wrap64 (2 + bt))))
        ·rw [if_pos c27] at H
         have ca : decide (cH < (wrap64 (ae * (wrap64 (2 + bt))))) = true := decide_eq_true c27
         clear c27
         (first | rw [ca] | (simp only [i64_w, i32_w]; rw [ca]) | skip)
         by_cases c28 : aJ = 1
         ·rw [if_pos c28] at H
          have dv : (aJ == 1) = true := beq_iff_eq.mpr c28
          have dw : (aJ != 1) = false := bne_eq_false_iff_eq.mpr c28
          clear c28; replace H := bi_ H; obtain ⟨⟨dU, dV, dW, dX, dY, dZ, d0, d1, d2, d3, d4, d5, d6, d7, d8, d9, ea, eb, ec, ed⟩, A290, H⟩ := H
          replace H : (lodgerlaw15_SeekEnds.l0 k2 l1 aC (wrap64 (ae * (wrap64 (2 + bt)))) (wrap64 (dl + 1)) (wrap64 (cH + 1)) az aA aB ae aE aF aG dU dV dW dX dY dZ d0 d1 d2 d3 d4 d5 d6 d7 d8 d9 ea eb ec ed) = some r := H
          have A29 := Aside0.mk A290; clear A290
          have H' := Aside0.mk H
          clear H; have fK := aI.out; have fR := aH.out; obtain ⟨cK, cV⟩ := c20_8 (w := wr) aa; obtain ⟨cL, cW⟩ := c20_9 (w := wr) aa; obtain ⟨cw, cA⟩ := c20_10 (w := wr) aa; obtain ⟨cx, cB⟩ := c20_11 (w := wr) aa; obtain ⟨cM, cN, cO, cP, cQ, cR, cS, cX, cY, cZ, c0, c6, c8, c9⟩ := cz7_ (w := wr) ab
          go_wp2_with (first | ((with_reducible refine gd_ 55 ?_); first | refine ld_ aa hu41 ?_ | refine ldS_ aa hu41 ?_) | ((with_reducible refine gs_ (ty := 41) rfl ?_); first | (refine st7_ aa ab (by first | assumption | (exact Ne.symm (by assumption))) ?_; intro s7_; obtain ⟨s7a, s7b, s7c, s7d, s7e, s7f, s7g, s7h, s7i, s7j, s7k, s7l, s7m, s7n⟩ := cz7_ s7_; clear s7_) | refine st_ aa ?_) | (go_at_call 11; (with_reducible refine (seek_Step.calls k2 az aA _ _ aB ae aE aF aG _ _ l1 aM aN aO aP aQ aR aS aT aJ aU aV aW aX aY aZ a0 a1 a3 a4 a5 dU dV dW dX dY dZ d0 d1 d2 d3 d4 d5 d6 d7 d8 d9 ea eb ec ed _ (cC_ dr HB) dq.out (cC_ dn HB) ee.out A29.out).mono ?_); rintro e w33 ⟨rfl, hb⟩; replace aa := Aside0.mk (blk_below (g := b2) (o := .cells #[.int .i64 aM, .int .u32 aN, rho_ tb0_ aO, .int .i64 aP, .int .u32 aQ, .bool aR, rho_ tb0_ aS, rho_ tb0_ aT, .int .i64 aJ, .int .i64 aU, .int .i64 aV, .int .i64 aW, .int .i64 aX, .int .u64 aY, .bool aZ, rho_ tb0_ a0, .int .i64 a1, .int .i64 a3, .int .i64 a4, .int .i64 a5] 41 (0, 0)) (bk_ aa) hb); replace ab := bB_ ab hb; replace HB := hS_ HB hb; (try clear hb); obtain ⟨b5, b7⟩ := c20_8 (w := w33) aa; obtain ⟨b6, b8⟩ := c20_9 (w := w33) aa; obtain ⟨bp, br⟩ := c20_10 (w := w33) aa; obtain ⟨bq, bs⟩ := c20_11 (w := w33) aa))
          repeat (go_quiet (first | ((with_reducible refine gd_ 55 ?_); first | refine ld_ aa hu41 ?_ | refine ldS_ aa hu41 ?_) | ((with_reducible refine gs_ (ty := 41) rfl ?_); first | (refine st7_ aa ab (by first | assumption | (exact Ne.symm (by assumption))) ?_; intro s7_; obtain ⟨s7a, s7b, s7c, s7d, s7e, s7f, s7g, s7h, s7i, s7j, s7k, s7l, s7m, s7n⟩ := cz7_ s7_; clear s7_) | refine st_ aa ?_) | (go_at_call 11; (with_reducible refine (seek_Step.calls k2 az aA _ _ aB ae aE aF aG _ _ l1 aM aN aO aP aQ aR aS aT aJ aU aV aW aX aY aZ a0 a1 a3 a4 a5 dU dV dW dX dY dZ d0 d1 d2 d3 d4 d5 d6 d7 d8 d9 ea eb ec ed _ (cC_ dr HB) dq.out (cC_ dn HB) ee.out A29.out).mono ?_); rintro e w33 ⟨rfl, hb⟩; replace aa := Aside0.mk (blk_below (g := b2) (o := .cells #[.int .i64 aM, .int .u32 aN, rho_ tb0_ aO, .int .i64 aP, .int .u32 aQ, .bool aR, rho_ tb0_ aS, rho_ tb0_ aT, .int .i64 aJ, .int .i64 aU, .int .i64 aV, .int .i64 aW, .int .i64 aX, .int .u64 aY, .bool aZ, rho_ tb0_ a0, .int .i64 a1, .int .i64 a3, .int .i64 a4, .int .i64 a5] 41 (0, 0)) (bk_ aa) hb); replace ab := bB_ ab hb; replace HB := hS_ HB hb; (try clear hb); obtain ⟨b5, b7⟩ := c20_8 (w := w33) aa; obtain ⟨b6, b8⟩ := c20_9 (w := w33) aa; obtain ⟨bp, br⟩ := c20_10 (w := w33) aa; obtain ⟨bq, bs⟩ := c20_11 (w := w33) aa)); try go_wp2_with (first | ((with_reducible refine gd_ 55 ?_); first | refine ld_ aa hu41 ?_ | refine ldS_ aa hu41 ?_) | ((with_reducible refine gs_ (ty := 41) rfl ?_); first | (refine st7_ aa ab (by first | assumption | (exact Ne.symm (by assumption))) ?_; intro s7_; obtain ⟨s7a, s7b, s7c, s7d, s7e, s7f, s7g, s7h, s7i, s7j, s7k, s7l, s7m, s7n⟩ := cz7_ s7_; clear s7_) | refine st_ aa ?_) | (go_at_call 11; (with_reducible refine (seek_Step.calls k2 az aA _ _ aB ae aE aF aG _ _ l1 aM aN aO aP aQ aR aS aT aJ aU aV aW aX aY aZ a0 a1 a3 a4 a5 dU dV dW dX dY dZ d0 d1 d2 d3 d4 d5 d6 d7 d8 d9 ea eb ec ed _ (cC_ dr HB) dq.out (cC_ dn HB) ee.out A29.out).mono ?_); rintro e w33 ⟨rfl, hb⟩; replace aa := Aside0.mk (blk_below (g := b2) (o := .cells #[.int .i64 aM, .int .u32 aN, rho_ tb0_ aO, .int .i64 aP, .int .u32 aQ, .bool aR, rho_ tb0_ aS, rho_ tb0_ aT, .int .i64 aJ, .int .i64 aU, .int .i64 aV, .int .i64 aW, .int .i64 aX, .int .u64 aY, .bool aZ, rho_ tb0_ a0, .int .i64 a1, .int .i64 a3, .int .i64 a4, .int .i64 a5] 41 (0, 0)) (bk_ aa) hb); replace ab := bB_ ab hb; replace HB := hS_ HB hb; (try clear hb); obtain ⟨b5, b7⟩ := c20_8 (w := w33) aa; obtain ⟨b6, b8⟩ := c20_9 (w := w33) aa; obtain ⟨bp, br⟩ := c20_10 (w := w33) aa; obtain ⟨bq, bs⟩ := c20_11 (w := w33) aa)))
          go_roundg k2
          case measure => have := ce.out; have := HK2.out; omega
          case rel => exact ⟨(wrap64 (dl + 1)), (wrap64 (cH + 1)), (dU), (dV), (dW), (dX), (dY), (dZ), (d0), (d1), (d2), (d3), (d4), (d5), (d6), (d7), (d8), (d9), (ea), (eb), (ec), (ed), rs_, rs_, H', ⟨om2_ ce HK2⟩, ⟨by refine bp_ ?_; refine bF20_ ?_ aH.out; refine bp_ ?_; exact ab.out⟩, ⟨by refine bp_ ?_; apply bS20_; refine bp_ ?_; exact aa.out⟩, ⟨hB_ HB⟩⟩
         ·rw [if_neg c28] at H
          have dv : (aJ == 1) = false := beq_eq_false_iff_ne.mpr c28
          have dw : (aJ != 1) = true := bne_iff_ne.mpr c28
          have H' := Aside0.mk H
          clear H; have fL := aI.out; have fS := aH.out; obtain ⟨cT, da⟩ := c20_8 (w := wr) aa; obtain ⟨cU, db⟩ := c20_9 (w := wr) aa; obtain ⟨cy, cC⟩ := c20_10 (w := wr) aa; obtain ⟨cz, cD⟩ := c20_11 (w := wr) aa
          go_wp2
          repeat (go_quiet (fail); try go_wp2)
          go_meet
          case rel => exact ⟨_, (dl), (aM), (aN), (aO), (aP), (aQ), (aR), (aS), (aT), (aJ), (aU), (aV), (aW), (aX), (aY), (aZ), (a0), (a1), (a3), (a4), (a5), rs_, H', ⟨by have := ce.out; have := HK2.out; first | omega | exact Nat.le_refl _⟩, ⟨bk_ ab⟩, ⟨bk_ aa⟩, ⟨hB_ HB⟩⟩
        ·rw [if_neg c27] at H
         have ca : decide (cH < (wrap64 (ae * (wrap64 (2 + bt))))) = false := decide_eq_false c27
         clear c27
         (first | rw [ca] | (simp only [i64_w, i32_w]; rw [ca]) | skip)
         have H' := Aside0.mk H
         clear H
         go_wp2
         repeat (go_quiet (fail); try go_wp2)
         go_meet
         case rel => exact ⟨_, (dl), (aM), (aN), (aO), (aP), (aQ), (aR), (aS), (aT), (aJ), (aU), (aV), (aW), (aX), (aY), (aZ), (a0), (a1), (a3), (a4), (a5), rs_, H', ⟨by have := ce.out; have := HK2.out; first | omega | exact Nat.le_refl _⟩, ⟨bk_ ab⟩, ⟨bk_ aa⟩, ⟨hB_ HB⟩⟩
     case rest =>
      clear eF
      try clear c1
      try clear c2
      try clear p2
      try clear c3
      try clear p6
      try clear c7
      try clear c13
      try clear c17
      try clear dt
      try clear du
      try clear c24
      try clear c27
      try clear ca
      try clear c28
      try clear dv
      try clear dw
      try clear c30
      try clear c35
      try clear bb bc bd be bf bg bh
      try clear ch ci cj ck cl cm cn
      try clear bv bw bx bz bA bB bC
      try clear a7 a8 bD bE
      try clear bF bG bH bI bJ bK bL
      try clear cw cx cK cL
      try clear cM cN cO cP cQ cR cS
      try clear bp bq b5 b6
      try clear cy cz cT cU
      try clear bi bj bk bl bm bn bo
      try clear co cp cq cr ct cu cv
      try clear bM bN bO bP bQ bR bS
      try clear a9 ba bT bU
      try clear bV bW bX bY bZ b0 b1
      try clear cA cB cV cW
      try clear cX cY cZ c0 c6 c8 c9
      try clear br bs b7 b8
      try clear cC cD da db
      try clear p2
      try clear p6
      obtain ⟨kq, dG, ah, ai, aj, ak, al, am, an, ao, ac, af, ad, ag, ap, aq, ar, au, av, aw, ax, ay, rfl, HA, cc, ab, aa, HB⟩ := hcut
      cases kq with
      | zero => exact absurd HA.out (by simp [lodgerlaw15_SeekEnds.j2])
      | succ kj18 =>
       have H := HA.out; clear HA; simp only [lodgerlaw15_SeekEnds.j2] at H; have eG := Aside0.mk H; clear H
       go_upto_region 12 with (fail)
       repeat (go_quiet (fail); go_upto_region 12 with (fail))
       go_cut [66] (fun v66 wc => ∃ (kq : Nat) (dH : Bool), v66 = .bool dH ∧ Aside0 (lodgerlaw15_SeekEnds.j3 kq l1 aC dH az aA aB ae aE aF aG ah ai aj ak al am an ao ac af ad ag ap aq ar au av aw ax ay = some r) ∧ Aside0 (kq ≤ kj18) ∧ Aside0 (wc.heap[cg]? = some (.cells #[.int .u32 az, .int .i64 aA, (.slice cb aB.length cd), .int .i64 ae, .int .i64 aE, .int .i64 aF, .int .i64 aG] 27 (0, 0))) ∧ Aside0 (wc.heap[b2]? = some (.cells #[.int .i64 ah, .int .u32 ai, rho_ tb0_ aj, .int .i64 ak, .int .u32 al, .bool am, rho_ tb0_ an, rho_ tb0_ ao, .int .i64 ac, .int .i64 af, .int .i64 ad, .int .i64 ag, .int .i64 ap, .int .u64 aq, .bool ar, rho_ tb0_ au, .int .i64 av, .int .i64 aw, .int .i64 ax, .int .i64 ay] 41 (0, 0))) ∧ Aside0 (Below w.heap.size w wc))
       case first =>
        have H := eG.out; clear eG
        by_cases c38 : ac = 1
        ·rw [if_pos c38] at H
         have cf : (ac == 1) = true := beq_iff_eq.mpr c38
         have dF : (ac != 1) = false := bne_eq_false_iff_eq.mpr c38
         clear c38
         (first | rw [cf] | (simp only [i64_w, i32_w]; rw [cf]) | skip)
         have H' := Aside0.mk H
         clear H; have fM := aI.out; have fT := aH.out; obtain ⟨dx, dB⟩ := c20_8 (w := wc) aa; obtain ⟨dy, dC⟩ := c20_9 (w := wc) aa; obtain ⟨dc, dg⟩ := c20_10 (w := wc) aa; obtain ⟨dd, dh⟩ := c20_11 (w := wc) aa
         go_wp2
         repeat (go_quiet (fail); try go_wp2)
         go_meet
         case rel => exact ⟨_, (true), rs_, H', ⟨by have := ce.out; have := cc.out; first | omega | exact Nat.le_refl _⟩, ⟨bk_ ab⟩, ⟨bk_ aa⟩, ⟨hB_ HB⟩⟩
        ·rw [if_neg c38] at H
         have cf : (ac == 1) = false := beq_eq_false_iff_ne.mpr c38
         have dF : (ac != 1) = true := bne_iff_ne.mpr c38
         (first | rw [cf] | (simp only [i64_w, i32_w]; rw [cf]) | skip)
         have H' := Aside0.mk H
         clear H; have fN := aI.out; have fU := aH.out; obtain ⟨dz, dD⟩ := c20_8 (w := wc) aa; obtain ⟨dA, dE⟩ := c20_9 (w := wc) aa; obtain ⟨de, di⟩ := c20_10 (w := wc) aa; obtain ⟨df, dj⟩ := c20_11 (w := wc) aa
         go_wp2
         repeat (go_quiet (fail); try go_wp2)
         go_meet
         case rel => exact ⟨_, (decide (dG > (wrap64 (ae * (wrap64 (2 + bt)))))), rs_, H', ⟨by have := ce.out; have := cc.out; first | omega | exact Nat.le_refl _⟩, ⟨bk_ ab⟩, ⟨bk_ aa⟩, ⟨hB_ HB⟩⟩
       case rest =>
        clear eG
        try clear c1
        try clear c2
        try clear p2
        try clear c3
        try clear c4
        try clear p6
        try clear c7
        try clear c13
        try clear c17
        try clear dt
        try clear du
        try clear c24
        try clear c27
        try clear ca
        try clear c28
        try clear dv
        try clear dw
        try clear c30
        try clear c35
        try clear c38
        try clear cf
        try clear dF
        try clear c39
        try clear c41
        try clear bb bc bd be bf bg bh
        try clear ch ci cj ck cl cm cn
        try clear bv bw bx bz bA bB bC
        try clear a7 a8 bD bE
        try clear bF bG bH bI bJ bK bL
        try clear cw cx cK cL
        try clear cM cN cO cP cQ cR cS
        try clear bp bq b5 b6
        try clear cy cz cT cU
        try clear dc dd dx dy
        try clear de df dz dA
        try clear bi bj bk bl bm bn bo
        try clear co cp cq cr ct cu cv
        try clear bM bN bO bP bQ bR bS
        try clear a9 ba bT bU
        try clear bV bW bX bY bZ b0 b1
        try clear cA cB cV cW
        try clear cX cY cZ c0 c6 c8 c9
        try clear br bs b7 b8
        try clear cC cD da db
        try clear dg dh dB dC
        try clear di dj dD dE
        try clear p2
        try clear p6
        obtain ⟨kq, dH, rfl, HA, cI, ab, aa, HB⟩ := hcut
        cases kq with
        | zero => exact absurd HA.out (by simp [lodgerlaw15_SeekEnds.j3])
        | succ kj36 =>
         have H := HA.out; clear HA; simp only [lodgerlaw15_SeekEnds.j3] at H
         by_cases c43 : dH = true
         ·subst c43
          have H1 : (some false) = some r := pf_ rfl H
          rw [hr_.out] at H1
          exact absurd (Option.some.inj H1) (by decide)
         ·replace c43 := Bool.eq_false_iff.mpr c43
          subst c43
          have H1 : (lodgerlaw15_SeekEnds.l1 kj36 l1 aC false 0 az aA aB ae aE aF aG ah ai aj ak al am an ao ac af ad ag ap aq ar au av aw ax ay) = some r := nf_ H
          clear H; have H := H1; clear H1
          have H' := Aside0.mk H
          clear H
          go_wp2
          repeat (go_quiet (fail); try go_wp2)
          go_loopg [12, 13] kj36 (fun kq v12 v13 w' => ∃ (aK : Bool) (aD : Int), v12 = .bool aK ∧ v13 = .int .i64 aD ∧ Aside0 (lodgerlaw15_SeekEnds.l1 kq l1 aC aK aD az aA aB ae aE aF aG ah ai aj ak al am an ao ac af ad ag ap aq ar au av aw ax ay = some r) ∧ Aside0 (kq ≤ kj36) ∧ Aside0 (w'.heap[cg]? = some (.cells #[.int .u32 az, .int .i64 aA, (.slice cb aB.length cd), .int .i64 ae, .int .i64 aE, .int .i64 aF, .int .i64 aG] 27 (0, 0))) ∧ Aside0 (w'.heap[b2]? = some (.cells #[.int .i64 ah, .int .u32 ai, rho_ tb0_ aj, .int .i64 ak, .int .u32 al, .bool am, rho_ tb0_ an, rho_ tb0_ ao, .int .i64 ac, .int .i64 af, .int .i64 ad, .int .i64 ag, .int .i64 ap, .int .u64 aq, .bool ar, rho_ tb0_ au, .int .i64 av, .int .i64 aw, .int .i64 ax, .int .i64 ay] 41 (0, 0))) ∧ Aside0 (Below w.heap.size w w'))
          case atStart => exact ⟨(false), (0), rs_, rs_, H', ⟨Nat.le_refl _⟩, ⟨bk_ ab⟩, ⟨bk_ aa⟩, ⟨hB_ HB⟩⟩
          case round =>
           clear H'
           try clear c1
           try clear c2
           try clear p2
           try clear c3
           try clear c4
           try clear p6
           try clear c7
           try clear c13
           try clear c17
           try clear dt
           try clear du
           try clear c24
           try clear c27
           try clear ca
           try clear c28
           try clear dv
           try clear dw
           try clear c30
           try clear c35
           try clear c38
           try clear cf
           try clear dF
           try clear c39
           try clear c41
           try clear c43
           try clear bb bc bd be bf bg bh
           try clear ch ci cj ck cl cm cn
           try clear bv bw bx bz bA bB bC
           try clear a7 a8 bD bE
           try clear bF bG bH bI bJ bK bL
           try clear cw cx cK cL
           try clear cM cN cO cP cQ cR cS
           try clear bp bq b5 b6
           try clear cy cz cT cU
           try clear dc dd dx dy
           try clear de df dz dA
           try clear bi bj bk bl bm bn bo
           try clear co cp cq cr ct cu cv
           try clear bM bN bO bP bQ bR bS
           try clear a9 ba bT bU
           try clear bV bW bX bY bZ b0 b1
           try clear cA cB cV cW
           try clear cX cY cZ c0 c6 c8 c9
           try clear br bs b7 b8
           try clear cC cD da db
           try clear dg dh dB dC
           try clear di dj dD dE
           try clear p2
           try clear p6
           obtain ⟨aK, aD, rfl, rfl, HA, HK4, ab, aa, HB⟩ := hrel
           cases gk with
           | zero => exact absurd HA.out (by simp [lodgerlaw15_SeekEnds.l1])
           | succ k4 =>
            have H := HA.out; clear HA; simp only [lodgerlaw15_SeekEnds.l1] at H; replace H := bi_ H; obtain ⟨b9, A440, H⟩ := H
            replace H : (if aD < b9 then ((lodgerref06_Top.f k4 aC aD).bind fun bt342 => ((lodgerref06_Root.f k4 aC aD).bind fun bt344 => (if 0 ≤ bt342.1 then (if bt342.1 < (l1.length : Int) then ((lodgerref01_Has.f k4 (rd l1 bt342.1) bt342.2).bind fun dp => (if dp = true then (lodgerlaw15_SeekEnds.j5 k4 l1 aC aK aD false az aA aB ae aE aF aG ah ai aj ak al am an ao ac af ad ag ap aq ar au av aw ax ay) else (if 0 ≤ bt344.1 then (if bt344.1 < (l1.length : Int) then ((lodgerref01_Has.f k4 (rd l1 bt344.1) bt344.2).bind fun bu => (lodgerlaw15_SeekEnds.j5 k4 l1 aC aK aD (!bu) az aA aB ae aE aF aG ah ai aj ak al am an ao ac af ad ag ap aq ar au av aw ax ay)) else (none)) else (none)))) else (none)) else (none)))) else (if ((ac == 2) == aK) = true then (if aK = true then (some true) else (if ac = 6 then (some (ad == ae)) else (some false))) else (some false))) = some r := H
            have A44 := Aside0.mk A440; clear A440
            by_cases c45 : aD < b9
            ·rw [if_pos c45] at H
             have eD : decide (aD < b9) = true := decide_eq_true c45
             clear c45; replace H := bi_ H; obtain ⟨⟨a6, cF⟩, A460, H⟩ := H
             replace H : ((lodgerref06_Root.f k4 aC aD).bind fun bt344 => (if 0 ≤ a6 then (if a6 < (l1.length : Int) then ((lodgerref01_Has.f k4 (rd l1 a6) cF).bind fun dp => (if dp = true then (lodgerlaw15_SeekEnds.j5 k4 l1 aC aK aD false az aA aB ae aE aF aG ah ai aj ak al am an ao ac af ad ag ap aq ar au av aw ax ay) else (if 0 ≤ bt344.1 then (if bt344.1 < (l1.length : Int) then ((lodgerref01_Has.f k4 (rd l1 bt344.1) bt344.2).bind fun bu => (lodgerlaw15_SeekEnds.j5 k4 l1 aC aK aD (!bu) az aA aB ae aE aF aG ah ai aj ak al am an ao ac af ad ag ap aq ar au av aw ax ay)) else (none)) else (none)))) else (none)) else (none))) = some r := H
             have A46 := Aside0.mk A460; clear A460; replace H := bi_ H; obtain ⟨⟨aL, dk⟩, A470, H⟩ := H
             replace H : (if 0 ≤ a6 then (if a6 < (l1.length : Int) then ((lodgerref01_Has.f k4 (rd l1 a6) cF).bind fun dp => (if dp = true then (lodgerlaw15_SeekEnds.j5 k4 l1 aC aK aD false az aA aB ae aE aF aG ah ai aj ak al am an ao ac af ad ag ap aq ar au av aw ax ay) else (if 0 ≤ aL then (if aL < (l1.length : Int) then ((lodgerref01_Has.f k4 (rd l1 aL) dk).bind fun bu => (lodgerlaw15_SeekEnds.j5 k4 l1 aC aK aD (!bu) az aA aB ae aE aF aG ah ai aj ak al am an ao ac af ad ag ap aq ar au av aw ax ay)) else (none)) else (none)))) else (none)) else (none)) = some r := H
             have A47 := Aside0.mk A470; clear A470; have eH := Aside0.mk H; clear H
             go_upto_region 20 with (first | ((with_reducible refine gd_ 55 ?_); first | refine ld_ aa hu41 ?_ | refine ldS_ aa hu41 ?_) | ((with_reducible refine gs_ (ty := 41) rfl ?_); first | (refine st7_ aa ab (by first | assumption | (exact Ne.symm (by assumption))) ?_; intro s7_; obtain ⟨s7a, s7b, s7c, s7d, s7e, s7f, s7g, s7h, s7i, s7j, s7k, s7l, s7m, s7n⟩ := cz7_ s7_; clear s7_) | refine st_ aa ?_) | (go_at_call 12; (with_reducible refine (lodgerref06_Leaves.calls k4 aC b9 _ A44.out).mono ?_); rintro e w' ⟨rfl, ⟨nd, rfl⟩⟩; (try first | exact ⟨rfl, _, World.drewN_drewN _ _ _⟩ | exact ⟨rfl, _, Eq.trans (World.drewN_drewN _ _ _) (congrArg (World.drewN _) (Nat.add_assoc _ _ _))⟩)) | (go_at_call 13; (with_reducible refine (lodgerref06_Top.calls k4 aC aD a6 cF _ A46.out).mono ?_); rintro e w' ⟨rfl, ⟨nd, rfl⟩⟩; (try first | exact ⟨rfl, _, World.drewN_drewN _ _ _⟩ | exact ⟨rfl, _, Eq.trans (World.drewN_drewN _ _ _) (congrArg (World.drewN _) (Nat.add_assoc _ _ _))⟩)) | (go_at_call 14; (with_reducible refine (lodgerref06_Root.calls k4 aC aD aL dk _ A47.out).mono ?_); rintro e w' ⟨rfl, ⟨nd, rfl⟩⟩; (try first | exact ⟨rfl, _, World.drewN_drewN _ _ _⟩ | exact ⟨rfl, _, Eq.trans (World.drewN_drewN _ _ _) (congrArg (World.drewN _) (Nat.add_assoc _ _ _))⟩)))
             repeat (go_quiet (first | ((with_reducible refine gd_ 55 ?_); first | refine ld_ aa hu41 ?_ | refine ldS_ aa hu41 ?_) | ((with_reducible refine gs_ (ty := 41) rfl ?_); first | (refine st7_ aa ab (by first | assumption | (exact Ne.symm (by assumption))) ?_; intro s7_; obtain ⟨s7a, s7b, s7c, s7d, s7e, s7f, s7g, s7h, s7i, s7j, s7k, s7l, s7m, s7n⟩ := cz7_ s7_; clear s7_) | refine st_ aa ?_) | (go_at_call 12; (with_reducible refine (lodgerref06_Leaves.calls k4 aC b9 _ A44.out).mono ?_); rintro e w' ⟨rfl, ⟨nd, rfl⟩⟩; (try first | exact ⟨rfl, _, World.drewN_drewN _ _ _⟩ | exact ⟨rfl, _, Eq.trans (World.drewN_drewN _ _ _) (congrArg (World.drewN _) (Nat.add_assoc _ _ _))⟩)) | (go_at_call 13; (with_reducible refine (lodgerref06_Top.calls k4 aC aD a6 cF _ A46.out).mono ?_); rintro e w' ⟨rfl, ⟨nd, rfl⟩⟩; (try first | exact ⟨rfl, _, World.drewN_drewN _ _ _⟩ | exact ⟨rfl, _, Eq.trans (World.drewN_drewN _ _ _) (congrArg (World.drewN _) (Nat.add_assoc _ _ _))⟩)) | (go_at_call 14; (with_reducible refine (lodgerref06_Root.calls k4 aC aD aL dk _ A47.out).mono ?_); rintro e w' ⟨rfl, ⟨nd, rfl⟩⟩; (try first | exact ⟨rfl, _, World.drewN_drewN _ _ _⟩ | exact ⟨rfl, _, Eq.trans (World.drewN_drewN _ _ _) (congrArg (World.drewN _) (Nat.add_assoc _ _ _))⟩))); go_upto_region 20 with (first | ((with_reducible refine gd_ 55 ?_); first | refine ld_ aa hu41 ?_ | refine ldS_ aa hu41 ?_) | ((with_reducible refine gs_ (ty := 41) rfl ?_); first | (refine st7_ aa ab (by first | assumption | (exact Ne.symm (by assumption))) ?_; intro s7_; obtain ⟨s7a, s7b, s7c, s7d, s7e, s7f, s7g, s7h, s7i, s7j, s7k, s7l, s7m, s7n⟩ := cz7_ s7_; clear s7_) | refine st_ aa ?_) | (go_at_call 12; (with_reducible refine (lodgerref06_Leaves.calls k4 aC b9 _ A44.out).mono ?_); rintro e w' ⟨rfl, ⟨nd, rfl⟩⟩; (try first | exact ⟨rfl, _, World.drewN_drewN _ _ _⟩ | exact ⟨rfl, _, Eq.trans (World.drewN_drewN _ _ _) (congrArg (World.drewN _) (Nat.add_assoc _ _ _))⟩)) | (go_at_call 13; (with_reducible refine (lodgerref06_Top.calls k4 aC aD a6 cF _ A46.out).mono ?_); rintro e w' ⟨rfl, ⟨nd, rfl⟩⟩; (try first | exact ⟨rfl, _, World.drewN_drewN _ _ _⟩ | exact ⟨rfl, _, Eq.trans (World.drewN_drewN _ _ _) (congrArg (World.drewN _) (Nat.add_assoc _ _ _))⟩)) | (go_at_call 14; (with_reducible refine (lodgerref06_Root.calls k4 aC aD aL dk _ A47.out).mono ?_); rintro e w' ⟨rfl, ⟨nd, rfl⟩⟩; (try first | exact ⟨rfl, _, World.drewN_drewN _ _ _⟩ | exact ⟨rfl, _, Eq.trans (World.drewN_drewN _ _ _) (congrArg (World.drewN _) (Nat.add_assoc _ _ _))⟩))))
             (try simp only [Act.put, List.setIfInBounds_toArray, List.set_cons_zero, List.set_cons_succ, i64_w, i32_w])
             go_cut [18] (fun v18 wc => ∃ (kq : Nat) (b4 : Bool), v18 = .bool b4 ∧ Aside0 (lodgerlaw15_SeekEnds.j5 kq l1 aC aK aD b4 az aA aB ae aE aF aG ah ai aj ak al am an ao ac af ad ag ap aq ar au av aw ax ay = some r) ∧ Aside0 (kq ≤ k4) ∧ Aside0 (wc.heap[cg]? = some (.cells #[.int .u32 az, .int .i64 aA, (.slice cb aB.length cd), .int .i64 ae, .int .i64 aE, .int .i64 aF, .int .i64 aG] 27 (0, 0))) ∧ Aside0 (wc.heap[b2]? = some (.cells #[.int .i64 ah, .int .u32 ai, rho_ tb0_ aj, .int .i64 ak, .int .u32 al, .bool am, rho_ tb0_ an, rho_ tb0_ ao, .int .i64 ac, .int .i64 af, .int .i64 ad, .int .i64 ag, .int .i64 ap, .int .u64 aq, .bool ar, rho_ tb0_ au, .int .i64 av, .int .i64 aw, .int .i64 ax, .int .i64 ay] 41 (0, 0))) ∧ Aside0 (Below w.heap.size w wc))
             case first =>
              have H := eH.out; clear eH
              by_cases c49 : 0 ≤ a6
              ·rw [if_pos c49] at H
               have dK : decide (0 ≤ a6) = true := decide_eq_true c49
               clear c49
               (first | rw [dK] | (simp only [i64_w, i32_w]; rw [dK]) | skip)
               by_cases c50 : a6 < (l1.length : Int)
               ·rw [if_pos c50] at H
                have eN : decide (a6 < (l1.length : Int)) = true := decide_eq_true c50
                clear c50; replace H := bi_ H; obtain ⟨dp, A510, H⟩ := H
                replace H : (if dp = true then (lodgerlaw15_SeekEnds.j5 k4 l1 aC aK aD false az aA aB ae aE aF aG ah ai aj ak al am an ao ac af ad ag ap aq ar au av aw ax ay) else (if 0 ≤ aL then (if aL < (l1.length : Int) then ((lodgerref01_Has.f k4 (rd l1 aL) dk).bind fun bu => (lodgerlaw15_SeekEnds.j5 k4 l1 aC aK aD (!bu) az aA aB ae aE aF aG ah ai aj ak al am an ao ac af ad ag ap aq ar au av aw ax ay)) else (none)) else (none))) = some r := H
                have A51 := Aside0.mk A510; clear A510
                by_cases c52 : dp = true
                ·subst c52
                 have H1 : (lodgerlaw15_SeekEnds.j5 k4 l1 aC aK aD false az aA aB ae aE aF aG ah ai aj ak al am an ao ac af ad ag ap aq ar au av aw ax ay) = some r := pf_ rfl H
                 clear H; have H := H1; clear H1
                 have H' := Aside0.mk H
                 clear H
                 have p346 : 0 ≤ (a6 : Int) := od_
                 have q346 : a6 < (l1.length : Int) := od_
                 obtain ⟨ad346, e346, hx346_0⟩ := Kd.at_int dn.out a6 p346 q346
                 cases e346
                 replace hx346_0 := (HB.out.cell (World.block_lt_of_cell? w _ hx346_0)).trans hx346_0; replace p346 := eq_true p346; replace q346 := eq_true q346
                 go_wp2_with (first | ((with_reducible refine gd_ 55 ?_); first | refine ld_ aa hu41 ?_ | refine ldS_ aa hu41 ?_) | ((with_reducible refine gs_ (ty := 41) rfl ?_); first | (refine st7_ aa ab (by first | assumption | (exact Ne.symm (by assumption))) ?_; intro s7_; obtain ⟨s7a, s7b, s7c, s7d, s7e, s7f, s7g, s7h, s7i, s7j, s7k, s7l, s7m, s7n⟩ := cz7_ s7_; clear s7_) | refine st_ aa ?_) | (go_at_call 15; (with_reducible refine (lodgerref01_Has.calls k4 (rd l1 a6) cF true _ A51.out).mono ?_); rintro e w' ⟨rfl, ⟨nd, rfl⟩⟩; (try first | exact ⟨rfl, _, World.drewN_drewN _ _ _⟩ | exact ⟨rfl, _, Eq.trans (World.drewN_drewN _ _ _) (congrArg (World.drewN _) (Nat.add_assoc _ _ _))⟩)))
                 repeat (go_quiet (first | ((with_reducible refine gd_ 55 ?_); first | refine ld_ aa hu41 ?_ | refine ldS_ aa hu41 ?_) | ((with_reducible refine gs_ (ty := 41) rfl ?_); first | (refine st7_ aa ab (by first | assumption | (exact Ne.symm (by assumption))) ?_; intro s7_; obtain ⟨s7a, s7b, s7c, s7d, s7e, s7f, s7g, s7h, s7i, s7j, s7k, s7l, s7m, s7n⟩ := cz7_ s7_; clear s7_) | refine st_ aa ?_) | (go_at_call 15; (with_reducible refine (lodgerref01_Has.calls k4 (rd l1 a6) cF true _ A51.out).mono ?_); rintro e w' ⟨rfl, ⟨nd, rfl⟩⟩; (try first | exact ⟨rfl, _, World.drewN_drewN _ _ _⟩ | exact ⟨rfl, _, Eq.trans (World.drewN_drewN _ _ _) (congrArg (World.drewN _) (Nat.add_assoc _ _ _))⟩))); try go_wp2_with (first | ((with_reducible refine gd_ 55 ?_); first | refine ld_ aa hu41 ?_ | refine ldS_ aa hu41 ?_) | ((with_reducible refine gs_ (ty := 41) rfl ?_); first | (refine st7_ aa ab (by first | assumption | (exact Ne.symm (by assumption))) ?_; intro s7_; obtain ⟨s7a, s7b, s7c, s7d, s7e, s7f, s7g, s7h, s7i, s7j, s7k, s7l, s7m, s7n⟩ := cz7_ s7_; clear s7_) | refine st_ aa ?_) | (go_at_call 15; (with_reducible refine (lodgerref01_Has.calls k4 (rd l1 a6) cF true _ A51.out).mono ?_); rintro e w' ⟨rfl, ⟨nd, rfl⟩⟩; (try first | exact ⟨rfl, _, World.drewN_drewN _ _ _⟩ | exact ⟨rfl, _, Eq.trans (World.drewN_drewN _ _ _) (congrArg (World.drewN _) (Nat.add_assoc _ _ _))⟩))))
                 go_meet
                 case rel => exact ⟨_, (false), rs_, H', ⟨by have := ce.out; have := cc.out; have := cI.out; have := HK4.out; first | omega | exact Nat.le_refl _⟩, ⟨bk_ ab⟩, ⟨bk_ aa⟩, ⟨hB_ HB⟩⟩
                ·replace c52 := Bool.eq_false_iff.mpr c52
                 subst c52
                 have H1 : (if 0 ≤ aL then (if aL < (l1.length : Int) then ((lodgerref01_Has.f k4 (rd l1 aL) dk).bind fun bu => (lodgerlaw15_SeekEnds.j5 k4 l1 aC aK aD (!bu) az aA aB ae aE aF aG ah ai aj ak al am an ao ac af ad ag ap aq ar au av aw ax ay)) else (none)) else (none)) = some r := nf_ H
                 clear H; have H := H1; clear H1
                 by_cases c53 : 0 ≤ aL
                 ·rw [if_pos c53] at H
                  have eO : decide (0 ≤ aL) = true := decide_eq_true c53
                  clear c53
                  by_cases c54 : aL < (l1.length : Int)
                  ·rw [if_pos c54] at H
                   have eP : decide (aL < (l1.length : Int)) = true := decide_eq_true c54
                   clear c54; replace H := bi_ H; obtain ⟨bu, A550, H⟩ := H
                   replace H : (lodgerlaw15_SeekEnds.j5 k4 l1 aC aK aD (!bu) az aA aB ae aE aF aG ah ai aj ak al am an ao ac af ad ag ap aq ar au av aw ax ay) = some r := H
                   have A55 := Aside0.mk A550; clear A550
                   have H' := Aside0.mk H
                   clear H
                   have p346 : 0 ≤ (a6 : Int) := od_
                   have q346 : a6 < (l1.length : Int) := od_
                   obtain ⟨ad346, e346, hx346_0⟩ := Kd.at_int dn.out a6 p346 q346
                   cases e346
                   replace hx346_0 := (HB.out.cell (World.block_lt_of_cell? w _ hx346_0)).trans hx346_0; replace p346 := eq_true p346; replace q346 := eq_true q346
                   go_wp2_with (first | ((with_reducible refine gd_ 55 ?_); first | refine ld_ aa hu41 ?_ | refine ldS_ aa hu41 ?_) | ((with_reducible refine gs_ (ty := 41) rfl ?_); first | (refine st7_ aa ab (by first | assumption | (exact Ne.symm (by assumption))) ?_; intro s7_; obtain ⟨s7a, s7b, s7c, s7d, s7e, s7f, s7g, s7h, s7i, s7j, s7k, s7l, s7m, s7n⟩ := cz7_ s7_; clear s7_) | refine st_ aa ?_) | (go_at_call 15; (with_reducible refine (lodgerref01_Has.calls k4 (rd l1 a6) cF false _ A51.out).mono ?_); rintro e w' ⟨rfl, ⟨nd, rfl⟩⟩; (try first | exact ⟨rfl, _, World.drewN_drewN _ _ _⟩ | exact ⟨rfl, _, Eq.trans (World.drewN_drewN _ _ _) (congrArg (World.drewN _) (Nat.add_assoc _ _ _))⟩); have p348 : 0 ≤ (aL : Int) := od_; have q348 : aL < (l1.length : Int) := od_; obtain ⟨ad348, e348, hx348_0⟩ := Kd.at_int dn.out aL p348 q348; obtain rfl : ad346 = ad348 := (by injection e348); replace hx348_0 := (HB.out.cell (World.block_lt_of_cell? w _ hx348_0)).trans hx348_0; replace p348 := eq_true p348; replace q348 := eq_true q348) | (go_at_call 15; (with_reducible refine (lodgerref01_Has.calls k4 (rd l1 aL) dk bu _ A55.out).mono ?_); rintro e w' ⟨rfl, ⟨nd, rfl⟩⟩; (try first | exact ⟨rfl, _, World.drewN_drewN _ _ _⟩ | exact ⟨rfl, _, Eq.trans (World.drewN_drewN _ _ _) (congrArg (World.drewN _) (Nat.add_assoc _ _ _))⟩)))
                   repeat (go_quiet (first | ((with_reducible refine gd_ 55 ?_); first | refine ld_ aa hu41 ?_ | refine ldS_ aa hu41 ?_) | ((with_reducible refine gs_ (ty := 41) rfl ?_); first | (refine st7_ aa ab (by first | assumption | (exact Ne.symm (by assumption))) ?_; intro s7_; obtain ⟨s7a, s7b, s7c, s7d, s7e, s7f, s7g, s7h, s7i, s7j, s7k, s7l, s7m, s7n⟩ := cz7_ s7_; clear s7_) | refine st_ aa ?_) | (go_at_call 15; (with_reducible refine (lodgerref01_Has.calls k4 (rd l1 a6) cF false _ A51.out).mono ?_); rintro e w' ⟨rfl, ⟨nd, rfl⟩⟩; (try first | exact ⟨rfl, _, World.drewN_drewN _ _ _⟩ | exact ⟨rfl, _, Eq.trans (World.drewN_drewN _ _ _) (congrArg (World.drewN _) (Nat.add_assoc _ _ _))⟩); have p348 : 0 ≤ (aL : Int) := od_; have q348 : aL < (l1.length : Int) := od_; obtain ⟨ad348, e348, hx348_0⟩ := Kd.at_int dn.out aL p348 q348; obtain rfl : ad346 = ad348 := (by injection e348); replace hx348_0 := (HB.out.cell (World.block_lt_of_cell? w _ hx348_0)).trans hx348_0; replace p348 := eq_true p348; replace q348 := eq_true q348) | (go_at_call 15; (with_reducible refine (lodgerref01_Has.calls k4 (rd l1 aL) dk bu _ A55.out).mono ?_); rintro e w' ⟨rfl, ⟨nd, rfl⟩⟩; (try first | exact ⟨rfl, _, World.drewN_drewN _ _ _⟩ | exact ⟨rfl, _, Eq.trans (World.drewN_drewN _ _ _) (congrArg (World.drewN _) (Nat.add_assoc _ _ _))⟩))); try go_wp2_with (first | ((with_reducible refine gd_ 55 ?_); first | refine ld_ aa hu41 ?_ | refine ldS_ aa hu41 ?_) | ((with_reducible refine gs_ (ty := 41) rfl ?_); first | (refine st7_ aa ab (by first | assumption | (exact Ne.symm (by assumption))) ?_; intro s7_; obtain ⟨s7a, s7b, s7c, s7d, s7e, s7f, s7g, s7h, s7i, s7j, s7k, s7l, s7m, s7n⟩ := cz7_ s7_; clear s7_) | refine st_ aa ?_) | (go_at_call 15; (with_reducible refine (lodgerref01_Has.calls k4 (rd l1 a6) cF false _ A51.out).mono ?_); rintro e w' ⟨rfl, ⟨nd, rfl⟩⟩; (try first | exact ⟨rfl, _, World.drewN_drewN _ _ _⟩ | exact ⟨rfl, _, Eq.trans (World.drewN_drewN _ _ _) (congrArg (World.drewN _) (Nat.add_assoc _ _ _))⟩); have p348 : 0 ≤ (aL : Int) := od_; have q348 : aL < (l1.length : Int) := od_; obtain ⟨ad348, e348, hx348_0⟩ := Kd.at_int dn.out aL p348 q348; obtain rfl : ad346 = ad348 := (by injection e348); replace hx348_0 := (HB.out.cell (World.block_lt_of_cell? w _ hx348_0)).trans hx348_0; replace p348 := eq_true p348; replace q348 := eq_true q348) | (go_at_call 15; (with_reducible refine (lodgerref01_Has.calls k4 (rd l1 aL) dk bu _ A55.out).mono ?_); rintro e w' ⟨rfl, ⟨nd, rfl⟩⟩; (try first | exact ⟨rfl, _, World.drewN_drewN _ _ _⟩ | exact ⟨rfl, _, Eq.trans (World.drewN_drewN _ _ _) (congrArg (World.drewN _) (Nat.add_assoc _ _ _))⟩))))
                   go_meet
                   case rel => exact ⟨_, (!bu), rs_, H', ⟨by have := ce.out; have := cc.out; have := cI.out; have := HK4.out; first | omega | exact Nat.le_refl _⟩, ⟨bk_ ab⟩, ⟨bk_ aa⟩, ⟨hB_ HB⟩⟩
                  ·rw [if_neg c54] at H
                   exact absurd H (by simp)
                 ·rw [if_neg c53] at H
                  exact absurd H (by simp)
               ·rw [if_neg c50] at H
                exact absurd H (by simp)
              ·rw [if_neg c49] at H
               exact absurd H (by simp)
             case rest =>
              clear eH
              try clear c1
              try clear c2
              try clear p2
              try clear c3
              try clear p3
              try clear q3
              try clear hx3
              try clear c4
              try clear c5
              try clear p6
              try clear c7
              try clear c13
              try clear c17
              try clear dt
              try clear du
              try clear c24
              try clear c27
              try clear ca
              try clear c28
              try clear dv
              try clear dw
              try clear c30
              try clear p34
              try clear q34
              try clear hx34
              try clear c35
              try clear c38
              try clear cf
              try clear dF
              try clear c39
              try clear c41
              try clear c43
              try clear c45
              try clear eD
              try clear c49
              try clear dK
              try clear c50
              try clear eN
              try clear c52
              try clear c53
              try clear eO
              try clear c54
              try clear eP
              try clear bb bc bd be bf bg bh
              try clear ch ci cj ck cl cm cn
              try clear bv bw bx bz bA bB bC
              try clear a7 a8 bD bE
              try clear bF bG bH bI bJ bK bL
              try clear cw cx cK cL
              try clear cM cN cO cP cQ cR cS
              try clear bp bq b5 b6
              try clear cy cz cT cU
              try clear dc dd dx dy
              try clear de df dz dA
              try clear bi bj bk bl bm bn bo
              try clear co cp cq cr ct cu cv
              try clear bM bN bO bP bQ bR bS
              try clear a9 ba bT bU
              try clear bV bW bX bY bZ b0 b1
              try clear cA cB cV cW
              try clear cX cY cZ c0 c6 c8 c9
              try clear br bs b7 b8
              try clear cC cD da db
              try clear dg dh dB dC
              try clear di dj dD dE
              try clear hx346_0
              try clear hx348_0
              try clear p2
              try clear p346
              try clear p348
              try clear p6
              try clear q346
              try clear q348
              obtain ⟨kq, b4, rfl, HA, dm, ab, aa, HB⟩ := hcut
              cases kq with
              | zero => exact absurd HA.out (by simp [lodgerlaw15_SeekEnds.j5])
              | succ kj47 =>
               have H := HA.out; clear HA; simp only [lodgerlaw15_SeekEnds.j5] at H; have eI := Aside0.mk H; clear H
               go_upto_region 21 with (fail)
               repeat (go_quiet (fail); go_upto_region 21 with (fail))
               go_cut [12] (fun v12 wc => ∃ (kq : Nat) (b3 : Bool), v12 = .bool b3 ∧ Aside0 (lodgerlaw15_SeekEnds.j6 kq l1 aC b3 aD b4 az aA aB ae aE aF aG ah ai aj ak al am an ao ac af ad ag ap aq ar au av aw ax ay = some r) ∧ Aside0 (kq ≤ kj47) ∧ Aside0 (wc.heap[cg]? = some (.cells #[.int .u32 az, .int .i64 aA, (.slice cb aB.length cd), .int .i64 ae, .int .i64 aE, .int .i64 aF, .int .i64 aG] 27 (0, 0))) ∧ Aside0 (wc.heap[b2]? = some (.cells #[.int .i64 ah, .int .u32 ai, rho_ tb0_ aj, .int .i64 ak, .int .u32 al, .bool am, rho_ tb0_ an, rho_ tb0_ ao, .int .i64 ac, .int .i64 af, .int .i64 ad, .int .i64 ag, .int .i64 ap, .int .u64 aq, .bool ar, rho_ tb0_ au, .int .i64 av, .int .i64 aw, .int .i64 ax, .int .i64 ay] 41 (0, 0))) ∧ Aside0 (Below w.heap.size w wc))
               case first =>
                have H := eI.out; clear eI
                by_cases c57 : aK = true
                ·subst c57
                 have H1 : (lodgerlaw15_SeekEnds.j6 kj47 l1 aC true aD b4 az aA aB ae aE aF aG ah ai aj ak al am an ao ac af ad ag ap aq ar au av aw ax ay) = some r := pf_ rfl H
                 clear H; have H := H1; clear H1
                 have H' := Aside0.mk H
                 clear H
                 go_wp2
                 repeat (go_quiet (fail); try go_wp2)
                 go_meet
                 case rel => exact ⟨_, (true), rs_, H', ⟨by have := ce.out; have := cc.out; have := cI.out; have := HK4.out; have := dm.out; first | omega | exact Nat.le_refl _⟩, ⟨bk_ ab⟩, ⟨bk_ aa⟩, ⟨hB_ HB⟩⟩
                ·replace c57 := Bool.eq_false_iff.mpr c57
                 subst c57
                 have H1 : (lodgerlaw15_SeekEnds.j6 kj47 l1 aC b4 aD b4 az aA aB ae aE aF aG ah ai aj ak al am an ao ac af ad ag ap aq ar au av aw ax ay) = some r := nf_ H
                 clear H; have H := H1; clear H1
                 have H' := Aside0.mk H
                 clear H
                 go_wp2
                 repeat (go_quiet (fail); try go_wp2)
                 go_meet
                 case rel => exact ⟨_, (b4), rs_, H', ⟨by have := ce.out; have := cc.out; have := cI.out; have := HK4.out; have := dm.out; first | omega | exact Nat.le_refl _⟩, ⟨bk_ ab⟩, ⟨bk_ aa⟩, ⟨hB_ HB⟩⟩
               case rest =>
                clear eI
                try clear c1
                try clear c2
                try clear p2
                try clear c3
                try clear p3
                try clear q3
                try clear hx3
                try clear c4
                try clear c5
                try clear p6
                try clear c7
                try clear c13
                try clear c17
                try clear dt
                try clear du
                try clear c24
                try clear c27
                try clear ca
                try clear c28
                try clear dv
                try clear dw
                try clear c30
                try clear p34
                try clear q34
                try clear hx34
                try clear c35
                try clear c38
                try clear cf
                try clear dF
                try clear c39
                try clear c41
                try clear c43
                try clear c45
                try clear eD
                try clear c49
                try clear dK
                try clear c50
                try clear eN
                try clear c52
                try clear c53
                try clear eO
                try clear c54
                try clear eP
                try clear c57
                try clear bb bc bd be bf bg bh
                try clear ch ci cj ck cl cm cn
                try clear bv bw bx bz bA bB bC
                try clear a7 a8 bD bE
                try clear bF bG bH bI bJ bK bL
                try clear cw cx cK cL
                try clear cM cN cO cP cQ cR cS
                try clear bp bq b5 b6
                try clear cy cz cT cU
                try clear dc dd dx dy
                try clear de df dz dA
                try clear bi bj bk bl bm bn bo
                try clear co cp cq cr ct cu cv
                try clear bM bN bO bP bQ bR bS
                try clear a9 ba bT bU
                try clear bV bW bX bY bZ b0 b1
                try clear cA cB cV cW
                try clear cX cY cZ c0 c6 c8 c9
                try clear br bs b7 b8
                try clear cC cD da db
                try clear dg dh dB dC
                try clear di dj dD dE
                try clear hx346_0
                try clear hx348_0
                try clear p2
                try clear p3
                try clear p34
                try clear p346
                try clear p348
                try clear p6
                try clear q3
                try clear q34
                try clear q346
                try clear q348
                obtain ⟨kq, b3, rfl, HA, dI, ab, aa, HB⟩ := hcut
                cases kq with
                | zero => exact absurd HA.out (by simp [lodgerlaw15_SeekEnds.j6])
                | succ kj55 =>
                 have H := HA.out; clear HA; simp only [lodgerlaw15_SeekEnds.j6] at H
                 by_cases c58 : ac = 2
                 ·rw [if_pos c58] at H
                  have eX : (ac == 2) = true := beq_iff_eq.mpr c58
                  have eY : (ac != 2) = false := bne_eq_false_iff_eq.mpr c58
                  clear c58
                  by_cases c59 : aD = ag
                  ·rw [if_pos c59] at H
                   have eZ : (aD == ag) = true := beq_iff_eq.mpr c59
                   have e0 : (aD != ag) = false := bne_eq_false_iff_eq.mpr c59
                   clear c59
                   by_cases c60 : b4 = true
                   ·subst c60
                    have H1 : ((lodgerref12_Of.f kj55 aC ae aD).bind fun cJ => ((lodgerref12_Rest.f (wrap64 (af + ad)) ae).bind fun cG => (if cJ = cG then (lodgerlaw15_SeekEnds.l1 kj55 l1 aC b3 (wrap64 (aD + 1)) az aA aB ae aE aF aG ah ai aj ak al am an ao ac af ad ag ap aq ar au av aw ax ay) else (some false)))) = some r := pf_ rfl H
                    clear H; have H := H1; clear H1; replace H := bi_ H; obtain ⟨cJ, A610, H⟩ := H
                    replace H : ((lodgerref12_Rest.f (wrap64 (af + ad)) ae).bind fun cG => (if cJ = cG then (lodgerlaw15_SeekEnds.l1 kj55 l1 aC b3 (wrap64 (aD + 1)) az aA aB ae aE aF aG ah ai aj ak al am an ao ac af ad ag ap aq ar au av aw ax ay) else (some false))) = some r := H
                    have A61 := Aside0.mk A610; clear A610; replace H := bi_ H; obtain ⟨cG, A620, H⟩ := H
                    replace H : (if cJ = cG then (lodgerlaw15_SeekEnds.l1 kj55 l1 aC b3 (wrap64 (aD + 1)) az aA aB ae aE aF aG ah ai aj ak al am an ao ac af ad ag ap aq ar au av aw ax ay) else (some false)) = some r := H
                    have A62 := Aside0.mk A620; clear A620
                    by_cases c63 : cJ = cG
                    ·rw [if_pos c63] at H
                     have fD : (cJ == cG) = true := beq_iff_eq.mpr c63
                     have fE : (cJ != cG) = false := bne_eq_false_iff_eq.mpr c63
                     clear c63
                     have H' := Aside0.mk H
                     clear H; have fO := aI.out; have fV := aH.out; obtain ⟨fd, fq⟩ := c20_8 (w := wc) aa; obtain ⟨fe, fr⟩ := c20_9 (w := wc) aa; obtain ⟨e1, e7⟩ := c20_10 (w := wc) aa; obtain ⟨e2, e8⟩ := c20_11 (w := wc) aa; obtain ⟨ff, fg, fh, fi, fj, fk, fl, fs, ft, fu, fv, fw, fx, fy⟩ := cz7_ (w := wc) ab
                     go_wp2_with (first | ((with_reducible refine gd_ 55 ?_); first | refine ld_ aa hu41 ?_ | refine ldS_ aa hu41 ?_) | ((with_reducible refine gs_ (ty := 41) rfl ?_); first | (refine st7_ aa ab (by first | assumption | (exact Ne.symm (by assumption))) ?_; intro s7_; obtain ⟨s7a, s7b, s7c, s7d, s7e, s7f, s7g, s7h, s7i, s7j, s7k, s7l, s7m, s7n⟩ := cz7_ s7_; clear s7_) | refine st_ aa ?_) | (go_at_call 16; (with_reducible refine (lodgerref12_Of.calls kj55 aC ae aD cJ _ A61.out).mono ?_); rintro e w' ⟨rfl, ⟨nd, rfl⟩⟩; (try first | exact ⟨rfl, _, World.drewN_drewN _ _ _⟩ | exact ⟨rfl, _, Eq.trans (World.drewN_drewN _ _ _) (congrArg (World.drewN _) (Nat.add_assoc _ _ _))⟩)) | (go_at_call 17; (with_reducible refine (lodgerref12_Rest.calls (wrap64 (af + ad)) ae cG _ A62.out).mono ?_); rintro e w' ⟨rfl, ⟨nd, rfl⟩⟩; (try first | exact ⟨rfl, _, World.drewN_drewN _ _ _⟩ | exact ⟨rfl, _, Eq.trans (World.drewN_drewN _ _ _) (congrArg (World.drewN _) (Nat.add_assoc _ _ _))⟩)))
                     repeat (go_quiet (first | ((with_reducible refine gd_ 55 ?_); first | refine ld_ aa hu41 ?_ | refine ldS_ aa hu41 ?_) | ((with_reducible refine gs_ (ty := 41) rfl ?_); first | (refine st7_ aa ab (by first | assumption | (exact Ne.symm (by assumption))) ?_; intro s7_; obtain ⟨s7a, s7b, s7c, s7d, s7e, s7f, s7g, s7h, s7i, s7j, s7k, s7l, s7m, s7n⟩ := cz7_ s7_; clear s7_) | refine st_ aa ?_) | (go_at_call 16; (with_reducible refine (lodgerref12_Of.calls kj55 aC ae aD cJ _ A61.out).mono ?_); rintro e w' ⟨rfl, ⟨nd, rfl⟩⟩; (try first | exact ⟨rfl, _, World.drewN_drewN _ _ _⟩ | exact ⟨rfl, _, Eq.trans (World.drewN_drewN _ _ _) (congrArg (World.drewN _) (Nat.add_assoc _ _ _))⟩)) | (go_at_call 17; (with_reducible refine (lodgerref12_Rest.calls (wrap64 (af + ad)) ae cG _ A62.out).mono ?_); rintro e w' ⟨rfl, ⟨nd, rfl⟩⟩; (try first | exact ⟨rfl, _, World.drewN_drewN _ _ _⟩ | exact ⟨rfl, _, Eq.trans (World.drewN_drewN _ _ _) (congrArg (World.drewN _) (Nat.add_assoc _ _ _))⟩))); try go_wp2_with (first | ((with_reducible refine gd_ 55 ?_); first | refine ld_ aa hu41 ?_ | refine ldS_ aa hu41 ?_) | ((with_reducible refine gs_ (ty := 41) rfl ?_); first | (refine st7_ aa ab (by first | assumption | (exact Ne.symm (by assumption))) ?_; intro s7_; obtain ⟨s7a, s7b, s7c, s7d, s7e, s7f, s7g, s7h, s7i, s7j, s7k, s7l, s7m, s7n⟩ := cz7_ s7_; clear s7_) | refine st_ aa ?_) | (go_at_call 16; (with_reducible refine (lodgerref12_Of.calls kj55 aC ae aD cJ _ A61.out).mono ?_); rintro e w' ⟨rfl, ⟨nd, rfl⟩⟩; (try first | exact ⟨rfl, _, World.drewN_drewN _ _ _⟩ | exact ⟨rfl, _, Eq.trans (World.drewN_drewN _ _ _) (congrArg (World.drewN _) (Nat.add_assoc _ _ _))⟩)) | (go_at_call 17; (with_reducible refine (lodgerref12_Rest.calls (wrap64 (af + ad)) ae cG _ A62.out).mono ?_); rintro e w' ⟨rfl, ⟨nd, rfl⟩⟩; (try first | exact ⟨rfl, _, World.drewN_drewN _ _ _⟩ | exact ⟨rfl, _, Eq.trans (World.drewN_drewN _ _ _) (congrArg (World.drewN _) (Nat.add_assoc _ _ _))⟩))))
                     go_roundg kj55
                     case measure => have := ce.out; have := cc.out; have := cI.out; have := HK4.out; have := dm.out; have := dI.out; omega
                     case rel => exact ⟨(b3), (wrap64 (aD + 1)), rs_, rs_, H', ⟨by have := ce.out; have := cc.out; have := cI.out; have := HK4.out; have := dm.out; have := dI.out; omega⟩, ⟨bk_ ab⟩, ⟨bk_ aa⟩, ⟨hB_ HB⟩⟩
                    ·rw [if_neg c63] at H
                     rw [hr_.out] at H
                     exact absurd (Option.some.inj H) (by decide)
                   ·replace c60 := Bool.eq_false_iff.mpr c60
                    subst c60
                    have H1 : (some false) = some r := nf_ H
                    rw [hr_.out] at H1
                    exact absurd (Option.some.inj H1) (by decide)
                  ·rw [if_neg c59] at H
                   have eZ : (aD == ag) = false := beq_eq_false_iff_ne.mpr c59
                   have e0 : (aD != ag) = true := bne_iff_ne.mpr c59
                   have H' := Aside0.mk H
                   clear H; have fP := aI.out; have fW := aH.out; obtain ⟨fm, fz⟩ := c20_8 (w := wc) aa; obtain ⟨fn, fA⟩ := c20_9 (w := wc) aa; obtain ⟨e3, e9⟩ := c20_10 (w := wc) aa; obtain ⟨e4, fa⟩ := c20_11 (w := wc) aa
                   go_wp2
                   repeat (go_quiet (fail); try go_wp2)
                   go_roundg kj55
                   case measure => have := ce.out; have := cc.out; have := cI.out; have := HK4.out; have := dm.out; have := dI.out; omega
                   case rel => exact ⟨(b3), (wrap64 (aD + 1)), rs_, rs_, H', ⟨by have := ce.out; have := cc.out; have := cI.out; have := HK4.out; have := dm.out; have := dI.out; omega⟩, ⟨bk_ ab⟩, ⟨bk_ aa⟩, ⟨hB_ HB⟩⟩
                 ·rw [if_neg c58] at H
                  have eX : (ac == 2) = false := beq_eq_false_iff_ne.mpr c58
                  have eY : (ac != 2) = true := bne_iff_ne.mpr c58
                  have H' := Aside0.mk H
                  clear H; have fQ := aI.out; have fX := aH.out; obtain ⟨fo, fB⟩ := c20_8 (w := wc) aa; obtain ⟨fp, fC⟩ := c20_9 (w := wc) aa; obtain ⟨e5, fb⟩ := c20_10 (w := wc) aa; obtain ⟨e6, fc⟩ := c20_11 (w := wc) aa
                  go_wp2
                  repeat (go_quiet (fail); try go_wp2)
                  go_roundg kj55
                  case measure => have := ce.out; have := cc.out; have := cI.out; have := HK4.out; have := dm.out; have := dI.out; omega
                  case rel => exact ⟨(b3), (wrap64 (aD + 1)), rs_, rs_, H', ⟨by have := ce.out; have := cc.out; have := cI.out; have := HK4.out; have := dm.out; have := dI.out; omega⟩, ⟨bk_ ab⟩, ⟨bk_ aa⟩, ⟨hB_ HB⟩⟩
            ·rw [if_neg c45] at H
             have eD : decide (aD < b9) = false := decide_eq_false c45
             clear c45
             by_cases c76 : ((ac == 2) == aK) = true
             ·rw [if_pos c76] at H
              have fF : ((ac == 2) == aK) = true := c76
              (try (have fG : decide ((ac == 2) = aK) = true := by simpa using c76))
              (try (have fH : ((ac == 2) == aK) = true := by simpa using c76))
              clear c76
              by_cases c77 : aK = true
              ·subst c77
               have H1 : (some true) = some r := pf_ rfl H
               clear H; have H := H1; clear H1
               first | (exfalso; rw [hr_.out] at H; exact absurd (Option.some.inj H) (by decide)) | (try clear hr_)
               all_goals
                obtain rfl := Option.some.inj H
                go_wp2_with (first | ((with_reducible refine gd_ 55 ?_); first | refine ld_ aa hu41 ?_ | refine ldS_ aa hu41 ?_) | ((with_reducible refine gs_ (ty := 41) rfl ?_); first | (refine st7_ aa ab (by first | assumption | (exact Ne.symm (by assumption))) ?_; intro s7_; obtain ⟨s7a, s7b, s7c, s7d, s7e, s7f, s7g, s7h, s7i, s7j, s7k, s7l, s7m, s7n⟩ := cz7_ s7_; clear s7_) | refine st_ aa ?_) | (go_at_call 12; (with_reducible refine (lodgerref06_Leaves.calls k4 aC b9 _ A44.out).mono ?_); rintro e w' ⟨rfl, ⟨nd, rfl⟩⟩; (try first | exact ⟨rfl, _, World.drewN_drewN _ _ _⟩ | exact ⟨rfl, _, Eq.trans (World.drewN_drewN _ _ _) (congrArg (World.drewN _) (Nat.add_assoc _ _ _))⟩); have eR := aI.out; have eU := aH.out; obtain ⟨ef, er⟩ := c20_8 (w := wr) aa; obtain ⟨eg, et⟩ := c20_9 (w := wr) aa; obtain ⟨dM, dQ⟩ := c20_10 (w := wr) aa; obtain ⟨dN, dR⟩ := c20_11 (w := wr) aa))
                repeat (go_quiet (first | ((with_reducible refine gd_ 55 ?_); first | refine ld_ aa hu41 ?_ | refine ldS_ aa hu41 ?_) | ((with_reducible refine gs_ (ty := 41) rfl ?_); first | (refine st7_ aa ab (by first | assumption | (exact Ne.symm (by assumption))) ?_; intro s7_; obtain ⟨s7a, s7b, s7c, s7d, s7e, s7f, s7g, s7h, s7i, s7j, s7k, s7l, s7m, s7n⟩ := cz7_ s7_; clear s7_) | refine st_ aa ?_) | (go_at_call 12; (with_reducible refine (lodgerref06_Leaves.calls k4 aC b9 _ A44.out).mono ?_); rintro e w' ⟨rfl, ⟨nd, rfl⟩⟩; (try first | exact ⟨rfl, _, World.drewN_drewN _ _ _⟩ | exact ⟨rfl, _, Eq.trans (World.drewN_drewN _ _ _) (congrArg (World.drewN _) (Nat.add_assoc _ _ _))⟩); have eR := aI.out; have eU := aH.out; obtain ⟨ef, er⟩ := c20_8 (w := wr) aa; obtain ⟨eg, et⟩ := c20_9 (w := wr) aa; obtain ⟨dM, dQ⟩ := c20_10 (w := wr) aa; obtain ⟨dN, dR⟩ := c20_11 (w := wr) aa)); try go_wp2_with (first | ((with_reducible refine gd_ 55 ?_); first | refine ld_ aa hu41 ?_ | refine ldS_ aa hu41 ?_) | ((with_reducible refine gs_ (ty := 41) rfl ?_); first | (refine st7_ aa ab (by first | assumption | (exact Ne.symm (by assumption))) ?_; intro s7_; obtain ⟨s7a, s7b, s7c, s7d, s7e, s7f, s7g, s7h, s7i, s7j, s7k, s7l, s7m, s7n⟩ := cz7_ s7_; clear s7_) | refine st_ aa ?_) | (go_at_call 12; (with_reducible refine (lodgerref06_Leaves.calls k4 aC b9 _ A44.out).mono ?_); rintro e w' ⟨rfl, ⟨nd, rfl⟩⟩; (try first | exact ⟨rfl, _, World.drewN_drewN _ _ _⟩ | exact ⟨rfl, _, Eq.trans (World.drewN_drewN _ _ _) (congrArg (World.drewN _) (Nat.add_assoc _ _ _))⟩); have eR := aI.out; have eU := aH.out; obtain ⟨ef, er⟩ := c20_8 (w := wr) aa; obtain ⟨eg, et⟩ := c20_9 (w := wr) aa; obtain ⟨dM, dQ⟩ := c20_10 (w := wr) aa; obtain ⟨dN, dR⟩ := c20_11 (w := wr) aa)))
                go_ret
                exact ⟨er_, hB_ HB⟩
              ·replace c77 := Bool.eq_false_iff.mpr c77
               subst c77
               have H1 : (if ac = 6 then (some (ad == ae)) else (some false)) = some r := nf_ H
               clear H; have H := H1; clear H1
               by_cases c80 : ac = 6
               ·rw [if_pos c80] at H
                have fI : (ac == 6) = true := beq_iff_eq.mpr c80
                have fJ : (ac != 6) = false := bne_eq_false_iff_eq.mpr c80
                clear c80
                first | (exfalso; rw [hr_.out] at H; exact absurd (Option.some.inj H) (by decide)) | (try clear hr_)
                all_goals
                 obtain rfl := Option.some.inj H
                 go_wp2_with (first | ((with_reducible refine gd_ 55 ?_); first | refine ld_ aa hu41 ?_ | refine ldS_ aa hu41 ?_) | ((with_reducible refine gs_ (ty := 41) rfl ?_); first | (refine st7_ aa ab (by first | assumption | (exact Ne.symm (by assumption))) ?_; intro s7_; obtain ⟨s7a, s7b, s7c, s7d, s7e, s7f, s7g, s7h, s7i, s7j, s7k, s7l, s7m, s7n⟩ := cz7_ s7_; clear s7_) | refine st_ aa ?_) | (go_at_call 12; (with_reducible refine (lodgerref06_Leaves.calls k4 aC b9 _ A44.out).mono ?_); rintro e w' ⟨rfl, ⟨nd, rfl⟩⟩; (try first | exact ⟨rfl, _, World.drewN_drewN _ _ _⟩ | exact ⟨rfl, _, Eq.trans (World.drewN_drewN _ _ _) (congrArg (World.drewN _) (Nat.add_assoc _ _ _))⟩); have eS := aI.out; have eV := aH.out; obtain ⟨eh, eu⟩ := c20_8 (w := wr) aa; obtain ⟨ei, ev⟩ := c20_9 (w := wr) aa; obtain ⟨dO, dS⟩ := c20_10 (w := wr) aa; obtain ⟨dP, dT⟩ := c20_11 (w := wr) aa; obtain ⟨ej, ek, el, em, en, eo, ep, ew, ex, ey, ez, eA, eB, eC⟩ := cz7_ (w := wr) ab))
                 repeat (go_quiet (first | ((with_reducible refine gd_ 55 ?_); first | refine ld_ aa hu41 ?_ | refine ldS_ aa hu41 ?_) | ((with_reducible refine gs_ (ty := 41) rfl ?_); first | (refine st7_ aa ab (by first | assumption | (exact Ne.symm (by assumption))) ?_; intro s7_; obtain ⟨s7a, s7b, s7c, s7d, s7e, s7f, s7g, s7h, s7i, s7j, s7k, s7l, s7m, s7n⟩ := cz7_ s7_; clear s7_) | refine st_ aa ?_) | (go_at_call 12; (with_reducible refine (lodgerref06_Leaves.calls k4 aC b9 _ A44.out).mono ?_); rintro e w' ⟨rfl, ⟨nd, rfl⟩⟩; (try first | exact ⟨rfl, _, World.drewN_drewN _ _ _⟩ | exact ⟨rfl, _, Eq.trans (World.drewN_drewN _ _ _) (congrArg (World.drewN _) (Nat.add_assoc _ _ _))⟩); have eS := aI.out; have eV := aH.out; obtain ⟨eh, eu⟩ := c20_8 (w := wr) aa; obtain ⟨ei, ev⟩ := c20_9 (w := wr) aa; obtain ⟨dO, dS⟩ := c20_10 (w := wr) aa; obtain ⟨dP, dT⟩ := c20_11 (w := wr) aa; obtain ⟨ej, ek, el, em, en, eo, ep, ew, ex, ey, ez, eA, eB, eC⟩ := cz7_ (w := wr) ab)); try go_wp2_with (first | ((with_reducible refine gd_ 55 ?_); first | refine ld_ aa hu41 ?_ | refine ldS_ aa hu41 ?_) | ((with_reducible refine gs_ (ty := 41) rfl ?_); first | (refine st7_ aa ab (by first | assumption | (exact Ne.symm (by assumption))) ?_; intro s7_; obtain ⟨s7a, s7b, s7c, s7d, s7e, s7f, s7g, s7h, s7i, s7j, s7k, s7l, s7m, s7n⟩ := cz7_ s7_; clear s7_) | refine st_ aa ?_) | (go_at_call 12; (with_reducible refine (lodgerref06_Leaves.calls k4 aC b9 _ A44.out).mono ?_); rintro e w' ⟨rfl, ⟨nd, rfl⟩⟩; (try first | exact ⟨rfl, _, World.drewN_drewN _ _ _⟩ | exact ⟨rfl, _, Eq.trans (World.drewN_drewN _ _ _) (congrArg (World.drewN _) (Nat.add_assoc _ _ _))⟩); have eS := aI.out; have eV := aH.out; obtain ⟨eh, eu⟩ := c20_8 (w := wr) aa; obtain ⟨ei, ev⟩ := c20_9 (w := wr) aa; obtain ⟨dO, dS⟩ := c20_10 (w := wr) aa; obtain ⟨dP, dT⟩ := c20_11 (w := wr) aa; obtain ⟨ej, ek, el, em, en, eo, ep, ew, ex, ey, ez, eA, eB, eC⟩ := cz7_ (w := wr) ab)))
                 go_ret
                 exact ⟨er_, hB_ HB⟩
               ·rw [if_neg c80] at H
                rw [hr_.out] at H
                exact absurd (Option.some.inj H) (by decide)
             ·rw [if_neg c76] at H
              rw [hr_.out] at H
              exact absurd (Option.some.inj H) (by decide)

/-- THE ONE PURE STATEMENT of lodgerlaw15_SeekEnds: yours. -/
def lodgerlaw15_SeekEnds.Pure : Prop := ∀ (a0_0 a0_1 : Int) (l0_2 : List Int) (a0_3 a0_4 : Int) (a0_5 a0_6 : Int) (l1 : List Int) (a2 : Int), (Lit.int .u32 a0_0).wf = true → (Lit.int .i64 a0_1).wf = true → l0_2.length ≤ maxLen → (∀ x ∈ l0_2, (Lit.int .i64 x).wf = true) → (Lit.int .i64 a0_3).wf = true → (Lit.int .i64 a0_4).wf = true → (Lit.int .i64 a0_5).wf = true → (Lit.int .i64 a0_6).wf = true → l1.length ≤ maxLen → l1.length * 8 ≤ 140737488351232 → (∀ x ∈ l1, (Lit.int .u64 x).wf = true) → (Lit.int .u8 a2).wf = true → ∃ k, lodgerlaw15_SeekEnds.f k a0_0 a0_1 l0_2 a0_3 a0_4 a0_5 a0_6 l1 a2 = some true
theorem lodgerlaw15_SeekEnds.walk (P : lodgerlaw15_SeekEnds.Pure) (a0_0 a0_1 : Int) (a0_2 : Option Addr) (len0_2 cap0_2 : Nat) (z0_2 : List Int) (a0_3 a0_4 : Int) (a0_5 a0_6 : Int) (a1 : Option Addr) (len1 cap1 : Nat) (z1 : List Int) (a2 : Int) (w : World) (w0_0 : (Lit.int .u32 a0_0).wf = true) (w0_1 : (Lit.int .i64 a0_1).wf = true) (w0_2 : (a0_2 = none ∧ len0_2 = 0 ∧ cap0_2 = 0 ∧ z0_2 = []) ∨ ∃ x, a0_2 = some x ∧ len0_2 ≤ cap0_2 ∧ cap0_2 ≤ maxLen ∧ z0_2.length = cap0_2 ∧ (∀ i, i < z0_2.length → w.cell? (x.add i) = some (.int .i64 (z0_2.getD i 0))) ∧ ∀ n ∈ z0_2, (Lit.int .i64 n).wf = true) (w0_3 : (Lit.int .i64 a0_3).wf = true) (w0_4 : (Lit.int .i64 a0_4).wf = true) (w0_5 : (Lit.int .i64 a0_5).wf = true) (w0_6 : (Lit.int .i64 a0_6).wf = true) (w1 : (a1 = none ∧ len1 = 0 ∧ cap1 = 0 ∧ z1 = []) ∨ ∃ x, a1 = some x ∧ len1 ≤ cap1 ∧ cap1 ≤ maxLen ∧ z1.length = cap1 ∧ (∀ i, i < z1.length → w.cell? (x.add i) = some (.int .u64 (z1.getD i 0))) ∧ ∀ n ∈ z1, (Lit.int .u64 n).wf = true) (y1 : len1 * 8 ≤ 140737488351232) (w2 : (Lit.int .u8 a2).wf = true) :
  Calls Try.prog 3 #[.agg #[.int .u32 a0_0, .int .i64 a0_1, .slice a0_2 len0_2 cap0_2, .int .i64 a0_3, .int .i64 a0_4, .int .i64 a0_5, .int .i64 a0_6], .slice a1 len1 cap1, .int .u8 a2] w fun e w' => e = .returned (.bool true) ∧ Below w.heap.size w w' := by
 obtain ⟨l0_2, rfl, hr0_2, hm0_2, hw0_2, hc0_2⟩ := ReadsInt.ofRowC w0_2
 obtain ⟨l1, rfl, hr1, hm1, hw1, hc1⟩ := ReadsInt.ofRowC w1
 obtain ⟨k, h⟩ := P a0_0 a0_1 l0_2 a0_3 a0_4 a0_5 a0_6 l1 a2 w0_0 w0_1 hm0_2 hw0_2 w0_3 w0_4 w0_5 w0_6 hm1 y1 hw1 w2
 refine (lodgerlaw15_SeekEnds.calls k a0_0 a0_1 _ _ l0_2 a0_3 a0_4 a0_5 a0_6 _ _ l1 a2 true w (Kd.C_of_reads (d := (0 : Int)) (h1 := fun _ => rfl) hr0_2) hc0_2 (Kd.C_of_reads (d := (0 : Int)) (h1 := fun _ => rfl) hr1) hc1 rfl h).mono ?_
 rintro e w' ⟨rfl, hd⟩
 exact ⟨rfl, hd⟩

end Go.Proofs.Ytfhjeneegfmngaa.PSeekEnds
