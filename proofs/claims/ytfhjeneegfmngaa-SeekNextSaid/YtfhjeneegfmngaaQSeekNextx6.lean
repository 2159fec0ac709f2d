/- The walk of SeekNext, part of it: what the Go functions answer; no condition. -/
import Derived.Test.YtfhjeneegfmngaaQSeekNextx0
import Derived.Test.YtfhjeneegfmngaaQSeekNextx2
import Derived.Test.YtfhjeneegfmngaaQSeekNextx3
import Derived.Test.YtfhjeneegfmngaaQSeekNextx5
namespace Go.Proofs.Ytfhjeneegfmngaa.PSeekNext
open Go.RowKit Go.Proofs.YtfhjeneegfmngaaW.PrintWords Go.Proofs.YtfhjeneegfmngaaW.PrintLast Go.Proofs.YtfhjeneegfmngaaW.PrintMore
attribute [local go_sem] max2_int min2_int max_two min_two max_three min_three max_four min_four   -- for this text's walks alone
set_option linter.unusedVariables false
set_option linter.unusedSimpArgs false

variable {tb_ : Int → Option Addr × Nat × Nat}

/-! ### lodgerlaw15_SeekNext: function 4 -/
mutual
def lodgerlaw15_SeekNext.j0 : Nat → List Int → Int → Bool → Int → Int → List Int → Int → Int → Int → Int → Option (Bool)
 | 0, _, _, _, _, _, _, _, _, _, _ => none
 | k + 1, x1, x2, x24, x315000, x315001, x315002, x315003, x315004, x315005, x315006 => if x24 = true then ((lodgerlaw15_awake.f k).bind fun t317 => (some t317)) else ((lodgerref05_Many.f k x315000 x315001).bind fun t318 => (if x315003 = 0 then (none) else (lodgerlaw15_SeekNext.l0 k x1 t318 0 x315000 x315001 x315002 x315003 x315004 x315005 x315006 0 0 0 0 0 false 0 0 1 (Int.tmod (wrap64 (x2)) x315003) 0 0 0 0 false 0 0 0 0 0)))
def lodgerlaw15_SeekNext.j2 : Nat → List Int → Int → Int → Int → List Int → Int → Int → Int → Int → Int → Int → Int → Int → Int → Bool → Int → Int → Int → Int → Int → Int → Int → Int → Bool → Int → Int → Int → Int → Int → Option (Bool)
 | 0, _, _, _, _, _, _, _, _, _, _, _, _, _, _, _, _, _, _, _, _, _, _, _, _, _, _, _, _, _ => none
 | k + 1, x1, x7, x315000, x315001, x315002, x315003, x315004, x315005, x315006, x320000, x320001, x320002, x320003, x320004, x320005, x320006, x320007, x320008, x320009, x320010, x320011, x320012, x320013, x320014, x320015, x320016, x320017, x320018, x320019 => if x320008 = 2 then (lodgerlaw15_SeekNext.l1 k x1 x7 0 x315000 x315001 x315002 x315003 x315004 x315005 x315006 x320000 x320001 x320002 x320003 x320004 x320005 x320006 x320007 x320008 x320009 x320010 x320011 x320012 x320013 x320014 x320015 x320016 x320017 x320018 x320019) else (some (x320008 == 6))
def lodgerlaw15_SeekNext.l1 : Nat → List Int → Int → Int → Int → Int → List Int → Int → Int → Int → Int → Int → Int → Int → Int → Int → Bool → Int → Int → Int → Int → Int → Int → Int → Int → Bool → Int → Int → Int → Int → Int → Option (Bool)
 | 0, _, _, _, _, _, _, _, _, _, _, _, _, _, _, _, _, _, _, _, _, _, _, _, _, _, _, _, _, _, _ => none
 | k + 1, x1, x7, x10, x315000, x315001, x315002, x315003, x315004, x315005, x315006, x320000, x320001, x320002, x320003, x320004, x320005, x320006, x320007, x320008, x320009, x320010, x320011, x320012, x320013, x320014, x320015, x320016, x320017, x320018, x320019 => (lodgerref06_Leaves.f k x7).bind fun t340 => (if x10 < t340 then ((lodgerref06_Top.f k x7 x10).bind fun bt341 => ((lodgerref06_Root.f k x7 x10).bind fun bt343 => (if 0 ≤ bt341.1 then (if bt341.1 < (x1.length : Int) then ((lodgerref01_Has.f k (rd x1 bt341.1) bt341.2).bind fun t346 => (if t346 = true then (lodgerlaw15_SeekNext.j4 k x1 x7 x10 true x315000 x315001 x315002 x315003 x315004 x315005 x315006 x320000 x320001 x320002 x320003 x320004 x320005 x320006 x320007 x320008 x320009 x320010 x320011 x320012 x320013 x320014 x320015 x320016 x320017 x320018 x320019) else (if 0 ≤ bt343.1 then (if bt343.1 < (x1.length : Int) then ((lodgerref01_Has.f k (rd x1 bt343.1) bt343.2).bind fun t348 => (lodgerlaw15_SeekNext.j4 k x1 x7 x10 t348 x315000 x315001 x315002 x315003 x315004 x315005 x315006 x320000 x320001 x320002 x320003 x320004 x320005 x320006 x320007 x320008 x320009 x320010 x320011 x320012 x320013 x320014 x320015 x320016 x320017 x320018 x320019)) else (none)) else (none)))) else (none)) else (none)))) else (some true))
def lodgerlaw15_SeekNext.j4 : Nat → List Int → Int → Int → Bool → Int → Int → List Int → Int → Int → Int → Int → Int → Int → Int → Int → Int → Bool → Int → Int → Int → Int → Int → Int → Int → Int → Bool → Int → Int → Int → Int → Int → Option (Bool)
 | 0, _, _, _, _, _, _, _, _, _, _, _, _, _, _, _, _, _, _, _, _, _, _, _, _, _, _, _, _, _, _, _ => none
 | k + 1, x1, x7, x10, x15, x315000, x315001, x315002, x315003, x315004, x315005, x315006, x320000, x320001, x320002, x320003, x320004, x320005, x320006, x320007, x320008, x320009, x320010, x320011, x320012, x320013, x320014, x320015, x320016, x320017, x320018, x320019 => (lodgerref12_Of.f k x7 x315003 x10).bind fun t349 => ((lodgerref12_Rest.f (wrap64 ((wrap64 (t349 + x315003)) - x320009)) x315003).bind fun t350 => (if t350 < x320010 then (if x15 = true then (lodgerlaw15_SeekNext.l1 k x1 x7 (wrap64 (x10 + 1)) x315000 x315001 x315002 x315003 x315004 x315005 x315006 x320000 x320001 x320002 x320003 x320004 x320005 x320006 x320007 x320008 x320009 x320010 x320011 x320012 x320013 x320014 x320015 x320016 x320017 x320018 x320019) else (some false)) else (if t350 = x320010 then (if x10 < x320011 then (if x15 = true then (lodgerlaw15_SeekNext.l1 k x1 x7 (wrap64 (x10 + 1)) x315000 x315001 x315002 x315003 x315004 x315005 x315006 x320000 x320001 x320002 x320003 x320004 x320005 x320006 x320007 x320008 x320009 x320010 x320011 x320012 x320013 x320014 x320015 x320016 x320017 x320018 x320019) else (some false)) else (lodgerlaw15_SeekNext.l1 k x1 x7 (wrap64 (x10 + 1)) x315000 x315001 x315002 x315003 x315004 x315005 x315006 x320000 x320001 x320002 x320003 x320004 x320005 x320006 x320007 x320008 x320009 x320010 x320011 x320012 x320013 x320014 x320015 x320016 x320017 x320018 x320019)) else (lodgerlaw15_SeekNext.l1 k x1 x7 (wrap64 (x10 + 1)) x315000 x315001 x315002 x315003 x315004 x315005 x315006 x320000 x320001 x320002 x320003 x320004 x320005 x320006 x320007 x320008 x320009 x320010 x320011 x320012 x320013 x320014 x320015 x320016 x320017 x320018 x320019))))
def lodgerlaw15_SeekNext.l0 : Nat → List Int → Int → Int → Int → Int → List Int → Int → Int → Int → Int → Int → Int → Int → Int → Int → Bool → Int → Int → Int → Int → Int → Int → Int → Int → Bool → Int → Int → Int → Int → Int → Option (Bool)
 | 0, _, _, _, _, _, _, _, _, _, _, _, _, _, _, _, _, _, _, _, _, _, _, _, _, _, _, _, _, _, _ => none
 | k + 1, x1, x7, x9, x315000, x315001, x315002, x315003, x315004, x315005, x315006, x320000, x320001, x320002, x320003, x320004, x320005, x320006, x320007, x320008, x320009, x320010, x320011, x320012, x320013, x320014, x320015, x320016, x320017, x320018, x320019 => if x9 < 2304 then (if x320008 = 1 then ((seek_Step.f k x315000 x315001 x315002 x315003 x315004 x315005 x315006 x1 x320000 x320001 x320002 x320003 x320004 x320005 x320006 x320007 x320008 x320009 x320010 x320011 x320012 x320013 x320014 x320015 x320016 x320017 x320018 x320019).bind fun bt320 => (lodgerlaw15_SeekNext.l0 k x1 x7 (wrap64 (x9 + 1)) x315000 x315001 x315002 x315003 x315004 x315005 x315006 bt320.1 bt320.2.1 bt320.2.2.1 bt320.2.2.2.1 bt320.2.2.2.2.1 bt320.2.2.2.2.2.1 bt320.2.2.2.2.2.2.1 bt320.2.2.2.2.2.2.2.1 bt320.2.2.2.2.2.2.2.2.1 bt320.2.2.2.2.2.2.2.2.2.1 bt320.2.2.2.2.2.2.2.2.2.2.1 bt320.2.2.2.2.2.2.2.2.2.2.2.1 bt320.2.2.2.2.2.2.2.2.2.2.2.2.1 bt320.2.2.2.2.2.2.2.2.2.2.2.2.2.1 bt320.2.2.2.2.2.2.2.2.2.2.2.2.2.2.1 bt320.2.2.2.2.2.2.2.2.2.2.2.2.2.2.2.1 bt320.2.2.2.2.2.2.2.2.2.2.2.2.2.2.2.2.1 bt320.2.2.2.2.2.2.2.2.2.2.2.2.2.2.2.2.2.1 bt320.2.2.2.2.2.2.2.2.2.2.2.2.2.2.2.2.2.2.1 bt320.2.2.2.2.2.2.2.2.2.2.2.2.2.2.2.2.2.2.2)) else (lodgerlaw15_SeekNext.j2 k x1 x7 x315000 x315001 x315002 x315003 x315004 x315005 x315006 x320000 x320001 x320002 x320003 x320004 x320005 x320006 x320007 x320008 x320009 x320010 x320011 x320012 x320013 x320014 x320015 x320016 x320017 x320018 x320019)) else (lodgerlaw15_SeekNext.j2 k x1 x7 x315000 x315001 x315002 x315003 x315004 x315005 x315006 x320000 x320001 x320002 x320003 x320004 x320005 x320006 x320007 x320008 x320009 x320010 x320011 x320012 x320013 x320014 x320015 x320016 x320017 x320018 x320019)
end
def lodgerlaw15_SeekNext.f (k : Nat) (a0_0 a0_1 : Int) (l0_2 : List Int) (a0_3 a0_4 : Int) (a0_5 a0_6 : Int) (l1 : List Int) (a2 : Int) : Option (Bool) := (lodgerlaw15_awake.f k).bind fun t315 => (if t315 = true then ((lodgerref08_Fits.f k a0_0 a0_1 l0_2 a0_3 a0_4 a0_5 a0_6 l1).bind fun t316 => (lodgerlaw15_SeekNext.j0 k l1 a2 (!t316) a0_0 a0_1 l0_2 a0_3 a0_4 a0_5 a0_6)) else (lodgerlaw15_SeekNext.j0 k l1 a2 true a0_0 a0_1 l0_2 a0_3 a0_4 a0_5 a0_6))
theorem lodgerlaw15_SeekNext.mono_l : ∀ k, (∀ y0 y1 y2 y3 y4 y5 y6 y7 y8 y9, LeO (lodgerlaw15_SeekNext.j0 k y0 y1 y2 y3 y4 y5 y6 y7 y8 y9) (lodgerlaw15_SeekNext.j0 (k + 1) y0 y1 y2 y3 y4 y5 y6 y7 y8 y9)) ∧ (∀ y0 y1 y2 y3 y4 y5 y6 y7 y8 y9 y10 y11 y12 y13 y14 y15 y16 y17 y18 y19 y20 y21 y22 y23 y24 y25 y26 y27 y28, LeO (lodgerlaw15_SeekNext.j2 k y0 y1 y2 y3 y4 y5 y6 y7 y8 y9 y10 y11 y12 y13 y14 y15 y16 y17 y18 y19 y20 y21 y22 y23 y24 y25 y26 y27 y28) (lodgerlaw15_SeekNext.j2 (k + 1) y0 y1 y2 y3 y4 y5 y6 y7 y8 y9 y10 y11 y12 y13 y14 y15 y16 y17 y18 y19 y20 y21 y22 y23 y24 y25 y26 y27 y28)) ∧ (∀ y0 y1 y2 y3 y4 y5 y6 y7 y8 y9 y10 y11 y12 y13 y14 y15 y16 y17 y18 y19 y20 y21 y22 y23 y24 y25 y26 y27 y28 y29, LeO (lodgerlaw15_SeekNext.l1 k y0 y1 y2 y3 y4 y5 y6 y7 y8 y9 y10 y11 y12 y13 y14 y15 y16 y17 y18 y19 y20 y21 y22 y23 y24 y25 y26 y27 y28 y29) (lodgerlaw15_SeekNext.l1 (k + 1) y0 y1 y2 y3 y4 y5 y6 y7 y8 y9 y10 y11 y12 y13 y14 y15 y16 y17 y18 y19 y20 y21 y22 y23 y24 y25 y26 y27 y28 y29)) ∧ (∀ y0 y1 y2 y3 y4 y5 y6 y7 y8 y9 y10 y11 y12 y13 y14 y15 y16 y17 y18 y19 y20 y21 y22 y23 y24 y25 y26 y27 y28 y29 y30, LeO (lodgerlaw15_SeekNext.j4 k y0 y1 y2 y3 y4 y5 y6 y7 y8 y9 y10 y11 y12 y13 y14 y15 y16 y17 y18 y19 y20 y21 y22 y23 y24 y25 y26 y27 y28 y29 y30) (lodgerlaw15_SeekNext.j4 (k + 1) y0 y1 y2 y3 y4 y5 y6 y7 y8 y9 y10 y11 y12 y13 y14 y15 y16 y17 y18 y19 y20 y21 y22 y23 y24 y25 y26 y27 y28 y29 y30)) ∧ (∀ y0 y1 y2 y3 y4 y5 y6 y7 y8 y9 y10 y11 y12 y13 y14 y15 y16 y17 y18 y19 y20 y21 y22 y23 y24 y25 y26 y27 y28 y29, LeO (lodgerlaw15_SeekNext.l0 k y0 y1 y2 y3 y4 y5 y6 y7 y8 y9 y10 y11 y12 y13 y14 y15 y16 y17 y18 y19 y20 y21 y22 y23 y24 y25 y26 y27 y28 y29) (lodgerlaw15_SeekNext.l0 (k + 1) y0 y1 y2 y3 y4 y5 y6 y7 y8 y9 y10 y11 y12 y13 y14 y15 y16 y17 y18 y19 y20 y21 y22 y23 y24 y25 y26 y27 y28 y29))
 | 0 => ⟨fun _ _ _ _ _ _ _ _ _ _ r h => by simp [lodgerlaw15_SeekNext.j0] at h, fun _ _ _ _ _ _ _ _ _ _ _ _ _ _ _ _ _ _ _ _ _ _ _ _ _ _ _ _ _ r h => by simp [lodgerlaw15_SeekNext.j2] at h, fun _ _ _ _ _ _ _ _ _ _ _ _ _ _ _ _ _ _ _ _ _ _ _ _ _ _ _ _ _ _ r h => by simp [lodgerlaw15_SeekNext.l1] at h, fun _ _ _ _ _ _ _ _ _ _ _ _ _ _ _ _ _ _ _ _ _ _ _ _ _ _ _ _ _ _ _ r h => by simp [lodgerlaw15_SeekNext.j4] at h, fun _ _ _ _ _ _ _ _ _ _ _ _ _ _ _ _ _ _ _ _ _ _ _ _ _ _ _ _ _ _ r h => by simp [lodgerlaw15_SeekNext.l0] at h⟩
 | k + 1 => by
  obtain ⟨ih0, ih1, ih2, ih3, ih4⟩ := lodgerlaw15_SeekNext.mono_l k
  refine ⟨?_, ?_, ?_, ?_, ?_⟩
  ·intro y0 y1 y2 y3 y4 y5 y6 y7 y8 y9
   unfold lodgerlaw15_SeekNext.j0
   repeat' (with_reducible first | apply ih0 | apply ih1 | apply ih2 | apply ih3 | apply ih4 | apply lodgerlaw15_awake.mono | apply lodgerref01_Has.mono | apply lodgerref05_Many.mono | apply lodgerref06_Leaves.mono | apply lodgerref06_Root.mono | apply lodgerref06_Top.mono | apply lodgerref08_Fits.mono | apply lodgerref12_Of.mono | apply seek_Step.mono | exact LeO.refl _ | exact LeO.none _ | refine LeO.ite ?_ ?_ | refine LeO.bind ?_ (fun _ => ?_))
  ·intro y0 y1 y2 y3 y4 y5 y6 y7 y8 y9 y10 y11 y12 y13 y14 y15 y16 y17 y18 y19 y20 y21 y22 y23 y24 y25 y26 y27 y28
   unfold lodgerlaw15_SeekNext.j2
   repeat' (with_reducible first | apply ih0 | apply ih1 | apply ih2 | apply ih3 | apply ih4 | apply lodgerlaw15_awake.mono | apply lodgerref01_Has.mono | apply lodgerref05_Many.mono | apply lodgerref06_Leaves.mono | apply lodgerref06_Root.mono | apply lodgerref06_Top.mono | apply lodgerref08_Fits.mono | apply lodgerref12_Of.mono | apply seek_Step.mono | exact LeO.refl _ | exact LeO.none _ | refine LeO.ite ?_ ?_ | refine LeO.bind ?_ (fun _ => ?_))
  ·intro y0 y1 y2 y3 y4 y5 y6 y7 y8 y9 y10 y11 y12 y13 y14 y15 y16 y17 y18 y19 y20 y21 y22 y23 y24 y25 y26 y27 y28 y29
   unfold lodgerlaw15_SeekNext.l1
   repeat' (with_reducible first | apply ih0 | apply ih1 | apply ih2 | apply ih3 | apply ih4 | apply lodgerlaw15_awake.mono | apply lodgerref01_Has.mono | apply lodgerref05_Many.mono | apply lodgerref06_Leaves.mono | apply lodgerref06_Root.mono | apply lodgerref06_Top.mono | apply lodgerref08_Fits.mono | apply lodgerref12_Of.mono | apply seek_Step.mono | exact LeO.refl _ | exact LeO.none _ | refine LeO.ite ?_ ?_ | refine LeO.bind ?_ (fun _ => ?_))
  ·intro y0 y1 y2 y3 y4 y5 y6 y7 y8 y9 y10 y11 y12 y13 y14 y15 y16 y17 y18 y19 y20 y21 y22 y23 y24 y25 y26 y27 y28 y29 y30
   unfold lodgerlaw15_SeekNext.j4
   repeat' (with_reducible first | apply ih0 | apply ih1 | apply ih2 | apply ih3 | apply ih4 | apply lodgerlaw15_awake.mono | apply lodgerref01_Has.mono | apply lodgerref05_Many.mono | apply lodgerref06_Leaves.mono | apply lodgerref06_Root.mono | apply lodgerref06_Top.mono | apply lodgerref08_Fits.mono | apply lodgerref12_Of.mono | apply seek_Step.mono | exact LeO.refl _ | exact LeO.none _ | refine LeO.ite ?_ ?_ | refine LeO.bind ?_ (fun _ => ?_))
  ·intro y0 y1 y2 y3 y4 y5 y6 y7 y8 y9 y10 y11 y12 y13 y14 y15 y16 y17 y18 y19 y20 y21 y22 y23 y24 y25 y26 y27 y28 y29
   unfold lodgerlaw15_SeekNext.l0
   repeat' (with_reducible first | apply ih0 | apply ih1 | apply ih2 | apply ih3 | apply ih4 | apply lodgerlaw15_awake.mono | apply lodgerref01_Has.mono | apply lodgerref05_Many.mono | apply lodgerref06_Leaves.mono | apply lodgerref06_Root.mono | apply lodgerref06_Top.mono | apply lodgerref08_Fits.mono | apply lodgerref12_Of.mono | apply seek_Step.mono | exact LeO.refl _ | exact LeO.none _ | refine LeO.ite ?_ ?_ | refine LeO.bind ?_ (fun _ => ?_))
theorem lodgerlaw15_SeekNext.mono : ∀ a0 a1 a2 a3 a4 a5 a6 a7 a8 k, LeO (lodgerlaw15_SeekNext.f k a0 a1 a2 a3 a4 a5 a6 a7 a8) (lodgerlaw15_SeekNext.f (k + 1) a0 a1 a2 a3 a4 a5 a6 a7 a8) := by
 intro a0 a1 a2 a3 a4 a5 a6 a7 a8 k
 obtain ⟨ih0, ih1, ih2, ih3, ih4⟩ := lodgerlaw15_SeekNext.mono_l k
 unfold lodgerlaw15_SeekNext.f
 repeat' (with_reducible first | apply ih0 | apply ih1 | apply ih2 | apply ih3 | apply ih4 | apply lodgerlaw15_awake.mono | apply lodgerref01_Has.mono | apply lodgerref05_Many.mono | apply lodgerref06_Leaves.mono | apply lodgerref06_Root.mono | apply lodgerref06_Top.mono | apply lodgerref08_Fits.mono | apply lodgerref12_Of.mono | apply seek_Step.mono | exact LeO.refl _ | exact LeO.none _ | refine LeO.ite ?_ ?_ | refine LeO.bind ?_ (fun _ => ?_))
set_option maxHeartbeats 8000000 in
set_option maxRecDepth 100000 in
theorem lodgerlaw15_SeekNext.calls (k : Nat) (aA aB : Int) (bU : Option Addr) (bW : Nat) (aD : List Int) (ae aE : Int) (aF aG : Int) (A1 : Option Addr) (c1 : Nat) (l1 : List Int) (a2 : Int) (r : Bool) (w : World) (hr0_2 : Kd.C (Kd.int .i64) w bU aD.length aD) (hc0_2 : aD.length ≤ bW) (hr1 : Kd.C (Kd.int .u64) w A1 l1.length l1) (hc1 : l1.length ≤ c1) (hr_ : r = true) (h : lodgerlaw15_SeekNext.f k aA aB aD ae aE aF aG l1 a2 = some r) :
  Calls Try.prog 4 #[.agg #[.int .u32 aA, .int .i64 aB, .slice bU aD.length bW, .int .i64 ae, .int .i64 aE, .int .i64 aF, .int .i64 aG], .slice A1 l1.length c1, .int .u8 a2] w fun e w' => e = .returned (.bool r) ∧ Below w.heap.size w w' := by
 have hu27 := Try.underlying27
 have hu24 := Try.underlying24
 have hu41 := Try.underlying41
 have b9 := Aside0.mk hr0_2
 have b8 := Aside0.mk hc0_2
 clear hr0_2 hc0_2
 have b5 := Aside0.mk hr1
 have dK := Aside0.mk hc1
 clear hr1 hc1
 have HB := Aside0.mk (Below.refl w.heap.size w)
 replace hr_ := Aside0.mk hr_
 have H : ((lodgerlaw15_awake.f k).bind fun d8 => (if d8 = true then ((lodgerref08_Fits.f k aA aB aD ae aE aF aG l1).bind fun bQ => (lodgerlaw15_SeekNext.j0 k l1 a2 (!bQ) aA aB aD ae aE aF aG)) else (lodgerlaw15_SeekNext.j0 k l1 a2 true aA aB aD ae aE aF aG))) = some r := h
 clear h
 have ei := Aside0.mk H
 clear H
 go_enter Try.func4, Try.ntmps4
 go_upto_region 1 with (first | ((with_reducible refine gd_ 46 ?_); first | refine ld_ aa hu41 ?_ | refine ldS_ aa hu41 ?_) | ((with_reducible refine gs_ (ty := 41) rfl ?_); first | (refine st7_ aa ab (by first | assumption | (exact Ne.symm (by assumption))) ?_; intro s7_; obtain ⟨s7a, s7b, s7c, s7d, s7e, s7f, s7g, s7h, s7i, s7j, s7k, s7l, s7m, s7n⟩ := cz7_ s7_; clear s7_) | refine st_ aa ?_) | ((with_reducible refine gd_ 3 ?_); refine bx_ (N := 3) (cs := #[.int .u32 aA, .int .i64 aB, .slice bU aD.length bW, .int .i64 ae, .int .i64 aE, .int .i64 aF, .int .i64 aG]) (t := 27) ?_; intro b2 hg w5 ab hb; have ed := gG_ hg HB; have eb := gG_ hg HB; replace HB := hS_ HB hb; clear hb hg))
 repeat (go_quiet (first | ((with_reducible refine gd_ 46 ?_); first | refine ld_ aa hu41 ?_ | refine ldS_ aa hu41 ?_) | ((with_reducible refine gs_ (ty := 41) rfl ?_); first | (refine st7_ aa ab (by first | assumption | (exact Ne.symm (by assumption))) ?_; intro s7_; obtain ⟨s7a, s7b, s7c, s7d, s7e, s7f, s7g, s7h, s7i, s7j, s7k, s7l, s7m, s7n⟩ := cz7_ s7_; clear s7_) | refine st_ aa ?_) | ((with_reducible refine gd_ 3 ?_); refine bx_ (N := 3) (cs := #[.int .u32 aA, .int .i64 aB, .slice bU aD.length bW, .int .i64 ae, .int .i64 aE, .int .i64 aF, .int .i64 aG]) (t := 27) ?_; intro b2 hg w5 ab hb; have ed := gG_ hg HB; have eb := gG_ hg HB; replace HB := hS_ HB hb; clear hb hg)); go_upto_region 1 with (first | ((with_reducible refine gd_ 46 ?_); first | refine ld_ aa hu41 ?_ | refine ldS_ aa hu41 ?_) | ((with_reducible refine gs_ (ty := 41) rfl ?_); first | (refine st7_ aa ab (by first | assumption | (exact Ne.symm (by assumption))) ?_; intro s7_; obtain ⟨s7a, s7b, s7c, s7d, s7e, s7f, s7g, s7h, s7i, s7j, s7k, s7l, s7m, s7n⟩ := cz7_ s7_; clear s7_) | refine st_ aa ?_) | ((with_reducible refine gd_ 3 ?_); refine bx_ (N := 3) (cs := #[.int .u32 aA, .int .i64 aB, .slice bU aD.length bW, .int .i64 ae, .int .i64 aE, .int .i64 aF, .int .i64 aG]) (t := 27) ?_; intro b2 hg w5 ab hb; have ed := gG_ hg HB; have eb := gG_ hg HB; replace HB := hS_ HB hb; clear hb hg)))
 (try simp only [Act.put, List.setIfInBounds_toArray, List.set_cons_zero, List.set_cons_succ, i64_w, i32_w])
 go_cut [24] (fun v24 wc => ∃ (kq : Nat) (cY : Bool), v24 = .bool cY ∧ Aside0 (lodgerlaw15_SeekNext.j0 kq l1 a2 cY aA aB aD ae aE aF aG = some r) ∧ Aside0 (kq ≤ k) ∧ Aside0 (wc.heap[b2]? = some (.cells #[.int .u32 aA, .int .i64 aB, (.slice bU aD.length bW), .int .i64 ae, .int .i64 aE, .int .i64 aF, .int .i64 aG] 27 (0, 0))) ∧ Aside0 (Below w.heap.size w wc))
 case first =>
  have H := ei.out; clear ei; replace H := bi_ H; obtain ⟨d8, A60, H⟩ := H
  replace H : (if d8 = true then ((lodgerref08_Fits.f k aA aB aD ae aE aF aG l1).bind fun bQ => (lodgerlaw15_SeekNext.j0 k l1 a2 (!bQ) aA aB aD ae aE aF aG)) else (lodgerlaw15_SeekNext.j0 k l1 a2 true aA aB aD ae aE aF aG)) = some r := H
  have A6 := Aside0.mk A60; clear A60
  by_cases c7 : d8 = true
  ·subst c7
   have H1 : ((lodgerref08_Fits.f k aA aB aD ae aE aF aG l1).bind fun bQ => (lodgerlaw15_SeekNext.j0 k l1 a2 (!bQ) aA aB aD ae aE aF aG)) = some r := pf_ rfl H
   clear H; have H := H1; clear H1; replace H := bi_ H; obtain ⟨bQ, A80, H⟩ := H
   replace H : (lodgerlaw15_SeekNext.j0 k l1 a2 (!bQ) aA aB aD ae aE aF aG) = some r := H
   have A8 := Aside0.mk A80; clear A80
   have H' := Aside0.mk H
   clear H
   go_wp2_with (first | ((with_reducible refine gd_ 46 ?_); first | refine ld_ aa hu41 ?_ | refine ldS_ aa hu41 ?_) | ((with_reducible refine gs_ (ty := 41) rfl ?_); first | (refine st7_ aa ab (by first | assumption | (exact Ne.symm (by assumption))) ?_; intro s7_; obtain ⟨s7a, s7b, s7c, s7d, s7e, s7f, s7g, s7h, s7i, s7j, s7k, s7l, s7m, s7n⟩ := cz7_ s7_; clear s7_) | refine st_ aa ?_) | (go_at_call 7; (with_reducible refine (lodgerlaw15_awake.calls k  true _ A6.out).mono ?_); rintro e w9 ⟨rfl, hb⟩; replace HB := hS_ HB hb; replace ab := bB_ ab hb; (try clear hb); obtain ⟨ba, bb, bc, bd, be, bf, bg, bj, bk, bl, bm, bn, bo, bp⟩ := cz7_ (w := w9) ab) | (go_at_call 8; (with_reducible refine (lodgerref08_Fits.calls k aA aB _ _ aD ae aE aF aG _ _ l1 bQ _ (cC_ b9 HB) b8.out (cC_ b5 HB) dK.out A8.out).mono ?_); rintro e w11 ⟨rfl, hb⟩; replace HB := hS_ HB hb; replace ab := bB_ ab hb; (try clear hb)))
   repeat (go_quiet (first | ((with_reducible refine gd_ 46 ?_); first | refine ld_ aa hu41 ?_ | refine ldS_ aa hu41 ?_) | ((with_reducible refine gs_ (ty := 41) rfl ?_); first | (refine st7_ aa ab (by first | assumption | (exact Ne.symm (by assumption))) ?_; intro s7_; obtain ⟨s7a, s7b, s7c, s7d, s7e, s7f, s7g, s7h, s7i, s7j, s7k, s7l, s7m, s7n⟩ := cz7_ s7_; clear s7_) | refine st_ aa ?_) | (go_at_call 7; (with_reducible refine (lodgerlaw15_awake.calls k  true _ A6.out).mono ?_); rintro e w9 ⟨rfl, hb⟩; replace HB := hS_ HB hb; replace ab := bB_ ab hb; (try clear hb); obtain ⟨ba, bb, bc, bd, be, bf, bg, bj, bk, bl, bm, bn, bo, bp⟩ := cz7_ (w := w9) ab) | (go_at_call 8; (with_reducible refine (lodgerref08_Fits.calls k aA aB _ _ aD ae aE aF aG _ _ l1 bQ _ (cC_ b9 HB) b8.out (cC_ b5 HB) dK.out A8.out).mono ?_); rintro e w11 ⟨rfl, hb⟩; replace HB := hS_ HB hb; replace ab := bB_ ab hb; (try clear hb))); try go_wp2_with (first | ((with_reducible refine gd_ 46 ?_); first | refine ld_ aa hu41 ?_ | refine ldS_ aa hu41 ?_) | ((with_reducible refine gs_ (ty := 41) rfl ?_); first | (refine st7_ aa ab (by first | assumption | (exact Ne.symm (by assumption))) ?_; intro s7_; obtain ⟨s7a, s7b, s7c, s7d, s7e, s7f, s7g, s7h, s7i, s7j, s7k, s7l, s7m, s7n⟩ := cz7_ s7_; clear s7_) | refine st_ aa ?_) | (go_at_call 7; (with_reducible refine (lodgerlaw15_awake.calls k  true _ A6.out).mono ?_); rintro e w9 ⟨rfl, hb⟩; replace HB := hS_ HB hb; replace ab := bB_ ab hb; (try clear hb); obtain ⟨ba, bb, bc, bd, be, bf, bg, bj, bk, bl, bm, bn, bo, bp⟩ := cz7_ (w := w9) ab) | (go_at_call 8; (with_reducible refine (lodgerref08_Fits.calls k aA aB _ _ aD ae aE aF aG _ _ l1 bQ _ (cC_ b9 HB) b8.out (cC_ b5 HB) dK.out A8.out).mono ?_); rintro e w11 ⟨rfl, hb⟩; replace HB := hS_ HB hb; replace ab := bB_ ab hb; (try clear hb))))
   go_meet
   case rel => exact ⟨_, (!bQ), rs_, H', ⟨by first | omega | exact Nat.le_refl _⟩, ⟨bk_ ab⟩, ⟨hB_ HB⟩⟩
  ·replace c7 := Bool.eq_false_iff.mpr c7
   subst c7
   have H1 : (lodgerlaw15_SeekNext.j0 k l1 a2 true aA aB aD ae aE aF aG) = some r := nf_ H
   clear H; have H := H1; clear H1
   have H' := Aside0.mk H
   clear H
   go_wp2_with (first | ((with_reducible refine gd_ 46 ?_); first | refine ld_ aa hu41 ?_ | refine ldS_ aa hu41 ?_) | ((with_reducible refine gs_ (ty := 41) rfl ?_); first | (refine st7_ aa ab (by first | assumption | (exact Ne.symm (by assumption))) ?_; intro s7_; obtain ⟨s7a, s7b, s7c, s7d, s7e, s7f, s7g, s7h, s7i, s7j, s7k, s7l, s7m, s7n⟩ := cz7_ s7_; clear s7_) | refine st_ aa ?_) | (go_at_call 7; (with_reducible refine (lodgerlaw15_awake.calls k  false _ A6.out).mono ?_); rintro e w12 ⟨rfl, hb⟩; replace HB := hS_ HB hb; replace ab := bB_ ab hb; (try clear hb)))
   repeat (go_quiet (first | ((with_reducible refine gd_ 46 ?_); first | refine ld_ aa hu41 ?_ | refine ldS_ aa hu41 ?_) | ((with_reducible refine gs_ (ty := 41) rfl ?_); first | (refine st7_ aa ab (by first | assumption | (exact Ne.symm (by assumption))) ?_; intro s7_; obtain ⟨s7a, s7b, s7c, s7d, s7e, s7f, s7g, s7h, s7i, s7j, s7k, s7l, s7m, s7n⟩ := cz7_ s7_; clear s7_) | refine st_ aa ?_) | (go_at_call 7; (with_reducible refine (lodgerlaw15_awake.calls k  false _ A6.out).mono ?_); rintro e w12 ⟨rfl, hb⟩; replace HB := hS_ HB hb; replace ab := bB_ ab hb; (try clear hb))); try go_wp2_with (first | ((with_reducible refine gd_ 46 ?_); first | refine ld_ aa hu41 ?_ | refine ldS_ aa hu41 ?_) | ((with_reducible refine gs_ (ty := 41) rfl ?_); first | (refine st7_ aa ab (by first | assumption | (exact Ne.symm (by assumption))) ?_; intro s7_; obtain ⟨s7a, s7b, s7c, s7d, s7e, s7f, s7g, s7h, s7i, s7j, s7k, s7l, s7m, s7n⟩ := cz7_ s7_; clear s7_) | refine st_ aa ?_) | (go_at_call 7; (with_reducible refine (lodgerlaw15_awake.calls k  false _ A6.out).mono ?_); rintro e w12 ⟨rfl, hb⟩; replace HB := hS_ HB hb; replace ab := bB_ ab hb; (try clear hb))))
   go_meet
   case rel => exact ⟨_, (true), rs_, H', ⟨by first | omega | exact Nat.le_refl _⟩, ⟨bk_ ab⟩, ⟨hB_ HB⟩⟩
 case rest =>
  clear ei
  try clear c1
  try clear p2
  try clear c4
  try clear c7
  try clear ba bb bc bd be bf bg
  try clear bj bk bl bm bn bo bp
  obtain ⟨kq, cY, rfl, HA, bS, ab, HB⟩ := hcut
  cases kq with
  | zero => exact absurd HA.out (by simp [lodgerlaw15_SeekNext.j0])
  | succ kj3 =>
   have H := HA.out; clear HA; simp only [lodgerlaw15_SeekNext.j0] at H
   by_cases c13 : cY = true
   ·subst c13
    have H1 : ((lodgerlaw15_awake.f kj3).bind fun cT => (some cT)) = some r := pf_ rfl H
    clear H; have H := H1; clear H1; replace H := bi_ H; obtain ⟨cT, A140, H⟩ := H
    replace H : (some cT) = some r := H
    have A14 := Aside0.mk A140; clear A140
    first | (exfalso; rw [hr_.out] at H; exact absurd (Option.some.inj H) (by decide)) | (try clear hr_)
    all_goals
     obtain rfl := Option.some.inj H
     go_wp2_with (first | ((with_reducible refine gd_ 46 ?_); first | refine ld_ aa hu41 ?_ | refine ldS_ aa hu41 ?_) | ((with_reducible refine gs_ (ty := 41) rfl ?_); first | (refine st7_ aa ab (by first | assumption | (exact Ne.symm (by assumption))) ?_; intro s7_; obtain ⟨s7a, s7b, s7c, s7d, s7e, s7f, s7g, s7h, s7i, s7j, s7k, s7l, s7m, s7n⟩ := cz7_ s7_; clear s7_) | refine st_ aa ?_) | (go_at_call 7; (with_reducible refine (lodgerlaw15_awake.calls kj3  cT _ A14.out).mono ?_); rintro e w15 ⟨rfl, hb⟩; replace HB := hS_ HB hb; replace ab := bB_ ab hb; (try clear hb)))
     repeat (go_quiet (first | ((with_reducible refine gd_ 46 ?_); first | refine ld_ aa hu41 ?_ | refine ldS_ aa hu41 ?_) | ((with_reducible refine gs_ (ty := 41) rfl ?_); first | (refine st7_ aa ab (by first | assumption | (exact Ne.symm (by assumption))) ?_; intro s7_; obtain ⟨s7a, s7b, s7c, s7d, s7e, s7f, s7g, s7h, s7i, s7j, s7k, s7l, s7m, s7n⟩ := cz7_ s7_; clear s7_) | refine st_ aa ?_) | (go_at_call 7; (with_reducible refine (lodgerlaw15_awake.calls kj3  cT _ A14.out).mono ?_); rintro e w15 ⟨rfl, hb⟩; replace HB := hS_ HB hb; replace ab := bB_ ab hb; (try clear hb))); try go_wp2_with (first | ((with_reducible refine gd_ 46 ?_); first | refine ld_ aa hu41 ?_ | refine ldS_ aa hu41 ?_) | ((with_reducible refine gs_ (ty := 41) rfl ?_); first | (refine st7_ aa ab (by first | assumption | (exact Ne.symm (by assumption))) ?_; intro s7_; obtain ⟨s7a, s7b, s7c, s7d, s7e, s7f, s7g, s7h, s7i, s7j, s7k, s7l, s7m, s7n⟩ := cz7_ s7_; clear s7_) | refine st_ aa ?_) | (go_at_call 7; (with_reducible refine (lodgerlaw15_awake.calls kj3  cT _ A14.out).mono ?_); rintro e w15 ⟨rfl, hb⟩; replace HB := hS_ HB hb; replace ab := bB_ ab hb; (try clear hb))))
     go_ret
     exact ⟨er_, hB_ HB⟩
   ·replace c13 := Bool.eq_false_iff.mpr c13
    subst c13
    have H1 : ((lodgerref05_Many.f kj3 aA aB).bind fun aC => (if ae = 0 then (none) else (lodgerlaw15_SeekNext.l0 kj3 l1 aC 0 aA aB aD ae aE aF aG 0 0 0 0 0 false 0 0 1 (Int.tmod (wrap64 (a2)) ae) 0 0 0 0 false 0 0 0 0 0))) = some r := nf_ H
    clear H; have H := H1; clear H1; replace H := bi_ H; obtain ⟨aC, A160, H⟩ := H
    replace H : (if ae = 0 then (none) else (lodgerlaw15_SeekNext.l0 kj3 l1 aC 0 aA aB aD ae aE aF aG 0 0 0 0 0 false 0 0 1 (Int.tmod (wrap64 (a2)) ae) 0 0 0 0 false 0 0 0 0 0)) = some r := H
    have A16 := Aside0.mk A160; clear A160
    by_cases c17 : ae = 0
    ·rw [if_pos c17] at H
     exact absurd H (by simp)
    ·rw [if_neg c17] at H
     have cU : (ae == 0) = false := beq_eq_false_iff_ne.mpr c17
     have cV : (ae != 0) = true := bne_iff_ne.mpr c17
     have d9 := Aside0.mk H; clear H; obtain ⟨ca, cb, cc, cd, ce, cf, cg, ch, ci, cj, ck, cl, cm, cn⟩ := cz7_ (w := wc) ab
     go_upto_block 0 with (first | ((with_reducible refine gd_ 46 ?_); first | refine ld_ aa hu41 ?_ | refine ldS_ aa hu41 ?_) | ((with_reducible refine gs_ (ty := 41) rfl ?_); first | (refine st7_ aa ab (by first | assumption | (exact Ne.symm (by assumption))) ?_; intro s7_; obtain ⟨s7a, s7b, s7c, s7d, s7e, s7f, s7g, s7h, s7i, s7j, s7k, s7l, s7m, s7n⟩ := cz7_ s7_; clear s7_) | refine st_ aa ?_) | (go_at_call 9; (with_reducible refine (lodgerref05_Many.calls kj3 aA aB aC _ A16.out).mono ?_); rintro e w20 ⟨rfl, hb⟩; replace HB := hS_ HB hb; replace ab := bB_ ab hb; (try clear hb); obtain ⟨bt, bu, bv, bw, bx, bz, bA, bD, bE, bF, bG, bH, bI, bJ⟩ := cz7_ (w := w20) ab) | ((with_reducible refine gd_ 8 ?_); refine bx_ (N := 8) (cs := #[.int .i64 0, .int .u32 0, rho_ tb0_ 0, .int .i64 0, .int .u32 0, .bool false, rho_ tb0_ 0, rho_ tb0_ 0, .int .i64 0, .int .i64 0, .int .i64 0, .int .i64 0, .int .i64 0, .int .u64 0, .bool false, rho_ tb0_ 0, .int .i64 0, .int .i64 0, .int .i64 0, .int .i64 0]) (t := 41) ?_; intro bs hg w22 aa hb; have ee := gG_ hg HB; have ec := gG_ hg HB; replace HB := hS_ HB hb; have aI := nL_ hg ab; have aJ := nG_ hg ab; replace ab := bB_ ab hb; clear hb hg; have eg := aJ.out; have eh := aI.out; obtain ⟨bB, bK⟩ := c20_8 (w := w22) aa; obtain ⟨bC, bL⟩ := c20_9 (w := w22) aa; obtain ⟨bh, bq⟩ := c20_10 (w := w22) aa; obtain ⟨bi, br⟩ := c20_11 (w := w22) aa))
     repeat (go_quiet (first | ((with_reducible refine gd_ 46 ?_); first | refine ld_ aa hu41 ?_ | refine ldS_ aa hu41 ?_) | ((with_reducible refine gs_ (ty := 41) rfl ?_); first | (refine st7_ aa ab (by first | assumption | (exact Ne.symm (by assumption))) ?_; intro s7_; obtain ⟨s7a, s7b, s7c, s7d, s7e, s7f, s7g, s7h, s7i, s7j, s7k, s7l, s7m, s7n⟩ := cz7_ s7_; clear s7_) | refine st_ aa ?_) | (go_at_call 9; (with_reducible refine (lodgerref05_Many.calls kj3 aA aB aC _ A16.out).mono ?_); rintro e w20 ⟨rfl, hb⟩; replace HB := hS_ HB hb; replace ab := bB_ ab hb; (try clear hb); obtain ⟨bt, bu, bv, bw, bx, bz, bA, bD, bE, bF, bG, bH, bI, bJ⟩ := cz7_ (w := w20) ab) | ((with_reducible refine gd_ 8 ?_); refine bx_ (N := 8) (cs := #[.int .i64 0, .int .u32 0, rho_ tb0_ 0, .int .i64 0, .int .u32 0, .bool false, rho_ tb0_ 0, rho_ tb0_ 0, .int .i64 0, .int .i64 0, .int .i64 0, .int .i64 0, .int .i64 0, .int .u64 0, .bool false, rho_ tb0_ 0, .int .i64 0, .int .i64 0, .int .i64 0, .int .i64 0]) (t := 41) ?_; intro bs hg w22 aa hb; have ee := gG_ hg HB; have ec := gG_ hg HB; replace HB := hS_ HB hb; have aI := nL_ hg ab; have aJ := nG_ hg ab; replace ab := bB_ ab hb; clear hb hg; have eg := aJ.out; have eh := aI.out; obtain ⟨bB, bK⟩ := c20_8 (w := w22) aa; obtain ⟨bC, bL⟩ := c20_9 (w := w22) aa; obtain ⟨bh, bq⟩ := c20_10 (w := w22) aa; obtain ⟨bi, br⟩ := c20_11 (w := w22) aa)); go_upto_block 0 with (first | ((with_reducible refine gd_ 46 ?_); first | refine ld_ aa hu41 ?_ | refine ldS_ aa hu41 ?_) | ((with_reducible refine gs_ (ty := 41) rfl ?_); first | (refine st7_ aa ab (by first | assumption | (exact Ne.symm (by assumption))) ?_; intro s7_; obtain ⟨s7a, s7b, s7c, s7d, s7e, s7f, s7g, s7h, s7i, s7j, s7k, s7l, s7m, s7n⟩ := cz7_ s7_; clear s7_) | refine st_ aa ?_) | (go_at_call 9; (with_reducible refine (lodgerref05_Many.calls kj3 aA aB aC _ A16.out).mono ?_); rintro e w20 ⟨rfl, hb⟩; replace HB := hS_ HB hb; replace ab := bB_ ab hb; (try clear hb); obtain ⟨bt, bu, bv, bw, bx, bz, bA, bD, bE, bF, bG, bH, bI, bJ⟩ := cz7_ (w := w20) ab) | ((with_reducible refine gd_ 8 ?_); refine bx_ (N := 8) (cs := #[.int .i64 0, .int .u32 0, rho_ tb0_ 0, .int .i64 0, .int .u32 0, .bool false, rho_ tb0_ 0, rho_ tb0_ 0, .int .i64 0, .int .i64 0, .int .i64 0, .int .i64 0, .int .i64 0, .int .u64 0, .bool false, rho_ tb0_ 0, .int .i64 0, .int .i64 0, .int .i64 0, .int .i64 0]) (t := 41) ?_; intro bs hg w22 aa hb; have ee := gG_ hg HB; have ec := gG_ hg HB; replace HB := hS_ HB hb; have aI := nL_ hg ab; have aJ := nG_ hg ab; replace ab := bB_ ab hb; clear hb hg; have eg := aJ.out; have eh := aI.out; obtain ⟨bB, bK⟩ := c20_8 (w := w22) aa; obtain ⟨bC, bL⟩ := c20_9 (w := w22) aa; obtain ⟨bh, bq⟩ := c20_10 (w := w22) aa; obtain ⟨bi, br⟩ := c20_11 (w := w22) aa)))
     (try simp only [Act.put, List.setIfInBounds_toArray, List.set_cons_zero, List.set_cons_succ, i64_w, i32_w])
     go_cut [] (fun wc => ∃ (kq : Nat) (ai aj : Int) (ak al am : Int) (an : Bool) (ao ap : Int) (af ac : Int) (ad ag : Int) (aq ar : Int) (au : Bool) (av aw : Int) (ax ay az : Int), Aside0 (lodgerlaw15_SeekNext.j2 kq l1 aC aA aB aD ae aE aF aG ai aj ak al am an ao ap af ac ad ag aq ar au av aw ax ay az = some r) ∧ Aside0 (kq ≤ kj3) ∧ Aside0 (wc.heap[b2]? = some (.cells #[.int .u32 aA, .int .i64 aB, (.slice bU aD.length bW), .int .i64 ae, .int .i64 aE, .int .i64 aF, .int .i64 aG] 27 (0, 0))) ∧ Aside0 (wc.heap[bs]? = some (.cells #[.int .i64 ai, .int .u32 aj, rho_ tb0_ ak, .int .i64 al, .int .u32 am, .bool an, rho_ tb0_ ao, rho_ tb0_ ap, .int .i64 af, .int .i64 ac, .int .i64 ad, .int .i64 ag, .int .i64 aq, .int .u64 ar, .bool au, rho_ tb0_ av, .int .i64 aw, .int .i64 ax, .int .i64 ay, .int .i64 az] 41 (0, 0))) ∧ Aside0 (Below w.heap.size w wc))
     case first =>
      have H := d9.out; clear d9
      have H' := Aside0.mk H
      clear H
      go_wp2
      repeat (go_quiet (fail); try go_wp2)
      go_loopg [9] kj3 (fun kq v9 w' => ∃ (b7 aL : Int) (aM aN : Int) (aO aP : Int) (aQ : Bool) (aR aS : Int) (aH aT : Int) (aU aV : Int) (aW aX : Int) (aY : Bool) (aZ a0 : Int) (a1 a3 a4 : Int), v9 = .int .i64 b7 ∧ Aside0 (lodgerlaw15_SeekNext.l0 kq l1 aC b7 aA aB aD ae aE aF aG aL aM aN aO aP aQ aR aS aH aT aU aV aW aX aY aZ a0 a1 a3 a4 = some r) ∧ Aside0 (kq ≤ kj3) ∧ Aside0 (w'.heap[b2]? = some (.cells #[.int .u32 aA, .int .i64 aB, (.slice bU aD.length bW), .int .i64 ae, .int .i64 aE, .int .i64 aF, .int .i64 aG] 27 (0, 0))) ∧ Aside0 (w'.heap[bs]? = some (.cells #[.int .i64 aL, .int .u32 aM, rho_ tb0_ aN, .int .i64 aO, .int .u32 aP, .bool aQ, rho_ tb0_ aR, rho_ tb0_ aS, .int .i64 aH, .int .i64 aT, .int .i64 aU, .int .i64 aV, .int .i64 aW, .int .u64 aX, .bool aY, rho_ tb0_ aZ, .int .i64 a0, .int .i64 a1, .int .i64 a3, .int .i64 a4] 41 (0, 0))) ∧ Aside0 (Below w.heap.size w w'))
      case atStart => exact ⟨(0), (0), (0), (0), (0), (0), (false), (0), (0), (1), (Int.tmod (wrap64 (a2)) ae), (0), (0), (0), (0), (false), (0), (0), (0), (0), (0), rs_, H', ⟨Nat.le_refl _⟩, ⟨by refine bp_ ?_; refine bF20_ ?_ aI.out; refine bp_ ?_; exact ab.out⟩, ⟨by refine bp_ ?_; apply bS20_; refine bp_ ?_; exact aa.out⟩, ⟨hB_ HB⟩⟩
      case round =>
       clear H'
       try clear c1
       try clear c2
       try clear p2
       try clear c4
       try clear p6
       try clear c7
       try clear c13
       try clear c17
       try clear cU
       try clear cV
       try clear c23
       try clear ba bb bc bd be bf bg
       try clear ca cb cc cd ce cf cg
       try clear bt bu bv bw bx bz bA
       try clear bh bi bB bC
       try clear bj bk bl bm bn bo bp
       try clear ch ci cj ck cl cm cn
       try clear bD bE bF bG bH bI bJ
       try clear bq br bK bL
       try clear p2
       obtain ⟨b7, aL, aM, aN, aO, aP, aQ, aR, aS, aH, aT, aU, aV, aW, aX, aY, aZ, a0, a1, a3, a4, rfl, HA, HK2, ab, aa, HB⟩ := hrel
       cases gk with
       | zero => exact absurd HA.out (by simp [lodgerlaw15_SeekNext.l0])
       | succ k2 =>
        have H := HA.out; clear HA; simp only [lodgerlaw15_SeekNext.l0] at H
        by_cases c25 : b7 < 2304
        ·rw [if_pos c25] at H
         have bT : decide (b7 < 2304) = true := decide_eq_true c25
         clear c25
         (first | rw [bT] | (simp only [i64_w, i32_w]; rw [bT]) | skip)
         by_cases c26 : aH = 1
         ·rw [if_pos c26] at H
          have cW : (aH == 1) = true := beq_iff_eq.mpr c26
          have cX : (aH != 1) = false := bne_eq_false_iff_eq.mpr c26
          clear c26; replace H := bi_ H; obtain ⟨⟨dp, dq, dr, dt, du, dv, dw, dx, dy, dz, dA, dB, dC, dD, dE, dF, dG, dH, dI, dJ⟩, A270, H⟩ := H
          replace H : (lodgerlaw15_SeekNext.l0 k2 l1 aC (wrap64 (b7 + 1)) aA aB aD ae aE aF aG dp dq dr dt du dv dw dx dy dz dA dB dC dD dE dF dG dH dI dJ) = some r := H
          have A27 := Aside0.mk A270; clear A270
          have H' := Aside0.mk H
          clear H; have fu := aJ.out; have fC := aI.out; obtain ⟨cx, cI⟩ := c20_8 (w := wr) aa; obtain ⟨cy, cJ⟩ := c20_9 (w := wr) aa; obtain ⟨co, ct⟩ := c20_10 (w := wr) aa; obtain ⟨cp, cu⟩ := c20_11 (w := wr) aa; obtain ⟨cz, cA, cB, cC, cD, cE, cF, cK, cL, cM, cN, cO, cP, cQ⟩ := cz7_ (w := wr) ab
          go_wp2_with (first | ((with_reducible refine gd_ 46 ?_); first | refine ld_ aa hu41 ?_ | refine ldS_ aa hu41 ?_) | ((with_reducible refine gs_ (ty := 41) rfl ?_); first | (refine st7_ aa ab (by first | assumption | (exact Ne.symm (by assumption))) ?_; intro s7_; obtain ⟨s7a, s7b, s7c, s7d, s7e, s7f, s7g, s7h, s7i, s7j, s7k, s7l, s7m, s7n⟩ := cz7_ s7_; clear s7_) | refine st_ aa ?_) | (go_at_call 11; (with_reducible refine (seek_Step.calls k2 aA aB _ _ aD ae aE aF aG _ _ l1 aL aM aN aO aP aQ aR aS aH aT aU aV aW aX aY aZ a0 a1 a3 a4 dp dq dr dt du dv dw dx dy dz dA dB dC dD dE dF dG dH dI dJ _ (cC_ b9 HB) b8.out (cC_ b5 HB) dK.out A27.out).mono ?_); rintro e w31 ⟨rfl, hb⟩; replace aa := Aside0.mk (blk_below (g := bs) (o := .cells #[.int .i64 aL, .int .u32 aM, rho_ tb0_ aN, .int .i64 aO, .int .u32 aP, .bool aQ, rho_ tb0_ aR, rho_ tb0_ aS, .int .i64 aH, .int .i64 aT, .int .i64 aU, .int .i64 aV, .int .i64 aW, .int .u64 aX, .bool aY, rho_ tb0_ aZ, .int .i64 a0, .int .i64 a1, .int .i64 a3, .int .i64 a4] 41 (0, 0)) (bk_ aa) hb); replace ab := bB_ ab hb; replace HB := hS_ HB hb; (try clear hb); obtain ⟨bY, b0⟩ := c20_8 (w := w31) aa; obtain ⟨bZ, b1⟩ := c20_9 (w := w31) aa; obtain ⟨bM, bO⟩ := c20_10 (w := w31) aa; obtain ⟨bN, bP⟩ := c20_11 (w := w31) aa))
          repeat (go_quiet (first | ((with_reducible refine gd_ 46 ?_); first | refine ld_ aa hu41 ?_ | refine ldS_ aa hu41 ?_) | ((with_reducible refine gs_ (ty := 41) rfl ?_); first | (refine st7_ aa ab (by first | assumption | (exact Ne.symm (by assumption))) ?_; intro s7_; obtain ⟨s7a, s7b, s7c, s7d, s7e, s7f, s7g, s7h, s7i, s7j, s7k, s7l, s7m, s7n⟩ := cz7_ s7_; clear s7_) | refine st_ aa ?_) | (go_at_call 11; (with_reducible refine (seek_Step.calls k2 aA aB _ _ aD ae aE aF aG _ _ l1 aL aM aN aO aP aQ aR aS aH aT aU aV aW aX aY aZ a0 a1 a3 a4 dp dq dr dt du dv dw dx dy dz dA dB dC dD dE dF dG dH dI dJ _ (cC_ b9 HB) b8.out (cC_ b5 HB) dK.out A27.out).mono ?_); rintro e w31 ⟨rfl, hb⟩; replace aa := Aside0.mk (blk_below (g := bs) (o := .cells #[.int .i64 aL, .int .u32 aM, rho_ tb0_ aN, .int .i64 aO, .int .u32 aP, .bool aQ, rho_ tb0_ aR, rho_ tb0_ aS, .int .i64 aH, .int .i64 aT, .int .i64 aU, .int .i64 aV, .int .i64 aW, .int .u64 aX, .bool aY, rho_ tb0_ aZ, .int .i64 a0, .int .i64 a1, .int .i64 a3, .int .i64 a4] 41 (0, 0)) (bk_ aa) hb); replace ab := bB_ ab hb; replace HB := hS_ HB hb; (try clear hb); obtain ⟨bY, b0⟩ := c20_8 (w := w31) aa; obtain ⟨bZ, b1⟩ := c20_9 (w := w31) aa; obtain ⟨bM, bO⟩ := c20_10 (w := w31) aa; obtain ⟨bN, bP⟩ := c20_11 (w := w31) aa)); try go_wp2_with (first | ((with_reducible refine gd_ 46 ?_); first | refine ld_ aa hu41 ?_ | refine ldS_ aa hu41 ?_) | ((with_reducible refine gs_ (ty := 41) rfl ?_); first | (refine st7_ aa ab (by first | assumption | (exact Ne.symm (by assumption))) ?_; intro s7_; obtain ⟨s7a, s7b, s7c, s7d, s7e, s7f, s7g, s7h, s7i, s7j, s7k, s7l, s7m, s7n⟩ := cz7_ s7_; clear s7_) | refine st_ aa ?_) | (go_at_call 11; (with_reducible refine (seek_Step.calls k2 aA aB _ _ aD ae aE aF aG _ _ l1 aL aM aN aO aP aQ aR aS aH aT aU aV aW aX aY aZ a0 a1 a3 a4 dp dq dr dt du dv dw dx dy dz dA dB dC dD dE dF dG dH dI dJ _ (cC_ b9 HB) b8.out (cC_ b5 HB) dK.out A27.out).mono ?_); rintro e w31 ⟨rfl, hb⟩; replace aa := Aside0.mk (blk_below (g := bs) (o := .cells #[.int .i64 aL, .int .u32 aM, rho_ tb0_ aN, .int .i64 aO, .int .u32 aP, .bool aQ, rho_ tb0_ aR, rho_ tb0_ aS, .int .i64 aH, .int .i64 aT, .int .i64 aU, .int .i64 aV, .int .i64 aW, .int .u64 aX, .bool aY, rho_ tb0_ aZ, .int .i64 a0, .int .i64 a1, .int .i64 a3, .int .i64 a4] 41 (0, 0)) (bk_ aa) hb); replace ab := bB_ ab hb; replace HB := hS_ HB hb; (try clear hb); obtain ⟨bY, b0⟩ := c20_8 (w := w31) aa; obtain ⟨bZ, b1⟩ := c20_9 (w := w31) aa; obtain ⟨bM, bO⟩ := c20_10 (w := w31) aa; obtain ⟨bN, bP⟩ := c20_11 (w := w31) aa)))
          go_roundg k2
          case measure => have := bS.out; have := HK2.out; omega
          case rel => exact ⟨(wrap64 (b7 + 1)), (dp), (dq), (dr), (dt), (du), (dv), (dw), (dx), (dy), (dz), (dA), (dB), (dC), (dD), (dE), (dF), (dG), (dH), (dI), (dJ), rs_, H', ⟨om2_ bS HK2⟩, ⟨by refine bp_ ?_; refine bF20_ ?_ aI.out; refine bp_ ?_; exact ab.out⟩, ⟨by refine bp_ ?_; apply bS20_; refine bp_ ?_; exact aa.out⟩, ⟨hB_ HB⟩⟩
         ·rw [if_neg c26] at H
          have cW : (aH == 1) = false := beq_eq_false_iff_ne.mpr c26
          have cX : (aH != 1) = true := bne_iff_ne.mpr c26
          have H' := Aside0.mk H
          clear H; have fv := aJ.out; have fD := aI.out; obtain ⟨cG, cR⟩ := c20_8 (w := wr) aa; obtain ⟨cH, cS⟩ := c20_9 (w := wr) aa; obtain ⟨cq, cv⟩ := c20_10 (w := wr) aa; obtain ⟨cr, cw⟩ := c20_11 (w := wr) aa
          go_wp2
          repeat (go_quiet (fail); try go_wp2)
          go_meet
          case rel => exact ⟨_, (aL), (aM), (aN), (aO), (aP), (aQ), (aR), (aS), (aH), (aT), (aU), (aV), (aW), (aX), (aY), (aZ), (a0), (a1), (a3), (a4), H', ⟨by have := bS.out; have := HK2.out; first | omega | exact Nat.le_refl _⟩, ⟨bk_ ab⟩, ⟨bk_ aa⟩, ⟨hB_ HB⟩⟩
        ·rw [if_neg c25] at H
         have bT : decide (b7 < 2304) = false := decide_eq_false c25
         clear c25
         (first | rw [bT] | (simp only [i64_w, i32_w]; rw [bT]) | skip)
         have H' := Aside0.mk H
         clear H
         go_wp2
         repeat (go_quiet (fail); try go_wp2)
         go_meet
         case rel => exact ⟨_, (aL), (aM), (aN), (aO), (aP), (aQ), (aR), (aS), (aH), (aT), (aU), (aV), (aW), (aX), (aY), (aZ), (a0), (a1), (a3), (a4), H', ⟨by have := bS.out; have := HK2.out; first | omega | exact Nat.le_refl _⟩, ⟨bk_ ab⟩, ⟨bk_ aa⟩, ⟨hB_ HB⟩⟩
     case rest =>
      clear d9
      try clear c1
      try clear c2
      try clear p2
      try clear c3
      try clear c4
      try clear p6
      try clear c7
      try clear c13
      try clear c17
      try clear cU
      try clear cV
      try clear c23
      try clear c25
      try clear bT
      try clear c26
      try clear cW
      try clear cX
      try clear c28
      try clear c33
      try clear ba bb bc bd be bf bg
      try clear ca cb cc cd ce cf cg
      try clear bt bu bv bw bx bz bA
      try clear bh bi bB bC
      try clear co cp cx cy
      try clear cz cA cB cC cD cE cF
      try clear bM bN bY bZ
      try clear cq cr cG cH
      try clear bj bk bl bm bn bo bp
      try clear ch ci cj ck cl cm cn
      try clear bD bE bF bG bH bI bJ
      try clear bq br bK bL
      try clear ct cu cI cJ
      try clear cK cL cM cN cO cP cQ
      try clear bO bP b0 b1
      try clear cv cw cR cS
      try clear p2
      try clear p6
      obtain ⟨kq, ai, aj, ak, al, am, an, ao, ap, af, ac, ad, ag, aq, ar, au, av, aw, ax, ay, az, HA, bV, ab, aa, HB⟩ := hcut
      cases kq with
      | zero => exact absurd HA.out (by simp [lodgerlaw15_SeekNext.j2])
      | succ kj17 =>
       have H := HA.out; clear HA; simp only [lodgerlaw15_SeekNext.j2] at H
       by_cases c35 : af = 2
       ·rw [if_pos c35] at H
        have d5 : (af == 2) = true := beq_iff_eq.mpr c35
        have d6 : (af != 2) = false := bne_eq_false_iff_eq.mpr c35
        clear c35
        have H' := Aside0.mk H
        clear H; have fw := aJ.out; have fE := aI.out; obtain ⟨dL, dV⟩ := c20_8 (w := wc) aa; obtain ⟨dM, dW⟩ := c20_9 (w := wc) aa; obtain ⟨cZ, de⟩ := c20_10 (w := wc) aa; obtain ⟨c0, df⟩ := c20_11 (w := wc) aa
        go_wp2
        repeat (go_quiet (fail); try go_wp2)
        go_loopg [10] kj17 (fun kq v10 w' => ∃ (ah : Int), v10 = .int .i64 ah ∧ Aside0 (lodgerlaw15_SeekNext.l1 kq l1 aC ah aA aB aD ae aE aF aG ai aj ak al am an ao ap af ac ad ag aq ar au av aw ax ay az = some r) ∧ Aside0 (kq ≤ kj17) ∧ Aside0 (w'.heap[b2]? = some (.cells #[.int .u32 aA, .int .i64 aB, (.slice bU aD.length bW), .int .i64 ae, .int .i64 aE, .int .i64 aF, .int .i64 aG] 27 (0, 0))) ∧ Aside0 (w'.heap[bs]? = some (.cells #[.int .i64 ai, .int .u32 aj, rho_ tb0_ ak, .int .i64 al, .int .u32 am, .bool an, rho_ tb0_ ao, rho_ tb0_ ap, .int .i64 af, .int .i64 ac, .int .i64 ad, .int .i64 ag, .int .i64 aq, .int .u64 ar, .bool au, rho_ tb0_ av, .int .i64 aw, .int .i64 ax, .int .i64 ay, .int .i64 az] 41 (0, 0))) ∧ Aside0 (Below w.heap.size w w'))
        case atStart => exact ⟨(0), rs_, H', ⟨Nat.le_refl _⟩, ⟨bk_ ab⟩, ⟨bk_ aa⟩, ⟨hB_ HB⟩⟩
        case round =>
         clear H'
         try clear c1
         try clear c2
         try clear p2
         try clear c3
         try clear c4
         try clear p6
         try clear c7
         try clear c13
         try clear c17
         try clear cU
         try clear cV
         try clear c23
         try clear c25
         try clear bT
         try clear c26
         try clear cW
         try clear cX
         try clear c28
         try clear c33
         try clear c35
         try clear d5
         try clear d6
         try clear c36
         try clear ba bb bc bd be bf bg
         try clear ca cb cc cd ce cf cg
         try clear bt bu bv bw bx bz bA
         try clear bh bi bB bC
         try clear co cp cx cy
         try clear cz cA cB cC cD cE cF
         try clear bM bN bY bZ
         try clear cq cr cG cH
         try clear cZ c0 dL dM
         try clear bj bk bl bm bn bo bp
         try clear ch ci cj ck cl cm cn
         try clear bD bE bF bG bH bI bJ
         try clear bq br bK bL
         try clear ct cu cI cJ
         try clear cK cL cM cN cO cP cQ
         try clear bO bP b0 b1
         try clear cv cw cR cS
         try clear de df dV dW
         try clear p2
         try clear p6
         obtain ⟨ah, rfl, HA, HK3, ab, aa, HB⟩ := hrel
         cases gk with
         | zero => exact absurd HA.out (by simp [lodgerlaw15_SeekNext.l1])
         | succ k3 =>
          have H := HA.out; clear HA; simp only [lodgerlaw15_SeekNext.l1] at H; replace H := bi_ H; obtain ⟨bX, A380, H⟩ := H
          replace H : (if ah < bX then ((lodgerref06_Top.f k3 aC ah).bind fun bt341 => ((lodgerref06_Root.f k3 aC ah).bind fun bt343 => (if 0 ≤ bt341.1 then (if bt341.1 < (l1.length : Int) then ((lodgerref01_Has.f k3 (rd l1 bt341.1) bt341.2).bind fun b6 => (if b6 = true then (lodgerlaw15_SeekNext.j4 k3 l1 aC ah true aA aB aD ae aE aF aG ai aj ak al am an ao ap af ac ad ag aq ar au av aw ax ay az) else (if 0 ≤ bt343.1 then (if bt343.1 < (l1.length : Int) then ((lodgerref01_Has.f k3 (rd l1 bt343.1) bt343.2).bind fun a8 => (lodgerlaw15_SeekNext.j4 k3 l1 aC ah a8 aA aB aD ae aE aF aG ai aj ak al am an ao ap af ac ad ag aq ar au av aw ax ay az)) else (none)) else (none)))) else (none)) else (none)))) else (some true)) = some r := H
          have A38 := Aside0.mk A380; clear A380
          by_cases c39 : ah < bX
          ·rw [if_pos c39] at H
           have ef : decide (ah < bX) = true := decide_eq_true c39
           clear c39; replace H := bi_ H; obtain ⟨⟨a5, bR⟩, A400, H⟩ := H
           replace H : ((lodgerref06_Root.f k3 aC ah).bind fun bt343 => (if 0 ≤ a5 then (if a5 < (l1.length : Int) then ((lodgerref01_Has.f k3 (rd l1 a5) bR).bind fun b6 => (if b6 = true then (lodgerlaw15_SeekNext.j4 k3 l1 aC ah true aA aB aD ae aE aF aG ai aj ak al am an ao ap af ac ad ag aq ar au av aw ax ay az) else (if 0 ≤ bt343.1 then (if bt343.1 < (l1.length : Int) then ((lodgerref01_Has.f k3 (rd l1 bt343.1) bt343.2).bind fun a8 => (lodgerlaw15_SeekNext.j4 k3 l1 aC ah a8 aA aB aD ae aE aF aG ai aj ak al am an ao ap af ac ad ag aq ar au av aw ax ay az)) else (none)) else (none)))) else (none)) else (none))) = some r := H
           have A40 := Aside0.mk A400; clear A400; replace H := bi_ H; obtain ⟨⟨aK, b3⟩, A410, H⟩ := H
           replace H : (if 0 ≤ a5 then (if a5 < (l1.length : Int) then ((lodgerref01_Has.f k3 (rd l1 a5) bR).bind fun b6 => (if b6 = true then (lodgerlaw15_SeekNext.j4 k3 l1 aC ah true aA aB aD ae aE aF aG ai aj ak al am an ao ap af ac ad ag aq ar au av aw ax ay az) else (if 0 ≤ aK then (if aK < (l1.length : Int) then ((lodgerref01_Has.f k3 (rd l1 aK) b3).bind fun a8 => (lodgerlaw15_SeekNext.j4 k3 l1 aC ah a8 aA aB aD ae aE aF aG ai aj ak al am an ao ap af ac ad ag aq ar au av aw ax ay az)) else (none)) else (none)))) else (none)) else (none)) = some r := H
           have A41 := Aside0.mk A410; clear A410; have ea := Aside0.mk H; clear H
           go_upto_region 16 with (first | ((with_reducible refine gd_ 46 ?_); first | refine ld_ aa hu41 ?_ | refine ldS_ aa hu41 ?_) | ((with_reducible refine gs_ (ty := 41) rfl ?_); first | (refine st7_ aa ab (by first | assumption | (exact Ne.symm (by assumption))) ?_; intro s7_; obtain ⟨s7a, s7b, s7c, s7d, s7e, s7f, s7g, s7h, s7i, s7j, s7k, s7l, s7m, s7n⟩ := cz7_ s7_; clear s7_) | refine st_ aa ?_) | (go_at_call 12; (with_reducible refine (lodgerref06_Leaves.calls k3 aC bX _ A38.out).mono ?_); rintro e w' ⟨rfl, ⟨nd, rfl⟩⟩; (try first | exact ⟨rfl, _, World.drewN_drewN _ _ _⟩ | exact ⟨rfl, _, Eq.trans (World.drewN_drewN _ _ _) (congrArg (World.drewN _) (Nat.add_assoc _ _ _))⟩)) | (go_at_call 13; (with_reducible refine (lodgerref06_Top.calls k3 aC ah a5 bR _ A40.out).mono ?_); rintro e w' ⟨rfl, ⟨nd, rfl⟩⟩; (try first | exact ⟨rfl, _, World.drewN_drewN _ _ _⟩ | exact ⟨rfl, _, Eq.trans (World.drewN_drewN _ _ _) (congrArg (World.drewN _) (Nat.add_assoc _ _ _))⟩)) | (go_at_call 14; (with_reducible refine (lodgerref06_Root.calls k3 aC ah aK b3 _ A41.out).mono ?_); rintro e w' ⟨rfl, ⟨nd, rfl⟩⟩; (try first | exact ⟨rfl, _, World.drewN_drewN _ _ _⟩ | exact ⟨rfl, _, Eq.trans (World.drewN_drewN _ _ _) (congrArg (World.drewN _) (Nat.add_assoc _ _ _))⟩)))
           repeat (go_quiet (first | ((with_reducible refine gd_ 46 ?_); first | refine ld_ aa hu41 ?_ | refine ldS_ aa hu41 ?_) | ((with_reducible refine gs_ (ty := 41) rfl ?_); first | (refine st7_ aa ab (by first | assumption | (exact Ne.symm (by assumption))) ?_; intro s7_; obtain ⟨s7a, s7b, s7c, s7d, s7e, s7f, s7g, s7h, s7i, s7j, s7k, s7l, s7m, s7n⟩ := cz7_ s7_; clear s7_) | refine st_ aa ?_) | (go_at_call 12; (with_reducible refine (lodgerref06_Leaves.calls k3 aC bX _ A38.out).mono ?_); rintro e w' ⟨rfl, ⟨nd, rfl⟩⟩; (try first | exact ⟨rfl, _, World.drewN_drewN _ _ _⟩ | exact ⟨rfl, _, Eq.trans (World.drewN_drewN _ _ _) (congrArg (World.drewN _) (Nat.add_assoc _ _ _))⟩)) | (go_at_call 13; (with_reducible refine (lodgerref06_Top.calls k3 aC ah a5 bR _ A40.out).mono ?_); rintro e w' ⟨rfl, ⟨nd, rfl⟩⟩; (try first | exact ⟨rfl, _, World.drewN_drewN _ _ _⟩ | exact ⟨rfl, _, Eq.trans (World.drewN_drewN _ _ _) (congrArg (World.drewN _) (Nat.add_assoc _ _ _))⟩)) | (go_at_call 14; (with_reducible refine (lodgerref06_Root.calls k3 aC ah aK b3 _ A41.out).mono ?_); rintro e w' ⟨rfl, ⟨nd, rfl⟩⟩; (try first | exact ⟨rfl, _, World.drewN_drewN _ _ _⟩ | exact ⟨rfl, _, Eq.trans (World.drewN_drewN _ _ _) (congrArg (World.drewN _) (Nat.add_assoc _ _ _))⟩))); go_upto_region 16 with (first | ((with_reducible refine gd_ 46 ?_); first | refine ld_ aa hu41 ?_ | refine ldS_ aa hu41 ?_) | ((with_reducible refine gs_ (ty := 41) rfl ?_); first | (refine st7_ aa ab (by first | assumption | (exact Ne.symm (by assumption))) ?_; intro s7_; obtain ⟨s7a, s7b, s7c, s7d, s7e, s7f, s7g, s7h, s7i, s7j, s7k, s7l, s7m, s7n⟩ := cz7_ s7_; clear s7_) | refine st_ aa ?_) | (go_at_call 12; (with_reducible refine (lodgerref06_Leaves.calls k3 aC bX _ A38.out).mono ?_); rintro e w' ⟨rfl, ⟨nd, rfl⟩⟩; (try first | exact ⟨rfl, _, World.drewN_drewN _ _ _⟩ | exact ⟨rfl, _, Eq.trans (World.drewN_drewN _ _ _) (congrArg (World.drewN _) (Nat.add_assoc _ _ _))⟩)) | (go_at_call 13; (with_reducible refine (lodgerref06_Top.calls k3 aC ah a5 bR _ A40.out).mono ?_); rintro e w' ⟨rfl, ⟨nd, rfl⟩⟩; (try first | exact ⟨rfl, _, World.drewN_drewN _ _ _⟩ | exact ⟨rfl, _, Eq.trans (World.drewN_drewN _ _ _) (congrArg (World.drewN _) (Nat.add_assoc _ _ _))⟩)) | (go_at_call 14; (with_reducible refine (lodgerref06_Root.calls k3 aC ah aK b3 _ A41.out).mono ?_); rintro e w' ⟨rfl, ⟨nd, rfl⟩⟩; (try first | exact ⟨rfl, _, World.drewN_drewN _ _ _⟩ | exact ⟨rfl, _, Eq.trans (World.drewN_drewN _ _ _) (congrArg (World.drewN _) (Nat.add_assoc _ _ _))⟩))))
           (try simp only [Act.put, List.setIfInBounds_toArray, List.set_cons_zero, List.set_cons_succ, i64_w, i32_w])
           go_cut [15] (fun v15 wc => ∃ (kq : Nat) (a9 : Bool), v15 = .bool a9 ∧ Aside0 (lodgerlaw15_SeekNext.j4 kq l1 aC ah a9 aA aB aD ae aE aF aG ai aj ak al am an ao ap af ac ad ag aq ar au av aw ax ay az = some r) ∧ Aside0 (kq ≤ k3) ∧ Aside0 (wc.heap[b2]? = some (.cells #[.int .u32 aA, .int .i64 aB, (.slice bU aD.length bW), .int .i64 ae, .int .i64 aE, .int .i64 aF, .int .i64 aG] 27 (0, 0))) ∧ Aside0 (wc.heap[bs]? = some (.cells #[.int .i64 ai, .int .u32 aj, rho_ tb0_ ak, .int .i64 al, .int .u32 am, .bool an, rho_ tb0_ ao, rho_ tb0_ ap, .int .i64 af, .int .i64 ac, .int .i64 ad, .int .i64 ag, .int .i64 aq, .int .u64 ar, .bool au, rho_ tb0_ av, .int .i64 aw, .int .i64 ax, .int .i64 ay, .int .i64 az] 41 (0, 0))) ∧ Aside0 (Below w.heap.size w wc))
           case first =>
            have H := ea.out; clear ea
            by_cases c43 : 0 ≤ a5
            ·rw [if_pos c43] at H
             have d7 : decide (0 ≤ a5) = true := decide_eq_true c43
             clear c43
             (first | rw [d7] | (simp only [i64_w, i32_w]; rw [d7]) | skip)
             by_cases c44 : a5 < (l1.length : Int)
             ·rw [if_pos c44] at H
              have ej : decide (a5 < (l1.length : Int)) = true := decide_eq_true c44
              clear c44; replace H := bi_ H; obtain ⟨b6, A450, H⟩ := H
              replace H : (if b6 = true then (lodgerlaw15_SeekNext.j4 k3 l1 aC ah true aA aB aD ae aE aF aG ai aj ak al am an ao ap af ac ad ag aq ar au av aw ax ay az) else (if 0 ≤ aK then (if aK < (l1.length : Int) then ((lodgerref01_Has.f k3 (rd l1 aK) b3).bind fun a8 => (lodgerlaw15_SeekNext.j4 k3 l1 aC ah a8 aA aB aD ae aE aF aG ai aj ak al am an ao ap af ac ad ag aq ar au av aw ax ay az)) else (none)) else (none))) = some r := H
              have A45 := Aside0.mk A450; clear A450
              by_cases c46 : b6 = true
              ·subst c46
               have H1 : (lodgerlaw15_SeekNext.j4 k3 l1 aC ah true aA aB aD ae aE aF aG ai aj ak al am an ao ap af ac ad ag aq ar au av aw ax ay az) = some r := pf_ rfl H
               clear H; have H := H1; clear H1
               have H' := Aside0.mk H
               clear H
               have p345 : 0 ≤ (a5 : Int) := od_
               have q345 : a5 < (l1.length : Int) := od_
               obtain ⟨ad345, e345, hx345_0⟩ := Kd.at_int b5.out a5 p345 q345
               cases e345
               replace hx345_0 := (HB.out.cell (World.block_lt_of_cell? w _ hx345_0)).trans hx345_0; replace p345 := eq_true p345; replace q345 := eq_true q345
               go_wp2_with (first | ((with_reducible refine gd_ 46 ?_); first | refine ld_ aa hu41 ?_ | refine ldS_ aa hu41 ?_) | ((with_reducible refine gs_ (ty := 41) rfl ?_); first | (refine st7_ aa ab (by first | assumption | (exact Ne.symm (by assumption))) ?_; intro s7_; obtain ⟨s7a, s7b, s7c, s7d, s7e, s7f, s7g, s7h, s7i, s7j, s7k, s7l, s7m, s7n⟩ := cz7_ s7_; clear s7_) | refine st_ aa ?_) | (go_at_call 15; (with_reducible refine (lodgerref01_Has.calls k3 (rd l1 a5) bR true _ A45.out).mono ?_); rintro e w' ⟨rfl, ⟨nd, rfl⟩⟩; (try first | exact ⟨rfl, _, World.drewN_drewN _ _ _⟩ | exact ⟨rfl, _, Eq.trans (World.drewN_drewN _ _ _) (congrArg (World.drewN _) (Nat.add_assoc _ _ _))⟩)))
               repeat (go_quiet (first | ((with_reducible refine gd_ 46 ?_); first | refine ld_ aa hu41 ?_ | refine ldS_ aa hu41 ?_) | ((with_reducible refine gs_ (ty := 41) rfl ?_); first | (refine st7_ aa ab (by first | assumption | (exact Ne.symm (by assumption))) ?_; intro s7_; obtain ⟨s7a, s7b, s7c, s7d, s7e, s7f, s7g, s7h, s7i, s7j, s7k, s7l, s7m, s7n⟩ := cz7_ s7_; clear s7_) | refine st_ aa ?_) | (go_at_call 15; (with_reducible refine (lodgerref01_Has.calls k3 (rd l1 a5) bR true _ A45.out).mono ?_); rintro e w' ⟨rfl, ⟨nd, rfl⟩⟩; (try first | exact ⟨rfl, _, World.drewN_drewN _ _ _⟩ | exact ⟨rfl, _, Eq.trans (World.drewN_drewN _ _ _) (congrArg (World.drewN _) (Nat.add_assoc _ _ _))⟩))); try go_wp2_with (first | ((with_reducible refine gd_ 46 ?_); first | refine ld_ aa hu41 ?_ | refine ldS_ aa hu41 ?_) | ((with_reducible refine gs_ (ty := 41) rfl ?_); first | (refine st7_ aa ab (by first | assumption | (exact Ne.symm (by assumption))) ?_; intro s7_; obtain ⟨s7a, s7b, s7c, s7d, s7e, s7f, s7g, s7h, s7i, s7j, s7k, s7l, s7m, s7n⟩ := cz7_ s7_; clear s7_) | refine st_ aa ?_) | (go_at_call 15; (with_reducible refine (lodgerref01_Has.calls k3 (rd l1 a5) bR true _ A45.out).mono ?_); rintro e w' ⟨rfl, ⟨nd, rfl⟩⟩; (try first | exact ⟨rfl, _, World.drewN_drewN _ _ _⟩ | exact ⟨rfl, _, Eq.trans (World.drewN_drewN _ _ _) (congrArg (World.drewN _) (Nat.add_assoc _ _ _))⟩))))
               go_meet
               case rel => exact ⟨_, (true), rs_, H', ⟨by have := bS.out; have := bV.out; have := HK3.out; first | omega | exact Nat.le_refl _⟩, ⟨bk_ ab⟩, ⟨bk_ aa⟩, ⟨hB_ HB⟩⟩
              ·replace c46 := Bool.eq_false_iff.mpr c46
               subst c46
               have H1 : (if 0 ≤ aK then (if aK < (l1.length : Int) then ((lodgerref01_Has.f k3 (rd l1 aK) b3).bind fun a8 => (lodgerlaw15_SeekNext.j4 k3 l1 aC ah a8 aA aB aD ae aE aF aG ai aj ak al am an ao ap af ac ad ag aq ar au av aw ax ay az)) else (none)) else (none)) = some r := nf_ H
               clear H; have H := H1; clear H1
               by_cases c47 : 0 ≤ aK
               ·rw [if_pos c47] at H
                have ek : decide (0 ≤ aK) = true := decide_eq_true c47
                clear c47
                by_cases c48 : aK < (l1.length : Int)
                ·rw [if_pos c48] at H
                 have el : decide (aK < (l1.length : Int)) = true := decide_eq_true c48
                 clear c48; replace H := bi_ H; obtain ⟨a8, A490, H⟩ := H
                 replace H : (lodgerlaw15_SeekNext.j4 k3 l1 aC ah a8 aA aB aD ae aE aF aG ai aj ak al am an ao ap af ac ad ag aq ar au av aw ax ay az) = some r := H
                 have A49 := Aside0.mk A490; clear A490
                 have H' := Aside0.mk H
                 clear H
                 have p345 : 0 ≤ (a5 : Int) := od_
                 have q345 : a5 < (l1.length : Int) := od_
                 obtain ⟨ad345, e345, hx345_0⟩ := Kd.at_int b5.out a5 p345 q345
                 cases e345
                 replace hx345_0 := (HB.out.cell (World.block_lt_of_cell? w _ hx345_0)).trans hx345_0; replace p345 := eq_true p345; replace q345 := eq_true q345
                 go_wp2_with (first | ((with_reducible refine gd_ 46 ?_); first | refine ld_ aa hu41 ?_ | refine ldS_ aa hu41 ?_) | ((with_reducible refine gs_ (ty := 41) rfl ?_); first | (refine st7_ aa ab (by first | assumption | (exact Ne.symm (by assumption))) ?_; intro s7_; obtain ⟨s7a, s7b, s7c, s7d, s7e, s7f, s7g, s7h, s7i, s7j, s7k, s7l, s7m, s7n⟩ := cz7_ s7_; clear s7_) | refine st_ aa ?_) | (go_at_call 15; (with_reducible refine (lodgerref01_Has.calls k3 (rd l1 a5) bR false _ A45.out).mono ?_); rintro e w' ⟨rfl, ⟨nd, rfl⟩⟩; (try first | exact ⟨rfl, _, World.drewN_drewN _ _ _⟩ | exact ⟨rfl, _, Eq.trans (World.drewN_drewN _ _ _) (congrArg (World.drewN _) (Nat.add_assoc _ _ _))⟩); have p347 : 0 ≤ (aK : Int) := od_; have q347 : aK < (l1.length : Int) := od_; obtain ⟨ad347, e347, hx347_0⟩ := Kd.at_int b5.out aK p347 q347; obtain rfl : ad345 = ad347 := (by injection e347); replace hx347_0 := (HB.out.cell (World.block_lt_of_cell? w _ hx347_0)).trans hx347_0; replace p347 := eq_true p347; replace q347 := eq_true q347) | (go_at_call 15; (with_reducible refine (lodgerref01_Has.calls k3 (rd l1 aK) b3 a8 _ A49.out).mono ?_); rintro e w' ⟨rfl, ⟨nd, rfl⟩⟩; (try first | exact ⟨rfl, _, World.drewN_drewN _ _ _⟩ | exact ⟨rfl, _, Eq.trans (World.drewN_drewN _ _ _) (congrArg (World.drewN _) (Nat.add_assoc _ _ _))⟩)))
                 repeat (go_quiet (first | ((with_reducible refine gd_ 46 ?_); first | refine ld_ aa hu41 ?_ | refine ldS_ aa hu41 ?_) | ((with_reducible refine gs_ (ty := 41) rfl ?_); first | (refine st7_ aa ab (by first | assumption | (exact Ne.symm (by assumption))) ?_; intro s7_; obtain ⟨s7a, s7b, s7c, s7d, s7e, s7f, s7g, s7h, s7i, s7j, s7k, s7l, s7m, s7n⟩ := cz7_ s7_; clear s7_) | refine st_ aa ?_) | (go_at_call 15; (with_reducible refine (lodgerref01_Has.calls k3 (rd l1 a5) bR false _ A45.out).mono ?_); rintro e w' ⟨rfl, ⟨nd, rfl⟩⟩; (try first | exact ⟨rfl, _, World.drewN_drewN _ _ _⟩ | exact ⟨rfl, _, Eq.trans (World.drewN_drewN _ _ _) (congrArg (World.drewN _) (Nat.add_assoc _ _ _))⟩); have p347 : 0 ≤ (aK : Int) := od_; have q347 : aK < (l1.length : Int) := od_; obtain ⟨ad347, e347, hx347_0⟩ := Kd.at_int b5.out aK p347 q347; obtain rfl : ad345 = ad347 := (by injection e347); replace hx347_0 := (HB.out.cell (World.block_lt_of_cell? w _ hx347_0)).trans hx347_0; replace p347 := eq_true p347; replace q347 := eq_true q347) | (go_at_call 15; (with_reducible refine (lodgerref01_Has.calls k3 (rd l1 aK) b3 a8 _ A49.out).mono ?_); rintro e w' ⟨rfl, ⟨nd, rfl⟩⟩; (try first | exact ⟨rfl, _, World.drewN_drewN _ _ _⟩ | exact ⟨rfl, _, Eq.trans (World.drewN_drewN _ _ _) (congrArg (World.drewN _) (Nat.add_assoc _ _ _))⟩))); try go_wp2_with (first | ((with_reducible refine gd_ 46 ?_); first | refine ld_ aa hu41 ?_ | refine ldS_ aa hu41 ?_) | ((with_reducible refine gs_ (ty := 41) rfl ?_); first | (refine st7_ aa ab (by first | assumption | (exact Ne.symm (by assumption))) ?_; intro s7_; obtain ⟨s7a, s7b, s7c, s7d, s7e, s7f, s7g, s7h, s7i, s7j, s7k, s7l, s7m, s7n⟩ := cz7_ s7_; clear s7_) | refine st_ aa ?_) | (go_at_call 15; (with_reducible refine (lodgerref01_Has.calls k3 (rd l1 a5) bR false _ A45.out).mono ?_); rintro e w' ⟨rfl, ⟨nd, rfl⟩⟩; (try first | exact ⟨rfl, _, World.drewN_drewN _ _ _⟩ | exact ⟨rfl, _, Eq.trans (World.drewN_drewN _ _ _) (congrArg (World.drewN _) (Nat.add_assoc _ _ _))⟩); have p347 : 0 ≤ (aK : Int) := od_; have q347 : aK < (l1.length : Int) := od_; obtain ⟨ad347, e347, hx347_0⟩ := Kd.at_int b5.out aK p347 q347; obtain rfl : ad345 = ad347 := (by injection e347); replace hx347_0 := (HB.out.cell (World.block_lt_of_cell? w _ hx347_0)).trans hx347_0; replace p347 := eq_true p347; replace q347 := eq_true q347) | (go_at_call 15; (with_reducible refine (lodgerref01_Has.calls k3 (rd l1 aK) b3 a8 _ A49.out).mono ?_); rintro e w' ⟨rfl, ⟨nd, rfl⟩⟩; (try first | exact ⟨rfl, _, World.drewN_drewN _ _ _⟩ | exact ⟨rfl, _, Eq.trans (World.drewN_drewN _ _ _) (congrArg (World.drewN _) (Nat.add_assoc _ _ _))⟩))))
                 go_meet
                 case rel => exact ⟨_, (a8), rs_, H', ⟨by have := bS.out; have := bV.out; have := HK3.out; first | omega | exact Nat.le_refl _⟩, ⟨bk_ ab⟩, ⟨bk_ aa⟩, ⟨hB_ HB⟩⟩
                ·rw [if_neg c48] at H
                 exact absurd H (by simp)
               ·rw [if_neg c47] at H
                exact absurd H (by simp)
             ·rw [if_neg c44] at H
              exact absurd H (by simp)
            ·rw [if_neg c43] at H
             exact absurd H (by simp)
           case rest =>
            clear ea
            try clear c1
            try clear c2
            try clear p2
            try clear c3
            try clear p3
            try clear q3
            try clear hx3
            try clear c4
            try clear p6
            try clear c7
            try clear c13
            try clear c17
            try clear cU
            try clear cV
            try clear c23
            try clear c25
            try clear bT
            try clear c26
            try clear cW
            try clear cX
            try clear c28
            try clear c33
            try clear p34
            try clear q34
            try clear hx34
            try clear c35
            try clear d5
            try clear d6
            try clear c36
            try clear c39
            try clear ef
            try clear c43
            try clear d7
            try clear c44
            try clear ej
            try clear c46
            try clear c47
            try clear ek
            try clear c48
            try clear el
            try clear ba bb bc bd be bf bg
            try clear ca cb cc cd ce cf cg
            try clear bt bu bv bw bx bz bA
            try clear bh bi bB bC
            try clear co cp cx cy
            try clear cz cA cB cC cD cE cF
            try clear bM bN bY bZ
            try clear cq cr cG cH
            try clear cZ c0 dL dM
            try clear bj bk bl bm bn bo bp
            try clear ch ci cj ck cl cm cn
            try clear bD bE bF bG bH bI bJ
            try clear bq br bK bL
            try clear ct cu cI cJ
            try clear cK cL cM cN cO cP cQ
            try clear bO bP b0 b1
            try clear cv cw cR cS
            try clear de df dV dW
            try clear hx345_0
            try clear hx347_0
            try clear p2
            try clear p345
            try clear p347
            try clear p6
            try clear q345
            try clear q347
            obtain ⟨kq, a9, rfl, HA, b4, ab, aa, HB⟩ := hcut
            cases kq with
            | zero => exact absurd HA.out (by simp [lodgerlaw15_SeekNext.j4])
            | succ kj41 =>
             have H := HA.out; clear HA; simp only [lodgerlaw15_SeekNext.j4] at H; replace H := bi_ H; obtain ⟨a6, A500, H⟩ := H
             replace H : ((lodgerref12_Rest.f (wrap64 ((wrap64 (a6 + ae)) - ac)) ae).bind fun a7 => (if a7 < ad then (if a9 = true then (lodgerlaw15_SeekNext.l1 kj41 l1 aC (wrap64 (ah + 1)) aA aB aD ae aE aF aG ai aj ak al am an ao ap af ac ad ag aq ar au av aw ax ay az) else (some false)) else (if a7 = ad then (if ah < ag then (if a9 = true then (lodgerlaw15_SeekNext.l1 kj41 l1 aC (wrap64 (ah + 1)) aA aB aD ae aE aF aG ai aj ak al am an ao ap af ac ad ag aq ar au av aw ax ay az) else (some false)) else (lodgerlaw15_SeekNext.l1 kj41 l1 aC (wrap64 (ah + 1)) aA aB aD ae aE aF aG ai aj ak al am an ao ap af ac ad ag aq ar au av aw ax ay az)) else (lodgerlaw15_SeekNext.l1 kj41 l1 aC (wrap64 (ah + 1)) aA aB aD ae aE aF aG ai aj ak al am an ao ap af ac ad ag aq ar au av aw ax ay az)))) = some r := H
             have A50 := Aside0.mk A500; clear A500; replace H := bi_ H; obtain ⟨a7, A510, H⟩ := H
             replace H : (if a7 < ad then (if a9 = true then (lodgerlaw15_SeekNext.l1 kj41 l1 aC (wrap64 (ah + 1)) aA aB aD ae aE aF aG ai aj ak al am an ao ap af ac ad ag aq ar au av aw ax ay az) else (some false)) else (if a7 = ad then (if ah < ag then (if a9 = true then (lodgerlaw15_SeekNext.l1 kj41 l1 aC (wrap64 (ah + 1)) aA aB aD ae aE aF aG ai aj ak al am an ao ap af ac ad ag aq ar au av aw ax ay az) else (some false)) else (lodgerlaw15_SeekNext.l1 kj41 l1 aC (wrap64 (ah + 1)) aA aB aD ae aE aF aG ai aj ak al am an ao ap af ac ad ag aq ar au av aw ax ay az)) else (lodgerlaw15_SeekNext.l1 kj41 l1 aC (wrap64 (ah + 1)) aA aB aD ae aE aF aG ai aj ak al am an ao ap af ac ad ag aq ar au av aw ax ay az))) = some r := H
             have A51 := Aside0.mk A510; clear A510
             by_cases c52 : a7 < ad
             ·rw [if_pos c52] at H
              have em : decide (a7 < ad) = true := decide_eq_true c52
              clear c52
              by_cases c53 : a9 = true
              ·subst c53
               have H1 : (lodgerlaw15_SeekNext.l1 kj41 l1 aC (wrap64 (ah + 1)) aA aB aD ae aE aF aG ai aj ak al am an ao ap af ac ad ag aq ar au av aw ax ay az) = some r := pf_ rfl H
               clear H; have H := H1; clear H1
               have H' := Aside0.mk H
               clear H; have fx := aI.out; have fF := aJ.out; obtain ⟨ew, ex, ey, ez, eA, eB, eC, e0, e1, e2, e3, e4, e5, e6⟩ := cz7_ (w := wc) ab
               obtain ⟨dN, dX⟩ := c20_8 (w := wc) aa; obtain ⟨dO, dY⟩ := c20_9 (w := wc) aa; obtain ⟨c5, dg⟩ := c20_10 (w := wc) aa; obtain ⟨c6, dh⟩ := c20_11 (w := wc) aa
               go_wp2_with (first | ((with_reducible refine gd_ 46 ?_); first | refine ld_ aa hu41 ?_ | refine ldS_ aa hu41 ?_) | ((with_reducible refine gs_ (ty := 41) rfl ?_); first | (refine st7_ aa ab (by first | assumption | (exact Ne.symm (by assumption))) ?_; intro s7_; obtain ⟨s7a, s7b, s7c, s7d, s7e, s7f, s7g, s7h, s7i, s7j, s7k, s7l, s7m, s7n⟩ := cz7_ s7_; clear s7_) | refine st_ aa ?_) | (go_at_call 16; (with_reducible refine (lodgerref12_Of.calls kj41 aC ae ah a6 _ A50.out).mono ?_); rintro e w' ⟨rfl, ⟨nd, rfl⟩⟩; (try first | exact ⟨rfl, _, World.drewN_drewN _ _ _⟩ | exact ⟨rfl, _, Eq.trans (World.drewN_drewN _ _ _) (congrArg (World.drewN _) (Nat.add_assoc _ _ _))⟩)) | (go_at_call 17; (with_reducible refine (lodgerref12_Rest.calls (wrap64 ((wrap64 (a6 + ae)) - ac)) ae a7 _ A51.out).mono ?_); rintro e w' ⟨rfl, ⟨nd, rfl⟩⟩; (try first | exact ⟨rfl, _, World.drewN_drewN _ _ _⟩ | exact ⟨rfl, _, Eq.trans (World.drewN_drewN _ _ _) (congrArg (World.drewN _) (Nat.add_assoc _ _ _))⟩)))
               repeat (go_quiet (first | ((with_reducible refine gd_ 46 ?_); first | refine ld_ aa hu41 ?_ | refine ldS_ aa hu41 ?_) | ((with_reducible refine gs_ (ty := 41) rfl ?_); first | (refine st7_ aa ab (by first | assumption | (exact Ne.symm (by assumption))) ?_; intro s7_; obtain ⟨s7a, s7b, s7c, s7d, s7e, s7f, s7g, s7h, s7i, s7j, s7k, s7l, s7m, s7n⟩ := cz7_ s7_; clear s7_) | refine st_ aa ?_) | (go_at_call 16; (with_reducible refine (lodgerref12_Of.calls kj41 aC ae ah a6 _ A50.out).mono ?_); rintro e w' ⟨rfl, ⟨nd, rfl⟩⟩; (try first | exact ⟨rfl, _, World.drewN_drewN _ _ _⟩ | exact ⟨rfl, _, Eq.trans (World.drewN_drewN _ _ _) (congrArg (World.drewN _) (Nat.add_assoc _ _ _))⟩)) | (go_at_call 17; (with_reducible refine (lodgerref12_Rest.calls (wrap64 ((wrap64 (a6 + ae)) - ac)) ae a7 _ A51.out).mono ?_); rintro e w' ⟨rfl, ⟨nd, rfl⟩⟩; (try first | exact ⟨rfl, _, World.drewN_drewN _ _ _⟩ | exact ⟨rfl, _, Eq.trans (World.drewN_drewN _ _ _) (congrArg (World.drewN _) (Nat.add_assoc _ _ _))⟩))); try go_wp2_with (first | ((with_reducible refine gd_ 46 ?_); first | refine ld_ aa hu41 ?_ | refine ldS_ aa hu41 ?_) | ((with_reducible refine gs_ (ty := 41) rfl ?_); first | (refine st7_ aa ab (by first | assumption | (exact Ne.symm (by assumption))) ?_; intro s7_; obtain ⟨s7a, s7b, s7c, s7d, s7e, s7f, s7g, s7h, s7i, s7j, s7k, s7l, s7m, s7n⟩ := cz7_ s7_; clear s7_) | refine st_ aa ?_) | (go_at_call 16; (with_reducible refine (lodgerref12_Of.calls kj41 aC ae ah a6 _ A50.out).mono ?_); rintro e w' ⟨rfl, ⟨nd, rfl⟩⟩; (try first | exact ⟨rfl, _, World.drewN_drewN _ _ _⟩ | exact ⟨rfl, _, Eq.trans (World.drewN_drewN _ _ _) (congrArg (World.drewN _) (Nat.add_assoc _ _ _))⟩)) | (go_at_call 17; (with_reducible refine (lodgerref12_Rest.calls (wrap64 ((wrap64 (a6 + ae)) - ac)) ae a7 _ A51.out).mono ?_); rintro e w' ⟨rfl, ⟨nd, rfl⟩⟩; (try first | exact ⟨rfl, _, World.drewN_drewN _ _ _⟩ | exact ⟨rfl, _, Eq.trans (World.drewN_drewN _ _ _) (congrArg (World.drewN _) (Nat.add_assoc _ _ _))⟩))))
               go_roundg kj41
               case measure => have := bS.out; have := bV.out; have := HK3.out; have := b4.out; omega
               case rel => exact ⟨(wrap64 (ah + 1)), rs_, H', ⟨by have := bS.out; have := bV.out; have := HK3.out; have := b4.out; omega⟩, ⟨bk_ ab⟩, ⟨bk_ aa⟩, ⟨hB_ HB⟩⟩
              ·replace c53 := Bool.eq_false_iff.mpr c53
               subst c53
               have H1 : (some false) = some r := nf_ H
               rw [hr_.out] at H1
               exact absurd (Option.some.inj H1) (by decide)
             ·rw [if_neg c52] at H
              have em : decide (a7 < ad) = false := decide_eq_false c52
              clear c52
              by_cases c60 : a7 = ad
              ·rw [if_pos c60] at H
               have en : (a7 == ad) = true := beq_iff_eq.mpr c60
               have eo : (a7 != ad) = false := bne_eq_false_iff_eq.mpr c60
               clear c60
               by_cases c61 : ah < ag
               ·rw [if_pos c61] at H
                have ep : decide (ah < ag) = true := decide_eq_true c61
                clear c61
                by_cases c62 : a9 = true
                ·subst c62
                 have H1 : (lodgerlaw15_SeekNext.l1 kj41 l1 aC (wrap64 (ah + 1)) aA aB aD ae aE aF aG ai aj ak al am an ao ap af ac ad ag aq ar au av aw ax ay az) = some r := pf_ rfl H
                 clear H; have H := H1; clear H1
                 have H' := Aside0.mk H
                 clear H; have fy := aI.out; have fG := aJ.out; obtain ⟨eD, eE, eF, eG, eH, eI, eJ, e7, e8, e9, fa, fb, fc, fd⟩ := cz7_ (w := wc) ab
                 obtain ⟨dP, dZ⟩ := c20_8 (w := wc) aa; obtain ⟨dQ, d0⟩ := c20_9 (w := wc) aa; obtain ⟨c8, di⟩ := c20_10 (w := wc) aa; obtain ⟨c9, dj⟩ := c20_11 (w := wc) aa
                 go_wp2_with (first | ((with_reducible refine gd_ 46 ?_); first | refine ld_ aa hu41 ?_ | refine ldS_ aa hu41 ?_) | ((with_reducible refine gs_ (ty := 41) rfl ?_); first | (refine st7_ aa ab (by first | assumption | (exact Ne.symm (by assumption))) ?_; intro s7_; obtain ⟨s7a, s7b, s7c, s7d, s7e, s7f, s7g, s7h, s7i, s7j, s7k, s7l, s7m, s7n⟩ := cz7_ s7_; clear s7_) | refine st_ aa ?_) | (go_at_call 16; (with_reducible refine (lodgerref12_Of.calls kj41 aC ae ah a6 _ A50.out).mono ?_); rintro e w' ⟨rfl, ⟨nd, rfl⟩⟩; (try first | exact ⟨rfl, _, World.drewN_drewN _ _ _⟩ | exact ⟨rfl, _, Eq.trans (World.drewN_drewN _ _ _) (congrArg (World.drewN _) (Nat.add_assoc _ _ _))⟩)) | (go_at_call 17; (with_reducible refine (lodgerref12_Rest.calls (wrap64 ((wrap64 (a6 + ae)) - ac)) ae a7 _ A51.out).mono ?_); rintro e w' ⟨rfl, ⟨nd, rfl⟩⟩; (try first | exact ⟨rfl, _, World.drewN_drewN _ _ _⟩ | exact ⟨rfl, _, Eq.trans (World.drewN_drewN _ _ _) (congrArg (World.drewN _) (Nat.add_assoc _ _ _))⟩)))
                 repeat (go_quiet (first | ((with_reducible refine gd_ 46 ?_); first | refine ld_ aa hu41 ?_ | refine ldS_ aa hu41 ?_) | ((with_reducible refine gs_ (ty := 41) rfl ?_); first | (refine st7_ aa ab (by first | assumption | (exact Ne.symm (by assumption))) ?_; intro s7_; obtain ⟨s7a, s7b, s7c, s7d, s7e, s7f, s7g, s7h, s7i, s7j, s7k, s7l, s7m, s7n⟩ := cz7_ s7_; clear s7_) | refine st_ aa ?_) | (go_at_call 16; (with_reducible refine (lodgerref12_Of.calls kj41 aC ae ah a6 _ A50.out).mono ?_); rintro e w' ⟨rfl, ⟨nd, rfl⟩⟩; (try first | exact ⟨rfl, _, World.drewN_drewN _ _ _⟩ | exact ⟨rfl, _, Eq.trans (World.drewN_drewN _ _ _) (congrArg (World.drewN _) (Nat.add_assoc _ _ _))⟩)) | (go_at_call 17; (with_reducible refine (lodgerref12_Rest.calls (wrap64 ((wrap64 (a6 + ae)) - ac)) ae a7 _ A51.out).mono ?_); rintro e w' ⟨rfl, ⟨nd, rfl⟩⟩; (try first | exact ⟨rfl, _, World.drewN_drewN _ _ _⟩ | exact ⟨rfl, _, Eq.trans (World.drewN_drewN _ _ _) (congrArg (World.drewN _) (Nat.add_assoc _ _ _))⟩))); try go_wp2_with (first | ((with_reducible refine gd_ 46 ?_); first | refine ld_ aa hu41 ?_ | refine ldS_ aa hu41 ?_) | ((with_reducible refine gs_ (ty := 41) rfl ?_); first | (refine st7_ aa ab (by first | assumption | (exact Ne.symm (by assumption))) ?_; intro s7_; obtain ⟨s7a, s7b, s7c, s7d, s7e, s7f, s7g, s7h, s7i, s7j, s7k, s7l, s7m, s7n⟩ := cz7_ s7_; clear s7_) | refine st_ aa ?_) | (go_at_call 16; (with_reducible refine (lodgerref12_Of.calls kj41 aC ae ah a6 _ A50.out).mono ?_); rintro e w' ⟨rfl, ⟨nd, rfl⟩⟩; (try first | exact ⟨rfl, _, World.drewN_drewN _ _ _⟩ | exact ⟨rfl, _, Eq.trans (World.drewN_drewN _ _ _) (congrArg (World.drewN _) (Nat.add_assoc _ _ _))⟩)) | (go_at_call 17; (with_reducible refine (lodgerref12_Rest.calls (wrap64 ((wrap64 (a6 + ae)) - ac)) ae a7 _ A51.out).mono ?_); rintro e w' ⟨rfl, ⟨nd, rfl⟩⟩; (try first | exact ⟨rfl, _, World.drewN_drewN _ _ _⟩ | exact ⟨rfl, _, Eq.trans (World.drewN_drewN _ _ _) (congrArg (World.drewN _) (Nat.add_assoc _ _ _))⟩))))
                 go_roundg kj41
                 case measure => have := bS.out; have := bV.out; have := HK3.out; have := b4.out; omega
                 case rel => exact ⟨(wrap64 (ah + 1)), rs_, H', ⟨by have := bS.out; have := bV.out; have := HK3.out; have := b4.out; omega⟩, ⟨bk_ ab⟩, ⟨bk_ aa⟩, ⟨hB_ HB⟩⟩
                ·replace c62 := Bool.eq_false_iff.mpr c62
                 subst c62
                 have H1 : (some false) = some r := nf_ H
                 rw [hr_.out] at H1
                 exact absurd (Option.some.inj H1) (by decide)
               ·rw [if_neg c61] at H
                have ep : decide (ah < ag) = false := decide_eq_false c61
                clear c61
                have H' := Aside0.mk H
                clear H; have fz := aI.out; have fH := aJ.out; obtain ⟨eK, eL, eM, eN, eO, eP, eQ, fe, ff, fg, fh, fi, fj, fk⟩ := cz7_ (w := wc) ab
                obtain ⟨dR, d1⟩ := c20_8 (w := wc) aa; obtain ⟨dS, d2⟩ := c20_9 (w := wc) aa; obtain ⟨da, dk⟩ := c20_10 (w := wc) aa; obtain ⟨db, dl⟩ := c20_11 (w := wc) aa
                go_wp2_with (first | ((with_reducible refine gd_ 46 ?_); first | refine ld_ aa hu41 ?_ | refine ldS_ aa hu41 ?_) | ((with_reducible refine gs_ (ty := 41) rfl ?_); first | (refine st7_ aa ab (by first | assumption | (exact Ne.symm (by assumption))) ?_; intro s7_; obtain ⟨s7a, s7b, s7c, s7d, s7e, s7f, s7g, s7h, s7i, s7j, s7k, s7l, s7m, s7n⟩ := cz7_ s7_; clear s7_) | refine st_ aa ?_) | (go_at_call 16; (with_reducible refine (lodgerref12_Of.calls kj41 aC ae ah a6 _ A50.out).mono ?_); rintro e w' ⟨rfl, ⟨nd, rfl⟩⟩; (try first | exact ⟨rfl, _, World.drewN_drewN _ _ _⟩ | exact ⟨rfl, _, Eq.trans (World.drewN_drewN _ _ _) (congrArg (World.drewN _) (Nat.add_assoc _ _ _))⟩)) | (go_at_call 17; (with_reducible refine (lodgerref12_Rest.calls (wrap64 ((wrap64 (a6 + ae)) - ac)) ae a7 _ A51.out).mono ?_); rintro e w' ⟨rfl, ⟨nd, rfl⟩⟩; (try first | exact ⟨rfl, _, World.drewN_drewN _ _ _⟩ | exact ⟨rfl, _, Eq.trans (World.drewN_drewN _ _ _) (congrArg (World.drewN _) (Nat.add_assoc _ _ _))⟩)))
                repeat (go_quiet (first | ((with_reducible refine gd_ 46 ?_); first | refine ld_ aa hu41 ?_ | refine ldS_ aa hu41 ?_) | ((with_reducible refine gs_ (ty := 41) rfl ?_); first | (refine st7_ aa ab (by first | assumption | (exact Ne.symm (by assumption))) ?_; intro s7_; obtain ⟨s7a, s7b, s7c, s7d, s7e, s7f, s7g, s7h, s7i, s7j, s7k, s7l, s7m, s7n⟩ := cz7_ s7_; clear s7_) | refine st_ aa ?_) | (go_at_call 16; (with_reducible refine (lodgerref12_Of.calls kj41 aC ae ah a6 _ A50.out).mono ?_); rintro e w' ⟨rfl, ⟨nd, rfl⟩⟩; (try first | exact ⟨rfl, _, World.drewN_drewN _ _ _⟩ | exact ⟨rfl, _, Eq.trans (World.drewN_drewN _ _ _) (congrArg (World.drewN _) (Nat.add_assoc _ _ _))⟩)) | (go_at_call 17; (with_reducible refine (lodgerref12_Rest.calls (wrap64 ((wrap64 (a6 + ae)) - ac)) ae a7 _ A51.out).mono ?_); rintro e w' ⟨rfl, ⟨nd, rfl⟩⟩; (try first | exact ⟨rfl, _, World.drewN_drewN _ _ _⟩ | exact ⟨rfl, _, Eq.trans (World.drewN_drewN _ _ _) (congrArg (World.drewN _) (Nat.add_assoc _ _ _))⟩))); try go_wp2_with (first | ((with_reducible refine gd_ 46 ?_); first | refine ld_ aa hu41 ?_ | refine ldS_ aa hu41 ?_) | ((with_reducible refine gs_ (ty := 41) rfl ?_); first | (refine st7_ aa ab (by first | assumption | (exact Ne.symm (by assumption))) ?_; intro s7_; obtain ⟨s7a, s7b, s7c, s7d, s7e, s7f, s7g, s7h, s7i, s7j, s7k, s7l, s7m, s7n⟩ := cz7_ s7_; clear s7_) | refine st_ aa ?_) | (go_at_call 16; (with_reducible refine (lodgerref12_Of.calls kj41 aC ae ah a6 _ A50.out).mono ?_); rintro e w' ⟨rfl, ⟨nd, rfl⟩⟩; (try first | exact ⟨rfl, _, World.drewN_drewN _ _ _⟩ | exact ⟨rfl, _, Eq.trans (World.drewN_drewN _ _ _) (congrArg (World.drewN _) (Nat.add_assoc _ _ _))⟩)) | (go_at_call 17; (with_reducible refine (lodgerref12_Rest.calls (wrap64 ((wrap64 (a6 + ae)) - ac)) ae a7 _ A51.out).mono ?_); rintro e w' ⟨rfl, ⟨nd, rfl⟩⟩; (try first | exact ⟨rfl, _, World.drewN_drewN _ _ _⟩ | exact ⟨rfl, _, Eq.trans (World.drewN_drewN _ _ _) (congrArg (World.drewN _) (Nat.add_assoc _ _ _))⟩))))
                go_roundg kj41
                case measure => have := bS.out; have := bV.out; have := HK3.out; have := b4.out; omega
                case rel => exact ⟨(wrap64 (ah + 1)), rs_, H', ⟨by have := bS.out; have := bV.out; have := HK3.out; have := b4.out; omega⟩, ⟨bk_ ab⟩, ⟨bk_ aa⟩, ⟨hB_ HB⟩⟩
              ·rw [if_neg c60] at H
               have en : (a7 == ad) = false := beq_eq_false_iff_ne.mpr c60
               have eo : (a7 != ad) = true := bne_iff_ne.mpr c60
               have H' := Aside0.mk H
               clear H; have fA := aI.out; have fI := aJ.out; obtain ⟨eR, eS, eT, eU, eV, eW, eX, fl, fm, fn, fo, fp, fq, fr⟩ := cz7_ (w := wc) ab
               obtain ⟨dT, d3⟩ := c20_8 (w := wc) aa; obtain ⟨dU, d4⟩ := c20_9 (w := wc) aa; obtain ⟨dc, dm⟩ := c20_10 (w := wc) aa; obtain ⟨dd, dn⟩ := c20_11 (w := wc) aa
               go_wp2_with (first | ((with_reducible refine gd_ 46 ?_); first | refine ld_ aa hu41 ?_ | refine ldS_ aa hu41 ?_) | ((with_reducible refine gs_ (ty := 41) rfl ?_); first | (refine st7_ aa ab (by first | assumption | (exact Ne.symm (by assumption))) ?_; intro s7_; obtain ⟨s7a, s7b, s7c, s7d, s7e, s7f, s7g, s7h, s7i, s7j, s7k, s7l, s7m, s7n⟩ := cz7_ s7_; clear s7_) | refine st_ aa ?_) | (go_at_call 16; (with_reducible refine (lodgerref12_Of.calls kj41 aC ae ah a6 _ A50.out).mono ?_); rintro e w' ⟨rfl, ⟨nd, rfl⟩⟩; (try first | exact ⟨rfl, _, World.drewN_drewN _ _ _⟩ | exact ⟨rfl, _, Eq.trans (World.drewN_drewN _ _ _) (congrArg (World.drewN _) (Nat.add_assoc _ _ _))⟩)) | (go_at_call 17; (with_reducible refine (lodgerref12_Rest.calls (wrap64 ((wrap64 (a6 + ae)) - ac)) ae a7 _ A51.out).mono ?_); rintro e w' ⟨rfl, ⟨nd, rfl⟩⟩; (try first | exact ⟨rfl, _, World.drewN_drewN _ _ _⟩ | exact ⟨rfl, _, Eq.trans (World.drewN_drewN _ _ _) (congrArg (World.drewN _) (Nat.add_assoc _ _ _))⟩)))
               repeat (go_quiet (first | ((with_reducible refine gd_ 46 ?_); first | refine ld_ aa hu41 ?_ | refine ldS_ aa hu41 ?_) | ((with_reducible refine gs_ (ty := 41) rfl ?_); first | (refine st7_ aa ab (by first | assumption | (exact Ne.symm (by assumption))) ?_; intro s7_; obtain ⟨s7a, s7b, s7c, s7d, s7e, s7f, s7g, s7h, s7i, s7j, s7k, s7l, s7m, s7n⟩ := cz7_ s7_; clear s7_) | refine st_ aa ?_) | (go_at_call 16; (with_reducible refine (lodgerref12_Of.calls kj41 aC ae ah a6 _ A50.out).mono ?_); rintro e w' ⟨rfl, ⟨nd, rfl⟩⟩; (try first | exact ⟨rfl, _, World.drewN_drewN _ _ _⟩ | exact ⟨rfl, _, Eq.trans (World.drewN_drewN _ _ _) (congrArg (World.drewN _) (Nat.add_assoc _ _ _))⟩)) | (go_at_call 17; (with_reducible refine (lodgerref12_Rest.calls (wrap64 ((wrap64 (a6 + ae)) - ac)) ae a7 _ A51.out).mono ?_); rintro e w' ⟨rfl, ⟨nd, rfl⟩⟩; (try first | exact ⟨rfl, _, World.drewN_drewN _ _ _⟩ | exact ⟨rfl, _, Eq.trans (World.drewN_drewN _ _ _) (congrArg (World.drewN _) (Nat.add_assoc _ _ _))⟩))); try go_wp2_with (first | ((with_reducible refine gd_ 46 ?_); first | refine ld_ aa hu41 ?_ | refine ldS_ aa hu41 ?_) | ((with_reducible refine gs_ (ty := 41) rfl ?_); first | (refine st7_ aa ab (by first | assumption | (exact Ne.symm (by assumption))) ?_; intro s7_; obtain ⟨s7a, s7b, s7c, s7d, s7e, s7f, s7g, s7h, s7i, s7j, s7k, s7l, s7m, s7n⟩ := cz7_ s7_; clear s7_) | refine st_ aa ?_) | (go_at_call 16; (with_reducible refine (lodgerref12_Of.calls kj41 aC ae ah a6 _ A50.out).mono ?_); rintro e w' ⟨rfl, ⟨nd, rfl⟩⟩; (try first | exact ⟨rfl, _, World.drewN_drewN _ _ _⟩ | exact ⟨rfl, _, Eq.trans (World.drewN_drewN _ _ _) (congrArg (World.drewN _) (Nat.add_assoc _ _ _))⟩)) | (go_at_call 17; (with_reducible refine (lodgerref12_Rest.calls (wrap64 ((wrap64 (a6 + ae)) - ac)) ae a7 _ A51.out).mono ?_); rintro e w' ⟨rfl, ⟨nd, rfl⟩⟩; (try first | exact ⟨rfl, _, World.drewN_drewN _ _ _⟩ | exact ⟨rfl, _, Eq.trans (World.drewN_drewN _ _ _) (congrArg (World.drewN _) (Nat.add_assoc _ _ _))⟩))))
               go_roundg kj41
               case measure => have := bS.out; have := bV.out; have := HK3.out; have := b4.out; omega
               case rel => exact ⟨(wrap64 (ah + 1)), rs_, H', ⟨by have := bS.out; have := bV.out; have := HK3.out; have := b4.out; omega⟩, ⟨bk_ ab⟩, ⟨bk_ aa⟩, ⟨hB_ HB⟩⟩
          ·rw [if_neg c39] at H
           have ef : decide (ah < bX) = false := decide_eq_false c39
           clear c39
           first | (exfalso; rw [hr_.out] at H; exact absurd (Option.some.inj H) (by decide)) | (try clear hr_)
           all_goals
            obtain rfl := Option.some.inj H
            go_wp2_with (first | ((with_reducible refine gd_ 46 ?_); first | refine ld_ aa hu41 ?_ | refine ldS_ aa hu41 ?_) | ((with_reducible refine gs_ (ty := 41) rfl ?_); first | (refine st7_ aa ab (by first | assumption | (exact Ne.symm (by assumption))) ?_; intro s7_; obtain ⟨s7a, s7b, s7c, s7d, s7e, s7f, s7g, s7h, s7i, s7j, s7k, s7l, s7m, s7n⟩ := cz7_ s7_; clear s7_) | refine st_ aa ?_) | (go_at_call 12; (with_reducible refine (lodgerref06_Leaves.calls k3 aC bX _ A38.out).mono ?_); rintro e w' ⟨rfl, ⟨nd, rfl⟩⟩; (try first | exact ⟨rfl, _, World.drewN_drewN _ _ _⟩ | exact ⟨rfl, _, Eq.trans (World.drewN_drewN _ _ _) (congrArg (World.drewN _) (Nat.add_assoc _ _ _))⟩)))
            repeat (go_quiet (first | ((with_reducible refine gd_ 46 ?_); first | refine ld_ aa hu41 ?_ | refine ldS_ aa hu41 ?_) | ((with_reducible refine gs_ (ty := 41) rfl ?_); first | (refine st7_ aa ab (by first | assumption | (exact Ne.symm (by assumption))) ?_; intro s7_; obtain ⟨s7a, s7b, s7c, s7d, s7e, s7f, s7g, s7h, s7i, s7j, s7k, s7l, s7m, s7n⟩ := cz7_ s7_; clear s7_) | refine st_ aa ?_) | (go_at_call 12; (with_reducible refine (lodgerref06_Leaves.calls k3 aC bX _ A38.out).mono ?_); rintro e w' ⟨rfl, ⟨nd, rfl⟩⟩; (try first | exact ⟨rfl, _, World.drewN_drewN _ _ _⟩ | exact ⟨rfl, _, Eq.trans (World.drewN_drewN _ _ _) (congrArg (World.drewN _) (Nat.add_assoc _ _ _))⟩))); try go_wp2_with (first | ((with_reducible refine gd_ 46 ?_); first | refine ld_ aa hu41 ?_ | refine ldS_ aa hu41 ?_) | ((with_reducible refine gs_ (ty := 41) rfl ?_); first | (refine st7_ aa ab (by first | assumption | (exact Ne.symm (by assumption))) ?_; intro s7_; obtain ⟨s7a, s7b, s7c, s7d, s7e, s7f, s7g, s7h, s7i, s7j, s7k, s7l, s7m, s7n⟩ := cz7_ s7_; clear s7_) | refine st_ aa ?_) | (go_at_call 12; (with_reducible refine (lodgerref06_Leaves.calls k3 aC bX _ A38.out).mono ?_); rintro e w' ⟨rfl, ⟨nd, rfl⟩⟩; (try first | exact ⟨rfl, _, World.drewN_drewN _ _ _⟩ | exact ⟨rfl, _, Eq.trans (World.drewN_drewN _ _ _) (congrArg (World.drewN _) (Nat.add_assoc _ _ _))⟩))))
            go_ret
            exact ⟨er_, hB_ HB⟩
       ·rw [if_neg c35] at H
        have d5 : (af == 2) = false := beq_eq_false_iff_ne.mpr c35
        have d6 : (af != 2) = true := bne_iff_ne.mpr c35
        first | (exfalso; rw [hr_.out] at H; exact absurd (Option.some.inj H) (by decide)) | (try clear hr_)
        all_goals
         obtain rfl := Option.some.inj H
         have fB := aJ.out; have fJ := aI.out; obtain ⟨eY, fs⟩ := c20_8 (w := wc) aa; obtain ⟨eZ, ft⟩ := c20_9 (w := wc) aa; obtain ⟨er, eu⟩ := c20_10 (w := wc) aa; obtain ⟨et, ev⟩ := c20_11 (w := wc) aa
         go_wp2
         repeat (go_quiet (fail); try go_wp2)
         go_ret
         exact ⟨er_, hB_ HB⟩

/-- THE ONE PURE STATEMENT of lodgerlaw15_SeekNext: yours. -/
def lodgerlaw15_SeekNext.Pure : Prop := ∀ (a0_0 a0_1 : Int) (l0_2 : List Int) (a0_3 a0_4 : Int) (a0_5 a0_6 : Int) (l1 : List Int) (a2 : Int), (Lit.int .u32 a0_0).wf = true → (Lit.int .i64 a0_1).wf = true → l0_2.length ≤ maxLen → (∀ x ∈ l0_2, (Lit.int .i64 x).wf = true) → (Lit.int .i64 a0_3).wf = true → (Lit.int .i64 a0_4).wf = true → (Lit.int .i64 a0_5).wf = true → (Lit.int .i64 a0_6).wf = true → l1.length ≤ maxLen → l1.length * 8 ≤ 140737488351232 → (∀ x ∈ l1, (Lit.int .u64 x).wf = true) → (Lit.int .u8 a2).wf = true → ∃ k, lodgerlaw15_SeekNext.f k a0_0 a0_1 l0_2 a0_3 a0_4 a0_5 a0_6 l1 a2 = some true
theorem lodgerlaw15_SeekNext.walk (P : lodgerlaw15_SeekNext.Pure) (a0_0 a0_1 : Int) (a0_2 : Option Addr) (len0_2 cap0_2 : Nat) (z0_2 : List Int) (a0_3 a0_4 : Int) (a0_5 a0_6 : Int) (a1 : Option Addr) (len1 cap1 : Nat) (z1 : List Int) (a2 : Int) (w : World) (w0_0 : (Lit.int .u32 a0_0).wf = true) (w0_1 : (Lit.int .i64 a0_1).wf = true) (w0_2 : (a0_2 = none ∧ len0_2 = 0 ∧ cap0_2 = 0 ∧ z0_2 = []) ∨ ∃ x, a0_2 = some x ∧ len0_2 ≤ cap0_2 ∧ cap0_2 ≤ maxLen ∧ z0_2.length = cap0_2 ∧ (∀ i, i < z0_2.length → w.cell? (x.add i) = some (.int .i64 (z0_2.getD i 0))) ∧ ∀ n ∈ z0_2, (Lit.int .i64 n).wf = true) (w0_3 : (Lit.int .i64 a0_3).wf = true) (w0_4 : (Lit.int .i64 a0_4).wf = true) (w0_5 : (Lit.int .i64 a0_5).wf = true) (w0_6 : (Lit.int .i64 a0_6).wf = true) (w1 : (a1 = none ∧ len1 = 0 ∧ cap1 = 0 ∧ z1 = []) ∨ ∃ x, a1 = some x ∧ len1 ≤ cap1 ∧ cap1 ≤ maxLen ∧ z1.length = cap1 ∧ (∀ i, i < z1.length → w.cell? (x.add i) = some (.int .u64 (z1.getD i 0))) ∧ ∀ n ∈ z1, (Lit.int .u64 n).wf = true) (y1 : len1 * 8 ≤ 140737488351232) (w2 : (Lit.int .u8 a2).wf = true) :
  Calls Try.prog 4 #[.agg #[.int .u32 a0_0, .int .i64 a0_1, .slice a0_2 len0_2 cap0_2, .int .i64 a0_3, .int .i64 a0_4, .int .i64 a0_5, .int .i64 a0_6], .slice a1 len1 cap1, .int .u8 a2] w fun e w' => e = .returned (.bool true) ∧ Below w.heap.size w w' := by
 obtain ⟨l0_2, rfl, hr0_2, hm0_2, hw0_2, hc0_2⟩ := ReadsInt.ofRowC w0_2
 obtain ⟨l1, rfl, hr1, hm1, hw1, hc1⟩ := ReadsInt.ofRowC w1
 obtain ⟨k, h⟩ := P a0_0 a0_1 l0_2 a0_3 a0_4 a0_5 a0_6 l1 a2 w0_0 w0_1 hm0_2 hw0_2 w0_3 w0_4 w0_5 w0_6 hm1 y1 hw1 w2
 refine (lodgerlaw15_SeekNext.calls k a0_0 a0_1 _ _ l0_2 a0_3 a0_4 a0_5 a0_6 _ _ l1 a2 true w (Kd.C_of_reads (d := (0 : Int)) (h1 := fun _ => rfl) hr0_2) hc0_2 (Kd.C_of_reads (d := (0 : Int)) (h1 := fun _ => rfl) hr1) hc1 rfl h).mono ?_
 rintro e w' ⟨rfl, hd⟩
 exact ⟨rfl, hd⟩

end Go.Proofs.Ytfhjeneegfmngaa.PSeekNext
