/- The walk of SeekFull, part of it: what the Go functions answer; no condition. -/
import Derived.Test.YtfhjeneegfmngaaQSeekFullx0
import Derived.Test.YtfhjeneegfmngaaQSeekFullx2
import Derived.Test.YtfhjeneegfmngaaQSeekFullx3
import Derived.Test.YtfhjeneegfmngaaQSeekFullx5
namespace Go.Proofs.Ytfhjeneegfmngaa.PSeekFull
open Go.RowKit Go.Proofs.YtfhjeneegfmngaaW.PrintWords Go.Proofs.YtfhjeneegfmngaaW.PrintLast Go.Proofs.YtfhjeneegfmngaaW.PrintMore
attribute [local go_sem] max2_int min2_int max_two min_two max_three min_three max_four min_four   -- for this text's walks alone
set_option linter.unusedVariables false
set_option linter.unusedSimpArgs false

variable {tb_ : Int → Option Addr × Nat × Nat}

/-! ### lodgerlaw15_SeekFull: function 6 -/
mutual
def lodgerlaw15_SeekFull.j0 : Nat → List Int → Int → Bool → Int → Int → List Int → Int → Int → Int → Int → Option (Bool)
 | 0, _, _, _, _, _, _, _, _, _, _ => none
 | k + 1, x1, x2, x24, x316000, x316001, x316002, x316003, x316004, x316005, x316006 => if x24 = true then ((lodgerlaw15_awake.f k).bind fun t318 => (some t318)) else ((lodgerref05_Many.f k x316000 x316001).bind fun t319 => ((lodgerref02_Set.f k x1 (wrap64 ((x1.length : Int) - 1)) 18446744073709551615).bind fun t320 => (if x316003 = 0 then (none) else (lodgerlaw15_SeekFull.l0 k x1 t319 t320 0 x316000 x316001 x316002 x316003 x316004 x316005 x316006 0 0 0 0 0 false 0 0 1 (Int.tmod (wrap64 (x2)) x316003) 0 0 0 0 false 0 0 0 0 0 0 0 0 0 0 false 0 0 1 (Int.tmod (wrap64 (x2)) x316003) 0 0 0 0 false 0 0 0 0 0))))
def lodgerlaw15_SeekFull.l0 : Nat → List Int → Int → List Int → Int → Int → Int → List Int → Int → Int → Int → Int → Int → Int → Int → Int → Int → Bool → Int → Int → Int → Int → Int → Int → Int → Int → Bool → Int → Int → Int → Int → Int → Int → Int → Int → Int → Int → Bool → Int → Int → Int → Int → Int → Int → Int → Int → Bool → Int → Int → Int → Int → Int → Option (Bool)
 | 0, _, _, _, _, _, _, _, _, _, _, _, _, _, _, _, _, _, _, _, _, _, _, _, _, _, _, _, _, _, _, _, _, _, _, _, _, _, _, _, _, _, _, _, _, _, _, _, _, _, _, _ => none
 | k + 1, x1, x7, x8, x11, x316000, x316001, x316002, x316003, x316004, x316005, x316006, x324000, x324001, x324002, x324003, x324004, x324005, x324006, x324007, x324008, x324009, x324010, x324011, x324012, x324013, x324014, x324015, x324016, x324017, x324018, x324019, x325000, x325001, x325002, x325003, x325004, x325005, x325006, x325007, x325008, x325009, x325010, x325011, x325012, x325013, x325014, x325015, x325016, x325017, x325018, x325019 => if x11 < x316003 then (if x324008 = 1 then ((seek_Step.f k x316000 x316001 x316002 x316003 x316004 x316005 x316006 x8 x324000 x324001 x324002 x324003 x324004 x324005 x324006 x324007 x324008 x324009 x324010 x324011 x324012 x324013 x324014 x324015 x324016 x324017 x324018 x324019).bind fun bt325 => (lodgerlaw15_SeekFull.l0 k x1 x7 x8 (wrap64 (x11 + 1)) x316000 x316001 x316002 x316003 x316004 x316005 x316006 bt325.1 bt325.2.1 bt325.2.2.1 bt325.2.2.2.1 bt325.2.2.2.2.1 bt325.2.2.2.2.2.1 bt325.2.2.2.2.2.2.1 bt325.2.2.2.2.2.2.2.1 bt325.2.2.2.2.2.2.2.2.1 bt325.2.2.2.2.2.2.2.2.2.1 bt325.2.2.2.2.2.2.2.2.2.2.1 bt325.2.2.2.2.2.2.2.2.2.2.2.1 bt325.2.2.2.2.2.2.2.2.2.2.2.2.1 bt325.2.2.2.2.2.2.2.2.2.2.2.2.2.1 bt325.2.2.2.2.2.2.2.2.2.2.2.2.2.2.1 bt325.2.2.2.2.2.2.2.2.2.2.2.2.2.2.2.1 bt325.2.2.2.2.2.2.2.2.2.2.2.2.2.2.2.2.1 bt325.2.2.2.2.2.2.2.2.2.2.2.2.2.2.2.2.2.1 bt325.2.2.2.2.2.2.2.2.2.2.2.2.2.2.2.2.2.2.1 bt325.2.2.2.2.2.2.2.2.2.2.2.2.2.2.2.2.2.2.2 x325000 x325001 x325002 x325003 x325004 x325005 x325006 x325007 x325008 x325009 x325010 x325011 x325012 x325013 x325014 x325015 x325016 x325017 x325018 x325019)) else (some false)) else (if x324008 = 6 then (lodgerlaw15_SeekFull.j2 k x1 x7 (x324010 != x316003) x316000 x316001 x316002 x316003 x316004 x316005 x316006 x325000 x325001 x325002 x325003 x325004 x325005 x325006 x325007 x325008 x325009 x325010 x325011 x325012 x325013 x325014 x325015 x325016 x325017 x325018 x325019) else (lodgerlaw15_SeekFull.j2 k x1 x7 true x316000 x316001 x316002 x316003 x316004 x316005 x316006 x325000 x325001 x325002 x325003 x325004 x325005 x325006 x325007 x325008 x325009 x325010 x325011 x325012 x325013 x325014 x325015 x325016 x325017 x325018 x325019))
def lodgerlaw15_SeekFull.j2 : Nat → List Int → Int → Bool → Int → Int → List Int → Int → Int → Int → Int → Int → Int → Int → Int → Int → Bool → Int → Int → Int → Int → Int → Int → Int → Int → Bool → Int → Int → Int → Int → Int → Option (Bool)
 | 0, _, _, _, _, _, _, _, _, _, _, _, _, _, _, _, _, _, _, _, _, _, _, _, _, _, _, _, _, _, _ => none
 | k + 1, x1, x7, x63, x316000, x316001, x316002, x316003, x316004, x316005, x316006, x325000, x325001, x325002, x325003, x325004, x325005, x325006, x325007, x325008, x325009, x325010, x325011, x325012, x325013, x325014, x325015, x325016, x325017, x325018, x325019 => if x63 = true then (some false) else ((some (([] : List Int) : List Int)).bind fun y345 => (if y345.length + x1.length < 17592186044416 then ((lodgerref06_Leaves.f k x7).bind fun t351 => (lodgerlaw15_SeekFull.l1 k x7 (y345 ++ x1) t351 x316000 x316001 x316002 x316003 x316004 x316005 x316006 x325000 x325001 x325002 x325003 x325004 x325005 x325006 x325007 x325008 x325009 x325010 x325011 x325012 x325013 x325014 x325015 x325016 x325017 x325018 x325019)) else (none)))
def lodgerlaw15_SeekFull.l1 : Nat → Int → List Int → Int → Int → Int → List Int → Int → Int → Int → Int → Int → Int → Int → Int → Int → Bool → Int → Int → Int → Int → Int → Int → Int → Int → Bool → Int → Int → Int → Int → Int → Option (Bool)
 | 0, _, _, _, _, _, _, _, _, _, _, _, _, _, _, _, _, _, _, _, _, _, _, _, _, _, _, _, _, _, _ => none
 | k + 1, x7, x12, x13, x316000, x316001, x316002, x316003, x316004, x316005, x316006, x325000, x325001, x325002, x325003, x325004, x325005, x325006, x325007, x325008, x325009, x325010, x325011, x325012, x325013, x325014, x325015, x325016, x325017, x325018, x325019 => if x13 < (x12.length : Int) then (if 0 ≤ x13 then (lodgerlaw15_SeekFull.l1 k x7 (x12.set (x13 : Int).toNat 0) (wrap64 (x13 + 1)) x316000 x316001 x316002 x316003 x316004 x316005 x316006 x325000 x325001 x325002 x325003 x325004 x325005 x325006 x325007 x325008 x325009 x325010 x325011 x325012 x325013 x325014 x325015 x325016 x325017 x325018 x325019) else (none)) else (lodgerlaw15_SeekFull.l2 k x7 x12 0 x316000 x316001 x316002 x316003 x316004 x316005 x316006 x325000 x325001 x325002 x325003 x325004 x325005 x325006 x325007 x325008 x325009 x325010 x325011 x325012 x325013 x325014 x325015 x325016 x325017 x325018 x325019)
def lodgerlaw15_SeekFull.l2 : Nat → Int → List Int → Int → Int → Int → List Int → Int → Int → Int → Int → Int → Int → Int → Int → Int → Bool → Int → Int → Int → Int → Int → Int → Int → Int → Bool → Int → Int → Int → Int → Int → Option (Bool)
 | 0, _, _, _, _, _, _, _, _, _, _, _, _, _, _, _, _, _, _, _, _, _, _, _, _, _, _, _, _, _, _ => none
 | k + 1, x7, x12, x14, x316000, x316001, x316002, x316003, x316004, x316005, x316006, x325000, x325001, x325002, x325003, x325004, x325005, x325006, x325007, x325008, x325009, x325010, x325011, x325012, x325013, x325014, x325015, x325016, x325017, x325018, x325019 => if x14 < (wrap64 ((wrap64 (2 * x316003)) + 2)) then (if x325008 = 1 then ((seek_Step.f k x316000 x316001 x316002 x316003 x316004 x316005 x316006 x12 x325000 x325001 x325002 x325003 x325004 x325005 x325006 x325007 x325008 x325009 x325010 x325011 x325012 x325013 x325014 x325015 x325016 x325017 x325018 x325019).bind fun bt353 => (lodgerlaw15_SeekFull.l2 k x7 x12 (wrap64 (x14 + 1)) x316000 x316001 x316002 x316003 x316004 x316005 x316006 bt353.1 bt353.2.1 bt353.2.2.1 bt353.2.2.2.1 bt353.2.2.2.2.1 bt353.2.2.2.2.2.1 bt353.2.2.2.2.2.2.1 bt353.2.2.2.2.2.2.2.1 bt353.2.2.2.2.2.2.2.2.1 bt353.2.2.2.2.2.2.2.2.2.1 bt353.2.2.2.2.2.2.2.2.2.2.1 bt353.2.2.2.2.2.2.2.2.2.2.2.1 bt353.2.2.2.2.2.2.2.2.2.2.2.2.1 bt353.2.2.2.2.2.2.2.2.2.2.2.2.2.1 bt353.2.2.2.2.2.2.2.2.2.2.2.2.2.2.1 bt353.2.2.2.2.2.2.2.2.2.2.2.2.2.2.2.1 bt353.2.2.2.2.2.2.2.2.2.2.2.2.2.2.2.2.1 bt353.2.2.2.2.2.2.2.2.2.2.2.2.2.2.2.2.2.1 bt353.2.2.2.2.2.2.2.2.2.2.2.2.2.2.2.2.2.2.1 bt353.2.2.2.2.2.2.2.2.2.2.2.2.2.2.2.2.2.2.2)) else ((lodgerref12_Rest.f (wrap64 (x325009 + x325010)) x316003).bind fun t373 => ((lodgerref12_Range.f k x7 x316003 t373).bind fun bt374 => (if x325008 = 2 then (if x325011 = bt374.1 then (some (decide (bt374.1 < bt374.2))) else (some false)) else (some false))))) else ((lodgerref12_Rest.f (wrap64 (x325009 + x325010)) x316003).bind fun t376 => ((lodgerref12_Range.f k x7 x316003 t376).bind fun bt377 => (if x325008 = 2 then (if x325011 = bt377.1 then (some (decide (bt377.1 < bt377.2))) else (some false)) else (some false))))
end
def lodgerlaw15_SeekFull.f (k : Nat) (a0_0 a0_1 : Int) (l0_2 : List Int) (a0_3 a0_4 : Int) (a0_5 a0_6 : Int) (l1 : List Int) (a2 : Int) : Option (Bool) := (lodgerlaw15_awake.f k).bind fun t316 => (if t316 = true then ((lodgerref08_Fits.f k a0_0 a0_1 l0_2 a0_3 a0_4 a0_5 a0_6 l1).bind fun t317 => (lodgerlaw15_SeekFull.j0 k l1 a2 (!t317) a0_0 a0_1 l0_2 a0_3 a0_4 a0_5 a0_6)) else (lodgerlaw15_SeekFull.j0 k l1 a2 true a0_0 a0_1 l0_2 a0_3 a0_4 a0_5 a0_6))
theorem lodgerlaw15_SeekFull.mono_l : ∀ k, (∀ y0 y1 y2 y3 y4 y5 y6 y7 y8 y9, LeO (lodgerlaw15_SeekFull.j0 k y0 y1 y2 y3 y4 y5 y6 y7 y8 y9) (lodgerlaw15_SeekFull.j0 (k + 1) y0 y1 y2 y3 y4 y5 y6 y7 y8 y9)) ∧ (∀ y0 y1 y2 y3 y4 y5 y6 y7 y8 y9 y10 y11 y12 y13 y14 y15 y16 y17 y18 y19 y20 y21 y22 y23 y24 y25 y26 y27 y28 y29 y30 y31 y32 y33 y34 y35 y36 y37 y38 y39 y40 y41 y42 y43 y44 y45 y46 y47 y48 y49 y50, LeO (lodgerlaw15_SeekFull.l0 k y0 y1 y2 y3 y4 y5 y6 y7 y8 y9 y10 y11 y12 y13 y14 y15 y16 y17 y18 y19 y20 y21 y22 y23 y24 y25 y26 y27 y28 y29 y30 y31 y32 y33 y34 y35 y36 y37 y38 y39 y40 y41 y42 y43 y44 y45 y46 y47 y48 y49 y50) (lodgerlaw15_SeekFull.l0 (k + 1) y0 y1 y2 y3 y4 y5 y6 y7 y8 y9 y10 y11 y12 y13 y14 y15 y16 y17 y18 y19 y20 y21 y22 y23 y24 y25 y26 y27 y28 y29 y30 y31 y32 y33 y34 y35 y36 y37 y38 y39 y40 y41 y42 y43 y44 y45 y46 y47 y48 y49 y50)) ∧ (∀ y0 y1 y2 y3 y4 y5 y6 y7 y8 y9 y10 y11 y12 y13 y14 y15 y16 y17 y18 y19 y20 y21 y22 y23 y24 y25 y26 y27 y28 y29, LeO (lodgerlaw15_SeekFull.j2 k y0 y1 y2 y3 y4 y5 y6 y7 y8 y9 y10 y11 y12 y13 y14 y15 y16 y17 y18 y19 y20 y21 y22 y23 y24 y25 y26 y27 y28 y29) (lodgerlaw15_SeekFull.j2 (k + 1) y0 y1 y2 y3 y4 y5 y6 y7 y8 y9 y10 y11 y12 y13 y14 y15 y16 y17 y18 y19 y20 y21 y22 y23 y24 y25 y26 y27 y28 y29)) ∧ (∀ y0 y1 y2 y3 y4 y5 y6 y7 y8 y9 y10 y11 y12 y13 y14 y15 y16 y17 y18 y19 y20 y21 y22 y23 y24 y25 y26 y27 y28 y29, LeO (lodgerlaw15_SeekFull.l1 k y0 y1 y2 y3 y4 y5 y6 y7 y8 y9 y10 y11 y12 y13 y14 y15 y16 y17 y18 y19 y20 y21 y22 y23 y24 y25 y26 y27 y28 y29) (lodgerlaw15_SeekFull.l1 (k + 1) y0 y1 y2 y3 y4 y5 y6 y7 y8 y9 y10 y11 y12 y13 y14 y15 y16 y17 y18 y19 y20 y21 y22 y23 y24 y25 y26 y27 y28 y29)) ∧ (∀ y0 y1 y2 y3 y4 y5 y6 y7 y8 y9 y10 y11 y12 y13 y14 y15 y16 y17 y18 y19 y20 y21 y22 y23 y24 y25 y26 y27 y28 y29, LeO (lodgerlaw15_SeekFull.l2 k y0 y1 y2 y3 y4 y5 y6 y7 y8 y9 y10 y11 y12 y13 y14 y15 y16 y17 y18 y19 y20 y21 y22 y23 y24 y25 y26 y27 y28 y29) (lodgerlaw15_SeekFull.l2 (k + 1) y0 y1 y2 y3 y4 y5 y6 y7 y8 y9 y10 y11 y12 y13 y14 y15 y16 y17 y18 y19 y20 y21 y22 y23 y24 y25 y26 y27 y28 y29))
 | 0 => ⟨fun _ _ _ _ _ _ _ _ _ _ r h => by simp [lodgerlaw15_SeekFull.j0] at h, fun _ _ _ _ _ _ _ _ _ _ _ _ _ _ _ _ _ _ _ _ _ _ _ _ _ _ _ _ _ _ _ _ _ _ _ _ _ _ _ _ _ _ _ _ _ _ _ _ _ _ _ r h => by simp [lodgerlaw15_SeekFull.l0] at h, fun _ _ _ _ _ _ _ _ _ _ _ _ _ _ _ _ _ _ _ _ _ _ _ _ _ _ _ _ _ _ r h => by simp [lodgerlaw15_SeekFull.j2] at h, fun _ _ _ _ _ _ _ _ _ _ _ _ _ _ _ _ _ _ _ _ _ _ _ _ _ _ _ _ _ _ r h => by simp [lodgerlaw15_SeekFull.l1] at h, fun _ _ _ _ _ _ _ _ _ _ _ _ _ _ _ _ _ _ _ _ _ _ _ _ _ _ _ _ _ _ r h => by simp [lodgerlaw15_SeekFull.l2] at h⟩
 | k + 1 => by
  obtain ⟨ih0, ih1, ih2, ih3, ih4⟩ := lodgerlaw15_SeekFull.mono_l k
  refine ⟨?_, ?_, ?_, ?_, ?_⟩
  ·intro y0 y1 y2 y3 y4 y5 y6 y7 y8 y9
   unfold lodgerlaw15_SeekFull.j0
   repeat' (with_reducible first | apply ih0 | apply ih1 | apply ih2 | apply ih3 | apply ih4 | apply lodgerlaw15_awake.mono | apply lodgerref02_Set.mono | apply lodgerref05_Many.mono | apply lodgerref06_Leaves.mono | apply lodgerref08_Fits.mono | apply lodgerref12_Range.mono | apply seek_Step.mono | exact LeO.refl _ | exact LeO.none _ | refine LeO.ite ?_ ?_ | refine LeO.bind ?_ (fun _ => ?_))
  ·intro y0 y1 y2 y3 y4 y5 y6 y7 y8 y9 y10 y11 y12 y13 y14 y15 y16 y17 y18 y19 y20 y21 y22 y23 y24 y25 y26 y27 y28 y29 y30 y31 y32 y33 y34 y35 y36 y37 y38 y39 y40 y41 y42 y43 y44 y45 y46 y47 y48 y49 y50
   unfold lodgerlaw15_SeekFull.l0
   repeat' (with_reducible first | apply ih0 | apply ih1 | apply ih2 | apply ih3 | apply ih4 | apply lodgerlaw15_awake.mono | apply lodgerref02_Set.mono | apply lodgerref05_Many.mono | apply lodgerref06_Leaves.mono | apply lodgerref08_Fits.mono | apply lodgerref12_Range.mono | apply seek_Step.mono | exact LeO.refl _ | exact LeO.none _ | refine LeO.ite ?_ ?_ | refine LeO.bind ?_ (fun _ => ?_))
  ·intro y0 y1 y2 y3 y4 y5 y6 y7 y8 y9 y10 y11 y12 y13 y14 y15 y16 y17 y18 y19 y20 y21 y22 y23 y24 y25 y26 y27 y28 y29
   unfold lodgerlaw15_SeekFull.j2
   repeat' (with_reducible first | apply ih0 | apply ih1 | apply ih2 | apply ih3 | apply ih4 | apply lodgerlaw15_awake.mono | apply lodgerref02_Set.mono | apply lodgerref05_Many.mono | apply lodgerref06_Leaves.mono | apply lodgerref08_Fits.mono | apply lodgerref12_Range.mono | apply seek_Step.mono | exact LeO.refl _ | exact LeO.none _ | refine LeO.ite ?_ ?_ | refine LeO.bind ?_ (fun _ => ?_))
  ·intro y0 y1 y2 y3 y4 y5 y6 y7 y8 y9 y10 y11 y12 y13 y14 y15 y16 y17 y18 y19 y20 y21 y22 y23 y24 y25 y26 y27 y28 y29
   unfold lodgerlaw15_SeekFull.l1
   repeat' (with_reducible first | apply ih0 | apply ih1 | apply ih2 | apply ih3 | apply ih4 | apply lodgerlaw15_awake.mono | apply lodgerref02_Set.mono | apply lodgerref05_Many.mono | apply lodgerref06_Leaves.mono | apply lodgerref08_Fits.mono | apply lodgerref12_Range.mono | apply seek_Step.mono | exact LeO.refl _ | exact LeO.none _ | refine LeO.ite ?_ ?_ | refine LeO.bind ?_ (fun _ => ?_))
  ·intro y0 y1 y2 y3 y4 y5 y6 y7 y8 y9 y10 y11 y12 y13 y14 y15 y16 y17 y18 y19 y20 y21 y22 y23 y24 y25 y26 y27 y28 y29
   unfold lodgerlaw15_SeekFull.l2
   repeat' (with_reducible first | apply ih0 | apply ih1 | apply ih2 | apply ih3 | apply ih4 | apply lodgerlaw15_awake.mono | apply lodgerref02_Set.mono | apply lodgerref05_Many.mono | apply lodgerref06_Leaves.mono | apply lodgerref08_Fits.mono | apply lodgerref12_Range.mono | apply seek_Step.mono | exact LeO.refl _ | exact LeO.none _ | refine LeO.ite ?_ ?_ | refine LeO.bind ?_ (fun _ => ?_))
theorem lodgerlaw15_SeekFull.mono : ∀ a0 a1 a2 a3 a4 a5 a6 a7 a8 k, LeO (lodgerlaw15_SeekFull.f k a0 a1 a2 a3 a4 a5 a6 a7 a8) (lodgerlaw15_SeekFull.f (k + 1) a0 a1 a2 a3 a4 a5 a6 a7 a8) := by
 intro a0 a1 a2 a3 a4 a5 a6 a7 a8 k
 obtain ⟨ih0, ih1, ih2, ih3, ih4⟩ := lodgerlaw15_SeekFull.mono_l k
 unfold lodgerlaw15_SeekFull.f
 repeat' (with_reducible first | apply ih0 | apply ih1 | apply ih2 | apply ih3 | apply ih4 | apply lodgerlaw15_awake.mono | apply lodgerref02_Set.mono | apply lodgerref05_Many.mono | apply lodgerref06_Leaves.mono | apply lodgerref08_Fits.mono | apply lodgerref12_Range.mono | apply seek_Step.mono | exact LeO.refl _ | exact LeO.none _ | refine LeO.ite ?_ ?_ | refine LeO.bind ?_ (fun _ => ?_))
set_option maxHeartbeats 8000000 in
set_option maxRecDepth 100000 in
theorem lodgerlaw15_SeekFull.calls (k : Nat) (af ag : Int) (a3 : Option Addr) (a4 : Nat) (ah : List Int) (ad aj : Int) (ak al : Int) (A1 : Option Addr) (c1 : Nat) (l1 : List Int) (a2 : Int) (r : Bool) (w : World) (hr0_2 : Kd.C (Kd.int .i64) w a3 ah.length ah) (hc0_2 : ah.length ≤ a4) (hr1 : Kd.C (Kd.int .u64) w A1 l1.length l1) (hc1 : l1.length ≤ c1) (hr_ : r = true) (h : lodgerlaw15_SeekFull.f k af ag ah ad aj ak al l1 a2 = some r) :
  Calls Try.prog 6 #[.agg #[.int .u32 af, .int .i64 ag, .slice a3 ah.length a4, .int .i64 ad, .int .i64 aj, .int .i64 ak, .int .i64 al], .slice A1 l1.length c1, .int .u8 a2] w fun e w' => e = .returned (.bool r) ∧ Below w.heap.size w w' := by
 have hu27 := Try.underlying27
 have hu24 := Try.underlying24
 have hu41 := Try.underlying41
 have bO := Aside0.mk hr0_2
 have bN := Aside0.mk hc0_2
 clear hr0_2 hc0_2
 have cY := Aside0.mk hr1
 have fd := Aside0.mk hc1
 clear hr1 hc1
 have HB := Aside0.mk (Below.refl w.heap.size w)
 replace hr_ := Aside0.mk hr_
 have H : ((lodgerlaw15_awake.f k).bind fun fk => (if fk = true then ((lodgerref08_Fits.f k af ag ah ad aj ak al l1).bind fun cf => (lodgerlaw15_SeekFull.j0 k l1 a2 (!cf) af ag ah ad aj ak al)) else (lodgerlaw15_SeekFull.j0 k l1 a2 true af ag ah ad aj ak al))) = some r := h
 clear h
 have fD := Aside0.mk H
 clear H
 go_enter Try.func6, Try.ntmps6
 go_upto_region 1 with (first | ((with_reducible refine gd_ 40 ?_); first | refine ld_ aa hu41 ?_ | refine ldS_ aa hu41 ?_) | ((with_reducible refine gd_ 52 ?_); first | refine ld_ aa hu41 ?_ | refine ldS_ aa hu41 ?_) | ((with_reducible refine gd_ 93 ?_); first | refine ld_ ab hu41 ?_ | refine ldS_ ab hu41 ?_) | ((with_reducible refine gs_ (ty := 41) rfl ?_); refine st_ aa ?_) | ((with_reducible refine gs_ (ty := 41) rfl ?_); refine st_ ab ?_) | ((with_reducible refine gd_ 3 ?_); refine bx_ (N := 3) (cs := #[.int .u32 af, .int .i64 ag, .slice a3 ah.length a4, .int .i64 ad, .int .i64 aj, .int .i64 ak, .int .i64 al]) (t := 27) ?_; intro aQ hg w5 ac hb; have ft := gG_ hg HB; have fq := gG_ hg HB; replace HB := hS_ HB hb; clear hb hg))
 repeat (go_quiet (first | ((with_reducible refine gd_ 3 ?_); refine bx_ (N := 3) (cs := #[.int .u32 af, .int .i64 ag, .slice a3 ah.length a4, .int .i64 ad, .int .i64 aj, .int .i64 ak, .int .i64 al]) (t := 27) ?_; intro aQ hg w5 ac hb; have ft := gG_ hg HB; have fq := gG_ hg HB; replace HB := hS_ HB hb; clear hb hg)); go_upto_region 1 with (first | ((with_reducible refine gd_ 40 ?_); first | refine ld_ aa hu41 ?_ | refine ldS_ aa hu41 ?_) | ((with_reducible refine gd_ 52 ?_); first | refine ld_ aa hu41 ?_ | refine ldS_ aa hu41 ?_) | ((with_reducible refine gd_ 93 ?_); first | refine ld_ ab hu41 ?_ | refine ldS_ ab hu41 ?_) | ((with_reducible refine gs_ (ty := 41) rfl ?_); refine st_ aa ?_) | ((with_reducible refine gs_ (ty := 41) rfl ?_); refine st_ ab ?_) | ((with_reducible refine gd_ 3 ?_); refine bx_ (N := 3) (cs := #[.int .u32 af, .int .i64 ag, .slice a3 ah.length a4, .int .i64 ad, .int .i64 aj, .int .i64 ak, .int .i64 al]) (t := 27) ?_; intro aQ hg w5 ac hb; have ft := gG_ hg HB; have fq := gG_ hg HB; replace HB := hS_ HB hb; clear hb hg)))
 (try simp only [Act.put, List.setIfInBounds_toArray, List.set_cons_zero, List.set_cons_succ])
 go_cut [24] (fun v24 wc => ∃ (kq : Nat) (et : Bool), v24 = .bool et ∧ Aside0 (lodgerlaw15_SeekFull.j0 kq l1 a2 et af ag ah ad aj ak al = some r) ∧ Aside0 (kq ≤ k) ∧ Aside0 (wc.heap[aQ]? = some (.cells #[.int .u32 af, .int .i64 ag, (.slice a3 ah.length a4), .int .i64 ad, .int .i64 aj, .int .i64 ak, .int .i64 al] 27 (0, 0))) ∧ Aside0 (Below w.heap.size w wc))
 case first =>
  have H := fD.out; clear fD; replace H := bi_ H; obtain ⟨fk, A60, H⟩ := H
  replace H : (if fk = true then ((lodgerref08_Fits.f k af ag ah ad aj ak al l1).bind fun cf => (lodgerlaw15_SeekFull.j0 k l1 a2 (!cf) af ag ah ad aj ak al)) else (lodgerlaw15_SeekFull.j0 k l1 a2 true af ag ah ad aj ak al)) = some r := H
  have A6 := Aside0.mk A60; clear A60
  by_cases c7 : fk = true
  ·subst c7
   have H1 : ((lodgerref08_Fits.f k af ag ah ad aj ak al l1).bind fun cf => (lodgerlaw15_SeekFull.j0 k l1 a2 (!cf) af ag ah ad aj ak al)) = some r := pf_ rfl H
   clear H; have H := H1; clear H1; replace H := bi_ H; obtain ⟨cf, A80, H⟩ := H
   replace H : (lodgerlaw15_SeekFull.j0 k l1 a2 (!cf) af ag ah ad aj ak al) = some r := H
   have A8 := Aside0.mk A80; clear A80
   have H' := Aside0.mk H
   clear H
   go_wp2_with (first | ((with_reducible refine gd_ 40 ?_); first | refine ld_ aa hu41 ?_ | refine ldS_ aa hu41 ?_) | ((with_reducible refine gd_ 52 ?_); first | refine ld_ aa hu41 ?_ | refine ldS_ aa hu41 ?_) | ((with_reducible refine gd_ 93 ?_); first | refine ld_ ab hu41 ?_ | refine ldS_ ab hu41 ?_) | ((with_reducible refine gs_ (ty := 41) rfl ?_); refine st_ aa ?_) | ((with_reducible refine gs_ (ty := 41) rfl ?_); refine st_ ab ?_) | (go_at_call 7; (with_reducible refine (lodgerlaw15_awake.calls k  true _ A6.out).mono ?_); rintro e w9 ⟨rfl, hb⟩; replace HB := hS_ HB hb; replace ac := bB_ ac hb; (try clear hb); obtain ⟨bq, br, bs, bt, bu, bv, bw, bC, bD, bE, bF, bG, bH, bI⟩ := cz7_ (w := w9) ac) | (go_at_call 8; (with_reducible refine (lodgerref08_Fits.calls k af ag _ _ ah ad aj ak al _ _ l1 cf _ (cC_ bO HB) bN.out (cC_ cY HB) fd.out A8.out).mono ?_); rintro e w11 ⟨rfl, hb⟩; replace HB := hS_ HB hb; replace ac := bB_ ac hb; (try clear hb)))
   repeat (go_quiet (first | (go_at_call 7; (with_reducible refine (lodgerlaw15_awake.calls k  true _ A6.out).mono ?_); rintro e w9 ⟨rfl, hb⟩; replace HB := hS_ HB hb; replace ac := bB_ ac hb; (try clear hb); obtain ⟨bq, br, bs, bt, bu, bv, bw, bC, bD, bE, bF, bG, bH, bI⟩ := cz7_ (w := w9) ac) | (go_at_call 8; (with_reducible refine (lodgerref08_Fits.calls k af ag _ _ ah ad aj ak al _ _ l1 cf _ (cC_ bO HB) bN.out (cC_ cY HB) fd.out A8.out).mono ?_); rintro e w11 ⟨rfl, hb⟩; replace HB := hS_ HB hb; replace ac := bB_ ac hb; (try clear hb))); try go_wp2_with (first | ((with_reducible refine gd_ 40 ?_); first | refine ld_ aa hu41 ?_ | refine ldS_ aa hu41 ?_) | ((with_reducible refine gd_ 52 ?_); first | refine ld_ aa hu41 ?_ | refine ldS_ aa hu41 ?_) | ((with_reducible refine gd_ 93 ?_); first | refine ld_ ab hu41 ?_ | refine ldS_ ab hu41 ?_) | ((with_reducible refine gs_ (ty := 41) rfl ?_); refine st_ aa ?_) | ((with_reducible refine gs_ (ty := 41) rfl ?_); refine st_ ab ?_) | (go_at_call 7; (with_reducible refine (lodgerlaw15_awake.calls k  true _ A6.out).mono ?_); rintro e w9 ⟨rfl, hb⟩; replace HB := hS_ HB hb; replace ac := bB_ ac hb; (try clear hb); obtain ⟨bq, br, bs, bt, bu, bv, bw, bC, bD, bE, bF, bG, bH, bI⟩ := cz7_ (w := w9) ac) | (go_at_call 8; (with_reducible refine (lodgerref08_Fits.calls k af ag _ _ ah ad aj ak al _ _ l1 cf _ (cC_ bO HB) bN.out (cC_ cY HB) fd.out A8.out).mono ?_); rintro e w11 ⟨rfl, hb⟩; replace HB := hS_ HB hb; replace ac := bB_ ac hb; (try clear hb))))
   go_meet
   case rel => exact ⟨_, (!cf), rs_, H', ⟨by first | omega | exact Nat.le_refl _⟩, ⟨bk_ ac⟩, ⟨hB_ HB⟩⟩
  ·replace c7 := Bool.eq_false_iff.mpr c7
   subst c7
   have H1 : (lodgerlaw15_SeekFull.j0 k l1 a2 true af ag ah ad aj ak al) = some r := nf_ H
   clear H; have H := H1; clear H1
   have H' := Aside0.mk H
   clear H
   go_wp2_with (first | ((with_reducible refine gd_ 40 ?_); first | refine ld_ aa hu41 ?_ | refine ldS_ aa hu41 ?_) | ((with_reducible refine gd_ 52 ?_); first | refine ld_ aa hu41 ?_ | refine ldS_ aa hu41 ?_) | ((with_reducible refine gd_ 93 ?_); first | refine ld_ ab hu41 ?_ | refine ldS_ ab hu41 ?_) | ((with_reducible refine gs_ (ty := 41) rfl ?_); refine st_ aa ?_) | ((with_reducible refine gs_ (ty := 41) rfl ?_); refine st_ ab ?_) | (go_at_call 7; (with_reducible refine (lodgerlaw15_awake.calls k  false _ A6.out).mono ?_); rintro e w12 ⟨rfl, hb⟩; replace HB := hS_ HB hb; replace ac := bB_ ac hb; (try clear hb)))
   repeat (go_quiet (first | (go_at_call 7; (with_reducible refine (lodgerlaw15_awake.calls k  false _ A6.out).mono ?_); rintro e w12 ⟨rfl, hb⟩; replace HB := hS_ HB hb; replace ac := bB_ ac hb; (try clear hb))); try go_wp2_with (first | ((with_reducible refine gd_ 40 ?_); first | refine ld_ aa hu41 ?_ | refine ldS_ aa hu41 ?_) | ((with_reducible refine gd_ 52 ?_); first | refine ld_ aa hu41 ?_ | refine ldS_ aa hu41 ?_) | ((with_reducible refine gd_ 93 ?_); first | refine ld_ ab hu41 ?_ | refine ldS_ ab hu41 ?_) | ((with_reducible refine gs_ (ty := 41) rfl ?_); refine st_ aa ?_) | ((with_reducible refine gs_ (ty := 41) rfl ?_); refine st_ ab ?_) | (go_at_call 7; (with_reducible refine (lodgerlaw15_awake.calls k  false _ A6.out).mono ?_); rintro e w12 ⟨rfl, hb⟩; replace HB := hS_ HB hb; replace ac := bB_ ac hb; (try clear hb))))
   go_meet
   case rel => exact ⟨_, (true), rs_, H', ⟨by first | omega | exact Nat.le_refl _⟩, ⟨bk_ ac⟩, ⟨hB_ HB⟩⟩
 case rest =>
  clear fD
  try clear c1
  try clear p2
  try clear c6
  try clear c7
  try clear bq br bs bt bu bv bw
  try clear bC bD bE bF bG bH bI
  obtain ⟨kq, et, rfl, HA, ek, ac, HB⟩ := hcut
  cases kq with
  | zero => exact absurd HA.out (by simp [lodgerlaw15_SeekFull.j0])
  | succ kj3 =>
   have H := HA.out; clear HA; simp only [lodgerlaw15_SeekFull.j0] at H
   by_cases c13 : et = true
   ·subst c13
    have H1 : ((lodgerlaw15_awake.f kj3).bind fun ej => (some ej)) = some r := pf_ rfl H
    clear H; have H := H1; clear H1; replace H := bi_ H; obtain ⟨ej, A140, H⟩ := H
    replace H : (some ej) = some r := H
    have A14 := Aside0.mk A140; clear A140
    first | (exfalso; rw [hr_.out] at H; exact absurd (Option.some.inj H) (by decide)) | (try clear hr_)
    all_goals
     obtain rfl := Option.some.inj H
     go_wp2_with (first | ((with_reducible refine gd_ 40 ?_); first | refine ld_ aa hu41 ?_ | refine ldS_ aa hu41 ?_) | ((with_reducible refine gd_ 52 ?_); first | refine ld_ aa hu41 ?_ | refine ldS_ aa hu41 ?_) | ((with_reducible refine gd_ 93 ?_); first | refine ld_ ab hu41 ?_ | refine ldS_ ab hu41 ?_) | ((with_reducible refine gs_ (ty := 41) rfl ?_); refine st_ aa ?_) | ((with_reducible refine gs_ (ty := 41) rfl ?_); refine st_ ab ?_) | (go_at_call 7; (with_reducible refine (lodgerlaw15_awake.calls kj3  ej _ A14.out).mono ?_); rintro e w15 ⟨rfl, hb⟩; replace HB := hS_ HB hb; replace ac := bB_ ac hb; (try clear hb)))
     repeat (go_quiet (first | (go_at_call 7; (with_reducible refine (lodgerlaw15_awake.calls kj3  ej _ A14.out).mono ?_); rintro e w15 ⟨rfl, hb⟩; replace HB := hS_ HB hb; replace ac := bB_ ac hb; (try clear hb))); try go_wp2_with (first | ((with_reducible refine gd_ 40 ?_); first | refine ld_ aa hu41 ?_ | refine ldS_ aa hu41 ?_) | ((with_reducible refine gd_ 52 ?_); first | refine ld_ aa hu41 ?_ | refine ldS_ aa hu41 ?_) | ((with_reducible refine gd_ 93 ?_); first | refine ld_ ab hu41 ?_ | refine ldS_ ab hu41 ?_) | ((with_reducible refine gs_ (ty := 41) rfl ?_); refine st_ aa ?_) | ((with_reducible refine gs_ (ty := 41) rfl ?_); refine st_ ab ?_) | (go_at_call 7; (with_reducible refine (lodgerlaw15_awake.calls kj3  ej _ A14.out).mono ?_); rintro e w15 ⟨rfl, hb⟩; replace HB := hS_ HB hb; replace ac := bB_ ac hb; (try clear hb))))
     go_ret
     exact ⟨er_, hB_ HB⟩
   ·replace c13 := Bool.eq_false_iff.mpr c13
    subst c13
    have H1 : ((lodgerref05_Many.f kj3 af ag).bind fun aX => ((lodgerref02_Set.f kj3 l1 (wrap64 ((l1.length : Int) - 1)) 18446744073709551615).bind fun bp => (if ad = 0 then (none) else (lodgerlaw15_SeekFull.l0 kj3 l1 aX bp 0 af ag ah ad aj ak al 0 0 0 0 0 false 0 0 1 (Int.tmod (wrap64 (a2)) ad) 0 0 0 0 false 0 0 0 0 0 0 0 0 0 0 false 0 0 1 (Int.tmod (wrap64 (a2)) ad) 0 0 0 0 false 0 0 0 0 0)))) = some r := nf_ H
    clear H; have H := H1; clear H1; replace H := bi_ H; obtain ⟨aX, A160, H⟩ := H
    replace H : ((lodgerref02_Set.f kj3 l1 (wrap64 ((l1.length : Int) - 1)) 18446744073709551615).bind fun bp => (if ad = 0 then (none) else (lodgerlaw15_SeekFull.l0 kj3 l1 aX bp 0 af ag ah ad aj ak al 0 0 0 0 0 false 0 0 1 (Int.tmod (wrap64 (a2)) ad) 0 0 0 0 false 0 0 0 0 0 0 0 0 0 0 false 0 0 1 (Int.tmod (wrap64 (a2)) ad) 0 0 0 0 false 0 0 0 0 0))) = some r := H
    have A16 := Aside0.mk A160; clear A160; replace H := bi_ H; obtain ⟨bp, A170, H⟩ := H
    replace H : (if ad = 0 then (none) else (lodgerlaw15_SeekFull.l0 kj3 l1 aX bp 0 af ag ah ad aj ak al 0 0 0 0 0 false 0 0 1 (Int.tmod (wrap64 (a2)) ad) 0 0 0 0 false 0 0 0 0 0 0 0 0 0 0 false 0 0 1 (Int.tmod (wrap64 (a2)) ad) 0 0 0 0 false 0 0 0 0 0)) = some r := H
    have A17 := Aside0.mk A170; clear A170
    by_cases c18 : ad = 0
    ·rw [if_pos c18] at H
     exact absurd H (by simp)
    ·rw [if_neg c18] at H
     have el : (ad == 0) = false := beq_eq_false_iff_ne.mpr c18
     have em : (ad != 0) = true := bne_iff_ne.mpr c18
     have H' := Aside0.mk H
     clear H; obtain ⟨cr, ct, cu, cv, cw, cx, cy, cz, cA, cB, cC, cD, cE, cF⟩ := cz7_ (w := wc) ac
     go_wp2_with (first | ((with_reducible refine gd_ 40 ?_); first | refine ld_ aa hu41 ?_ | refine ldS_ aa hu41 ?_) | ((with_reducible refine gd_ 52 ?_); first | refine ld_ aa hu41 ?_ | refine ldS_ aa hu41 ?_) | ((with_reducible refine gd_ 93 ?_); first | refine ld_ ab hu41 ?_ | refine ldS_ ab hu41 ?_) | ((with_reducible refine gs_ (ty := 41) rfl ?_); refine st_ aa ?_) | ((with_reducible refine gs_ (ty := 41) rfl ?_); refine st_ ab ?_) | (go_at_call 9; (with_reducible refine (lodgerref05_Many.calls kj3 af ag aX _ A16.out).mono ?_); rintro e w20 ⟨rfl, hb⟩; replace HB := hS_ HB hb; replace ac := bB_ ac hb; (try clear hb)) | (go_at_call 21; (with_reducible refine (lodgerref02_Set.calls kj3 _ _ l1 (wrap64 ((l1.length : Int) - 1)) 18446744073709551615 bp _ (cC_ cY HB) fd.out A17.out).mono ?_); rintro e w21 ⟨v321, rfl, ho0, hb⟩; have bn := Aside0.mk (Kd.R_lower ho0 (below_size (hB_ HB))); replace HB := hS_ HB hb; replace ac := bB_ ac hb; (try clear hb); (try clear ho0); obtain ⟨bP, bQ, bR, bS, bT, bU, bV, b0, b1, b2, b3, b4, b5, b6⟩ := cz7_ (w := w21) ac) | ((with_reducible refine gd_ 9 ?_); refine box_event ?hg (N := 9) ?hd (cs := #[.int .i64 0, .int .u32 0, rho_ tb0_ 0, .int .i64 0, .int .u32 0, .bool false, rho_ tb0_ 0, rho_ tb0_ 0, .int .i64 0, .int .i64 0, .int .i64 0, .int .i64 0, .int .i64 0, .int .u64 0, .bool false, rho_ tb0_ 0, .int .i64 0, .int .i64 0, .int .i64 0, .int .i64 0]) (t := 41) ?hr ?_; (case hd => rfl); (case hg => rfl); (case hr => first | (go_simp; done) | (go_simp; rfl)); intro aM hg w23 hbox hb; replace bn := rB_ bn hb; have aa := Aside0.mk (hbox); have fu := gG_ hg HB; have fr := gG_ hg HB; replace HB := hS_ HB hb; have aK := nL_ hg ac; have aY := nG_ hg ac; replace ac := bB_ ac hb; clear hb hbox hg; have fx := aY.out; have fA := aK.out; obtain ⟨bW, b7⟩ := c20_8 (w := w23) aa; obtain ⟨bX, b8⟩ := c20_9 (w := w23) aa; obtain ⟨bx, bJ⟩ := c20_10 (w := w23) aa; obtain ⟨bz, bK⟩ := c20_11 (w := w23) aa) | ((with_reducible refine gd_ 10 ?_); refine box_event ?hg (N := 10) ?hd (cs := #[.int .i64 0, .int .u32 0, rho_ tb0_ 0, .int .i64 0, .int .u32 0, .bool false, rho_ tb0_ 0, rho_ tb0_ 0, .int .i64 0, .int .i64 0, .int .i64 0, .int .i64 0, .int .i64 0, .int .u64 0, .bool false, rho_ tb0_ 0, .int .i64 0, .int .i64 0, .int .i64 0, .int .i64 0]) (t := 41) ?hr ?_; (case hd => rfl); (case hg => rfl); (case hr => first | (go_simp; done) | (go_simp; rfl)); intro aP hg w26 hbox hb; replace bn := Aside0.mk (Kd.R_below (by (with_reducible repeat (first | apply Kd.R_alloc | apply Kd.R_drewN | apply Kd.R_drew)); exact (Kd.R_mono (rF20_ (g := aM) (Kd.R_types bn.out aa.out (by decide)) (fun _ hk => hk.2)) (fun _ h_ => h_.1))) hb); have ab := Aside0.mk (hbox); have fv := gG_ hg HB; have fs := gG_ hg HB; have aV := Aside0.mk ((by rw [hg]; exact Nat.ne_of_lt (blk_lt (g := aQ) (o := .cells #[.int .u32 af, .int .i64 ag, .slice a3 ah.length a4, .int .i64 ad, .int .i64 aj, .int .i64 ak, .int .i64 al] 27 (0, 0)) (by refine bp_ ?_; refine bF20_ ?_ aK.out; refine bp_ ?_; exact ac.out)) : aQ ≠ aP)); have a0 := Aside0.mk ((by rw [hg]; exact Nat.ne_of_gt (blk_lt (g := aQ) (o := .cells #[.int .u32 af, .int .i64 ag, .slice a3 ah.length a4, .int .i64 ad, .int .i64 aj, .int .i64 ak, .int .i64 al] 27 (0, 0)) (by refine bp_ ?_; refine bF20_ ?_ aK.out; refine bp_ ?_; exact ac.out)) : aP ≠ aQ)); replace ac := Aside0.mk (blk_below (g := aQ) (o := .cells #[.int .u32 af, .int .i64 ag, .slice a3 ah.length a4, .int .i64 ad, .int .i64 aj, .int .i64 ak, .int .i64 al] 27 (0, 0)) (by refine bp_ ?_; refine bF20_ ?_ aK.out; refine bp_ ?_; exact ac.out) hb); have aW := Aside0.mk ((by rw [hg]; exact Nat.ne_of_lt (blk_lt (g := aM) (o := .cells #[.int .i64 0, .int .u32 0, rho_ tb0_ 0, .int .i64 0, .int .u32 0, .bool false, rho_ tb0_ 0, rho_ tb0_ 0, .int .i64 1, .int .i64 (Int.tmod (wrap64 (a2)) ad), .int .i64 0, .int .i64 0, .int .i64 0, .int .u64 0, .bool false, rho_ tb0_ 0, .int .i64 0, .int .i64 0, .int .i64 0, .int .i64 0] 41 (0, 0)) (by refine bp_ ?_; apply bS20_; refine bp_ ?_; exact aa.out)) : aM ≠ aP)); have aZ := Aside0.mk ((by rw [hg]; exact Nat.ne_of_gt (blk_lt (g := aM) (o := .cells #[.int .i64 0, .int .u32 0, rho_ tb0_ 0, .int .i64 0, .int .u32 0, .bool false, rho_ tb0_ 0, rho_ tb0_ 0, .int .i64 1, .int .i64 (Int.tmod (wrap64 (a2)) ad), .int .i64 0, .int .i64 0, .int .i64 0, .int .u64 0, .bool false, rho_ tb0_ 0, .int .i64 0, .int .i64 0, .int .i64 0, .int .i64 0] 41 (0, 0)) (by refine bp_ ?_; apply bS20_; refine bp_ ?_; exact aa.out)) : aP ≠ aM)); replace aa := Aside0.mk (blk_below (g := aM) (o := .cells #[.int .i64 0, .int .u32 0, rho_ tb0_ 0, .int .i64 0, .int .u32 0, .bool false, rho_ tb0_ 0, rho_ tb0_ 0, .int .i64 1, .int .i64 (Int.tmod (wrap64 (a2)) ad), .int .i64 0, .int .i64 0, .int .i64 0, .int .u64 0, .bool false, rho_ tb0_ 0, .int .i64 0, .int .i64 0, .int .i64 0, .int .i64 0] 41 (0, 0)) (by refine bp_ ?_; apply bS20_; refine bp_ ?_; exact aa.out) hb); replace HB := hS_ HB hb; clear hb hbox hg; have fy := a0.out; have fB := aV.out; have fz := aZ.out; have fC := aW.out; obtain ⟨bY, b9⟩ := c20_8 (w := w26) ab; obtain ⟨bZ, ca⟩ := c20_9 (w := w26) ab; obtain ⟨bA, bL⟩ := c20_10 (w := w26) ab; obtain ⟨bB, bM⟩ := c20_11 (w := w26) ab))
     repeat (go_quiet (first | (go_at_call 9; (with_reducible refine (lodgerref05_Many.calls kj3 af ag aX _ A16.out).mono ?_); rintro e w20 ⟨rfl, hb⟩; replace HB := hS_ HB hb; replace ac := bB_ ac hb; (try clear hb)) | (go_at_call 21; (with_reducible refine (lodgerref02_Set.calls kj3 _ _ l1 (wrap64 ((l1.length : Int) - 1)) 18446744073709551615 bp _ (cC_ cY HB) fd.out A17.out).mono ?_); rintro e w21 ⟨v321, rfl, ho0, hb⟩; have bn := Aside0.mk (Kd.R_lower ho0 (below_size (hB_ HB))); replace HB := hS_ HB hb; replace ac := bB_ ac hb; (try clear hb); (try clear ho0); obtain ⟨bP, bQ, bR, bS, bT, bU, bV, b0, b1, b2, b3, b4, b5, b6⟩ := cz7_ (w := w21) ac) | ((with_reducible refine gd_ 9 ?_); refine box_event ?hg (N := 9) ?hd (cs := #[.int .i64 0, .int .u32 0, rho_ tb0_ 0, .int .i64 0, .int .u32 0, .bool false, rho_ tb0_ 0, rho_ tb0_ 0, .int .i64 0, .int .i64 0, .int .i64 0, .int .i64 0, .int .i64 0, .int .u64 0, .bool false, rho_ tb0_ 0, .int .i64 0, .int .i64 0, .int .i64 0, .int .i64 0]) (t := 41) ?hr ?_; (case hd => rfl); (case hg => rfl); (case hr => first | (go_simp; done) | (go_simp; rfl)); intro aM hg w23 hbox hb; replace bn := rB_ bn hb; have aa := Aside0.mk (hbox); have fu := gG_ hg HB; have fr := gG_ hg HB; replace HB := hS_ HB hb; have aK := nL_ hg ac; have aY := nG_ hg ac; replace ac := bB_ ac hb; clear hb hbox hg; have fx := aY.out; have fA := aK.out; obtain ⟨bW, b7⟩ := c20_8 (w := w23) aa; obtain ⟨bX, b8⟩ := c20_9 (w := w23) aa; obtain ⟨bx, bJ⟩ := c20_10 (w := w23) aa; obtain ⟨bz, bK⟩ := c20_11 (w := w23) aa) | ((with_reducible refine gd_ 10 ?_); refine box_event ?hg (N := 10) ?hd (cs := #[.int .i64 0, .int .u32 0, rho_ tb0_ 0, .int .i64 0, .int .u32 0, .bool false, rho_ tb0_ 0, rho_ tb0_ 0, .int .i64 0, .int .i64 0, .int .i64 0, .int .i64 0, .int .i64 0, .int .u64 0, .bool false, rho_ tb0_ 0, .int .i64 0, .int .i64 0, .int .i64 0, .int .i64 0]) (t := 41) ?hr ?_; (case hd => rfl); (case hg => rfl); (case hr => first | (go_simp; done) | (go_simp; rfl)); intro aP hg w26 hbox hb; replace bn := Aside0.mk (Kd.R_below (by (with_reducible repeat (first | apply Kd.R_alloc | apply Kd.R_drewN | apply Kd.R_drew)); exact (Kd.R_mono (rF20_ (g := aM) (Kd.R_types bn.out aa.out (by decide)) (fun _ hk => hk.2)) (fun _ h_ => h_.1))) hb); have ab := Aside0.mk (hbox); have fv := gG_ hg HB; have fs := gG_ hg HB; have aV := Aside0.mk ((by rw [hg]; exact Nat.ne_of_lt (blk_lt (g := aQ) (o := .cells #[.int .u32 af, .int .i64 ag, .slice a3 ah.length a4, .int .i64 ad, .int .i64 aj, .int .i64 ak, .int .i64 al] 27 (0, 0)) (by refine bp_ ?_; refine bF20_ ?_ aK.out; refine bp_ ?_; exact ac.out)) : aQ ≠ aP)); have a0 := Aside0.mk ((by rw [hg]; exact Nat.ne_of_gt (blk_lt (g := aQ) (o := .cells #[.int .u32 af, .int .i64 ag, .slice a3 ah.length a4, .int .i64 ad, .int .i64 aj, .int .i64 ak, .int .i64 al] 27 (0, 0)) (by refine bp_ ?_; refine bF20_ ?_ aK.out; refine bp_ ?_; exact ac.out)) : aP ≠ aQ)); replace ac := Aside0.mk (blk_below (g := aQ) (o := .cells #[.int .u32 af, .int .i64 ag, .slice a3 ah.length a4, .int .i64 ad, .int .i64 aj, .int .i64 ak, .int .i64 al] 27 (0, 0)) (by refine bp_ ?_; refine bF20_ ?_ aK.out; refine bp_ ?_; exact ac.out) hb); have aW := Aside0.mk ((by rw [hg]; exact Nat.ne_of_lt (blk_lt (g := aM) (o := .cells #[.int .i64 0, .int .u32 0, rho_ tb0_ 0, .int .i64 0, .int .u32 0, .bool false, rho_ tb0_ 0, rho_ tb0_ 0, .int .i64 1, .int .i64 (Int.tmod (wrap64 (a2)) ad), .int .i64 0, .int .i64 0, .int .i64 0, .int .u64 0, .bool false, rho_ tb0_ 0, .int .i64 0, .int .i64 0, .int .i64 0, .int .i64 0] 41 (0, 0)) (by refine bp_ ?_; apply bS20_; refine bp_ ?_; exact aa.out)) : aM ≠ aP)); have aZ := Aside0.mk ((by rw [hg]; exact Nat.ne_of_gt (blk_lt (g := aM) (o := .cells #[.int .i64 0, .int .u32 0, rho_ tb0_ 0, .int .i64 0, .int .u32 0, .bool false, rho_ tb0_ 0, rho_ tb0_ 0, .int .i64 1, .int .i64 (Int.tmod (wrap64 (a2)) ad), .int .i64 0, .int .i64 0, .int .i64 0, .int .u64 0, .bool false, rho_ tb0_ 0, .int .i64 0, .int .i64 0, .int .i64 0, .int .i64 0] 41 (0, 0)) (by refine bp_ ?_; apply bS20_; refine bp_ ?_; exact aa.out)) : aP ≠ aM)); replace aa := Aside0.mk (blk_below (g := aM) (o := .cells #[.int .i64 0, .int .u32 0, rho_ tb0_ 0, .int .i64 0, .int .u32 0, .bool false, rho_ tb0_ 0, rho_ tb0_ 0, .int .i64 1, .int .i64 (Int.tmod (wrap64 (a2)) ad), .int .i64 0, .int .i64 0, .int .i64 0, .int .u64 0, .bool false, rho_ tb0_ 0, .int .i64 0, .int .i64 0, .int .i64 0, .int .i64 0] 41 (0, 0)) (by refine bp_ ?_; apply bS20_; refine bp_ ?_; exact aa.out) hb); replace HB := hS_ HB hb; clear hb hbox hg; have fy := a0.out; have fB := aV.out; have fz := aZ.out; have fC := aW.out; obtain ⟨bY, b9⟩ := c20_8 (w := w26) ab; obtain ⟨bZ, ca⟩ := c20_9 (w := w26) ab; obtain ⟨bA, bL⟩ := c20_10 (w := w26) ab; obtain ⟨bB, bM⟩ := c20_11 (w := w26) ab)); try go_wp2_with (first | ((with_reducible refine gd_ 40 ?_); first | refine ld_ aa hu41 ?_ | refine ldS_ aa hu41 ?_) | ((with_reducible refine gd_ 52 ?_); first | refine ld_ aa hu41 ?_ | refine ldS_ aa hu41 ?_) | ((with_reducible refine gd_ 93 ?_); first | refine ld_ ab hu41 ?_ | refine ldS_ ab hu41 ?_) | ((with_reducible refine gs_ (ty := 41) rfl ?_); refine st_ aa ?_) | ((with_reducible refine gs_ (ty := 41) rfl ?_); refine st_ ab ?_) | (go_at_call 9; (with_reducible refine (lodgerref05_Many.calls kj3 af ag aX _ A16.out).mono ?_); rintro e w20 ⟨rfl, hb⟩; replace HB := hS_ HB hb; replace ac := bB_ ac hb; (try clear hb)) | (go_at_call 21; (with_reducible refine (lodgerref02_Set.calls kj3 _ _ l1 (wrap64 ((l1.length : Int) - 1)) 18446744073709551615 bp _ (cC_ cY HB) fd.out A17.out).mono ?_); rintro e w21 ⟨v321, rfl, ho0, hb⟩; have bn := Aside0.mk (Kd.R_lower ho0 (below_size (hB_ HB))); replace HB := hS_ HB hb; replace ac := bB_ ac hb; (try clear hb); (try clear ho0); obtain ⟨bP, bQ, bR, bS, bT, bU, bV, b0, b1, b2, b3, b4, b5, b6⟩ := cz7_ (w := w21) ac) | ((with_reducible refine gd_ 9 ?_); refine box_event ?hg (N := 9) ?hd (cs := #[.int .i64 0, .int .u32 0, rho_ tb0_ 0, .int .i64 0, .int .u32 0, .bool false, rho_ tb0_ 0, rho_ tb0_ 0, .int .i64 0, .int .i64 0, .int .i64 0, .int .i64 0, .int .i64 0, .int .u64 0, .bool false, rho_ tb0_ 0, .int .i64 0, .int .i64 0, .int .i64 0, .int .i64 0]) (t := 41) ?hr ?_; (case hd => rfl); (case hg => rfl); (case hr => first | (go_simp; done) | (go_simp; rfl)); intro aM hg w23 hbox hb; replace bn := rB_ bn hb; have aa := Aside0.mk (hbox); have fu := gG_ hg HB; have fr := gG_ hg HB; replace HB := hS_ HB hb; have aK := nL_ hg ac; have aY := nG_ hg ac; replace ac := bB_ ac hb; clear hb hbox hg; have fx := aY.out; have fA := aK.out; obtain ⟨bW, b7⟩ := c20_8 (w := w23) aa; obtain ⟨bX, b8⟩ := c20_9 (w := w23) aa; obtain ⟨bx, bJ⟩ := c20_10 (w := w23) aa; obtain ⟨bz, bK⟩ := c20_11 (w := w23) aa) | ((with_reducible refine gd_ 10 ?_); refine box_event ?hg (N := 10) ?hd (cs := #[.int .i64 0, .int .u32 0, rho_ tb0_ 0, .int .i64 0, .int .u32 0, .bool false, rho_ tb0_ 0, rho_ tb0_ 0, .int .i64 0, .int .i64 0, .int .i64 0, .int .i64 0, .int .i64 0, .int .u64 0, .bool false, rho_ tb0_ 0, .int .i64 0, .int .i64 0, .int .i64 0, .int .i64 0]) (t := 41) ?hr ?_; (case hd => rfl); (case hg => rfl); (case hr => first | (go_simp; done) | (go_simp; rfl)); intro aP hg w26 hbox hb; replace bn := Aside0.mk (Kd.R_below (by (with_reducible repeat (first | apply Kd.R_alloc | apply Kd.R_drewN | apply Kd.R_drew)); exact (Kd.R_mono (rF20_ (g := aM) (Kd.R_types bn.out aa.out (by decide)) (fun _ hk => hk.2)) (fun _ h_ => h_.1))) hb); have ab := Aside0.mk (hbox); have fv := gG_ hg HB; have fs := gG_ hg HB; have aV := Aside0.mk ((by rw [hg]; exact Nat.ne_of_lt (blk_lt (g := aQ) (o := .cells #[.int .u32 af, .int .i64 ag, .slice a3 ah.length a4, .int .i64 ad, .int .i64 aj, .int .i64 ak, .int .i64 al] 27 (0, 0)) (by refine bp_ ?_; refine bF20_ ?_ aK.out; refine bp_ ?_; exact ac.out)) : aQ ≠ aP)); have a0 := Aside0.mk ((by rw [hg]; exact Nat.ne_of_gt (blk_lt (g := aQ) (o := .cells #[.int .u32 af, .int .i64 ag, .slice a3 ah.length a4, .int .i64 ad, .int .i64 aj, .int .i64 ak, .int .i64 al] 27 (0, 0)) (by refine bp_ ?_; refine bF20_ ?_ aK.out; refine bp_ ?_; exact ac.out)) : aP ≠ aQ)); replace ac := Aside0.mk (blk_below (g := aQ) (o := .cells #[.int .u32 af, .int .i64 ag, .slice a3 ah.length a4, .int .i64 ad, .int .i64 aj, .int .i64 ak, .int .i64 al] 27 (0, 0)) (by refine bp_ ?_; refine bF20_ ?_ aK.out; refine bp_ ?_; exact ac.out) hb); have aW := Aside0.mk ((by rw [hg]; exact Nat.ne_of_lt (blk_lt (g := aM) (o := .cells #[.int .i64 0, .int .u32 0, rho_ tb0_ 0, .int .i64 0, .int .u32 0, .bool false, rho_ tb0_ 0, rho_ tb0_ 0, .int .i64 1, .int .i64 (Int.tmod (wrap64 (a2)) ad), .int .i64 0, .int .i64 0, .int .i64 0, .int .u64 0, .bool false, rho_ tb0_ 0, .int .i64 0, .int .i64 0, .int .i64 0, .int .i64 0] 41 (0, 0)) (by refine bp_ ?_; apply bS20_; refine bp_ ?_; exact aa.out)) : aM ≠ aP)); have aZ := Aside0.mk ((by rw [hg]; exact Nat.ne_of_gt (blk_lt (g := aM) (o := .cells #[.int .i64 0, .int .u32 0, rho_ tb0_ 0, .int .i64 0, .int .u32 0, .bool false, rho_ tb0_ 0, rho_ tb0_ 0, .int .i64 1, .int .i64 (Int.tmod (wrap64 (a2)) ad), .int .i64 0, .int .i64 0, .int .i64 0, .int .u64 0, .bool false, rho_ tb0_ 0, .int .i64 0, .int .i64 0, .int .i64 0, .int .i64 0] 41 (0, 0)) (by refine bp_ ?_; apply bS20_; refine bp_ ?_; exact aa.out)) : aP ≠ aM)); replace aa := Aside0.mk (blk_below (g := aM) (o := .cells #[.int .i64 0, .int .u32 0, rho_ tb0_ 0, .int .i64 0, .int .u32 0, .bool false, rho_ tb0_ 0, rho_ tb0_ 0, .int .i64 1, .int .i64 (Int.tmod (wrap64 (a2)) ad), .int .i64 0, .int .i64 0, .int .i64 0, .int .u64 0, .bool false, rho_ tb0_ 0, .int .i64 0, .int .i64 0, .int .i64 0, .int .i64 0] 41 (0, 0)) (by refine bp_ ?_; apply bS20_; refine bp_ ?_; exact aa.out) hb); replace HB := hS_ HB hb; clear hb hbox hg; have fy := a0.out; have fB := aV.out; have fz := aZ.out; have fC := aW.out; obtain ⟨bY, b9⟩ := c20_8 (w := w26) ab; obtain ⟨bZ, ca⟩ := c20_9 (w := w26) ab; obtain ⟨bA, bL⟩ := c20_10 (w := w26) ab; obtain ⟨bB, bM⟩ := c20_11 (w := w26) ab)))
     go_loopg [11] kj3 (fun kq v11 w' => ∃ (ci an : Int) (ao ap : Int) (aq ar : Int) (au : Bool) (av aw : Int) (ae ax : Int) (am ay : Int) (az aA : Int) (aC : Bool) (aD aE : Int) (aG aH aI : Int), v11 = .int .i64 ci ∧ Aside0 (lodgerlaw15_SeekFull.l0 kq l1 aX bp ci af ag ah ad aj ak al an ao ap aq ar au av aw ae ax am ay az aA aC aD aE aG aH aI 0 0 0 0 0 false 0 0 1 (Int.tmod (wrap64 (a2)) ad) 0 0 0 0 false 0 0 0 0 0 = some r) ∧ Aside0 (kq ≤ kj3) ∧ Aside0 (Kd.R (Kd.int .u64) 39 w' w.heap.size (fun _ => True) v321 bp) ∧ Aside0 (w'.heap[aQ]? = some (.cells #[.int .u32 af, .int .i64 ag, (.slice a3 ah.length a4), .int .i64 ad, .int .i64 aj, .int .i64 ak, .int .i64 al] 27 (0, 0))) ∧ Aside0 (w'.heap[aM]? = some (.cells #[.int .i64 an, .int .u32 ao, rho_ tb0_ ap, .int .i64 aq, .int .u32 ar, .bool au, rho_ tb0_ av, rho_ tb0_ aw, .int .i64 ae, .int .i64 ax, .int .i64 am, .int .i64 ay, .int .i64 az, .int .u64 aA, .bool aC, rho_ tb0_ aD, .int .i64 aE, .int .i64 aG, .int .i64 aH, .int .i64 aI] 41 (0, 0))) ∧ Aside0 (w'.heap[aP]? = some (.cells #[.int .i64 0, .int .u32 0, rho_ tb0_ 0, .int .i64 0, .int .u32 0, .bool false, rho_ tb0_ 0, rho_ tb0_ 0, .int .i64 1, .int .i64 (Int.tmod (wrap64 (a2)) ad), .int .i64 0, .int .i64 0, .int .i64 0, .int .u64 0, .bool false, rho_ tb0_ 0, .int .i64 0, .int .i64 0, .int .i64 0, .int .i64 0] 41 (0, 0))) ∧ Aside0 (Below w.heap.size w w'))
     case atStart => exact ⟨(0), (0), (0), (0), (0), (0), (false), (0), (0), (1), (Int.tmod (wrap64 (a2)) ad), (0), (0), (0), (0), (false), (0), (0), (0), (0), (0), rs_, H', ⟨Nat.le_refl _⟩, ⟨by (with_reducible repeat (first | apply Kd.R_alloc | apply Kd.R_drewN | apply Kd.R_drew)); exact Kd.R_mono (rF20_ (g := aP) (Kd.R_types bn.out ab.out (by decide)) (fun _ hk => hk.2)) (fun _ hk => trivial)⟩, ⟨by refine bp_ ?_; refine bF20_ ?_ aV.out; refine bp_ ?_; exact ac.out⟩, ⟨by refine bp_ ?_; refine bF20_ ?_ aW.out; refine bp_ ?_; exact aa.out⟩, ⟨by refine bp_ ?_; apply bS20_; refine bp_ ?_; exact ab.out⟩, ⟨hB_ HB⟩⟩
     case round =>
      clear H'
      try clear c1
      try clear c2
      try clear p2
      try clear c6
      try clear p6
      try clear c7
      try clear c13
      try clear c18
      try clear el
      try clear em
      try clear c24
      try clear c27
      try clear c28
      try clear bq br bs bt bu bv bw
      try clear cr ct cu cv cw cx cy
      try clear bP bQ bR bS bT bU bV
      try clear bx bz bW bX
      try clear bA bB bY bZ
      try clear bC bD bE bF bG bH bI
      try clear cz cA cB cC cD cE cF
      try clear b0 b1 b2 b3 b4 b5 b6
      try clear bJ bK b7 b8
      try clear bL bM b9 ca
      try clear p2
      obtain ⟨ci, an, ao, ap, aq, ar, au, av, aw, ae, ax, am, ay, az, aA, aC, aD, aE, aG, aH, aI, rfl, HA, HK2, bo, ac, aa, ab, HB⟩ := hrel
      cases gk with
      | zero => exact absurd HA.out (by simp [lodgerlaw15_SeekFull.l0])
      | succ k2 =>
       have H := HA.out; clear HA; simp only [lodgerlaw15_SeekFull.l0] at H
       by_cases c30 : ci < ad
       ·rw [if_pos c30] at H
        have en : decide (ci < ad) = true := decide_eq_true c30
        clear c30
        by_cases c31 : ae = 1
        ·rw [if_pos c31] at H
         have eo : (ae == 1) = true := beq_iff_eq.mpr c31
         have ep : (ae != 1) = false := bne_eq_false_iff_eq.mpr c31
         clear c31; replace H := bi_ H; obtain ⟨⟨ey, ez, eA, eB, eC, eD, eE, eF, eG, eH, eI, eJ, eK, eL, eM, eN, eO, eP, eQ, eR⟩, A320, H⟩ := H
         replace H : (lodgerlaw15_SeekFull.l0 k2 l1 aX bp (wrap64 (ci + 1)) af ag ah ad aj ak al ey ez eA eB eC eD eE eF eG eH eI eJ eK eL eM eN eO eP eQ eR 0 0 0 0 0 false 0 0 1 (Int.tmod (wrap64 (a2)) ad) 0 0 0 0 false 0 0 0 0 0) = some r := H
         have A32 := Aside0.mk A320; clear A320
         have H' := Aside0.mk H
         clear H; have g5 := aK.out; have hx := aY.out; have g6 := aV.out; have hy := a0.out; obtain ⟨c0, c8, c9, da, db, dc, dd, dJ, dK, dL, dM, dN, dO, dP⟩ := cz7_ (w := wr) ac; have g7 := aW.out; have hz := aZ.out; obtain ⟨de, dQ⟩ := c20_8 (w := wr) aa; obtain ⟨df, dR⟩ := c20_9 (w := wr) aa; obtain ⟨cG, cO⟩ := c20_10 (w := wr) aa; obtain ⟨cH, cP⟩ := c20_11 (w := wr) aa; obtain ⟨hQ, hS, eo38⟩ := Kd.R_slice bo.out; subst eo38
         go_wp2_with (first | ((with_reducible refine gd_ 40 ?_); first | refine ld_ aa hu41 ?_ | refine ldS_ aa hu41 ?_) | ((with_reducible refine gd_ 52 ?_); first | refine ld_ aa hu41 ?_ | refine ldS_ aa hu41 ?_) | ((with_reducible refine gd_ 93 ?_); first | refine ld_ ab hu41 ?_ | refine ldS_ ab hu41 ?_) | ((with_reducible refine gs_ (ty := 41) rfl ?_); refine st_ aa ?_) | ((with_reducible refine gs_ (ty := 41) rfl ?_); refine st_ ab ?_) | (go_at_call 11; (with_reducible refine (seek_Step.calls k2 af ag _ _ ah ad aj ak al _ _ bp an ao ap aq ar au av aw ae ax am ay az aA aC aD aE aG aH aI ey ez eA eB eC eD eE eF eG eH eI eJ eK eL eM eN eO eP eQ eR _ (cC_ bO HB) bN.out (cD_ (Kd.R_reads' bo.out).2.2) ((Kd.R_reads' bo.out).2.1) A32.out).mono ?_); rintro e w39 ⟨rfl, hb⟩; replace bo := rB_ bo hb; replace aa := Aside0.mk (blk_below (g := aM) (o := .cells #[.int .i64 an, .int .u32 ao, rho_ tb0_ ap, .int .i64 aq, .int .u32 ar, .bool au, rho_ tb0_ av, rho_ tb0_ aw, .int .i64 ae, .int .i64 ax, .int .i64 am, .int .i64 ay, .int .i64 az, .int .u64 aA, .bool aC, rho_ tb0_ aD, .int .i64 aE, .int .i64 aG, .int .i64 aH, .int .i64 aI] 41 (0, 0)) (bk_ aa) hb); replace HB := hS_ HB hb; replace ac := bB_ ac hb; replace ab := bB_ ab hb; (try clear hb); obtain ⟨cl, cn⟩ := c20_8 (w := w39) aa; obtain ⟨cm, co⟩ := c20_9 (w := w39) aa; obtain ⟨cb, cd⟩ := c20_10 (w := w39) aa; obtain ⟨cc, ce⟩ := c20_11 (w := w39) aa))
         repeat (go_quiet (first | (go_at_call 11; (with_reducible refine (seek_Step.calls k2 af ag _ _ ah ad aj ak al _ _ bp an ao ap aq ar au av aw ae ax am ay az aA aC aD aE aG aH aI ey ez eA eB eC eD eE eF eG eH eI eJ eK eL eM eN eO eP eQ eR _ (cC_ bO HB) bN.out (cD_ (Kd.R_reads' bo.out).2.2) ((Kd.R_reads' bo.out).2.1) A32.out).mono ?_); rintro e w39 ⟨rfl, hb⟩; replace bo := rB_ bo hb; replace aa := Aside0.mk (blk_below (g := aM) (o := .cells #[.int .i64 an, .int .u32 ao, rho_ tb0_ ap, .int .i64 aq, .int .u32 ar, .bool au, rho_ tb0_ av, rho_ tb0_ aw, .int .i64 ae, .int .i64 ax, .int .i64 am, .int .i64 ay, .int .i64 az, .int .u64 aA, .bool aC, rho_ tb0_ aD, .int .i64 aE, .int .i64 aG, .int .i64 aH, .int .i64 aI] 41 (0, 0)) (bk_ aa) hb); replace HB := hS_ HB hb; replace ac := bB_ ac hb; replace ab := bB_ ab hb; (try clear hb); obtain ⟨cl, cn⟩ := c20_8 (w := w39) aa; obtain ⟨cm, co⟩ := c20_9 (w := w39) aa; obtain ⟨cb, cd⟩ := c20_10 (w := w39) aa; obtain ⟨cc, ce⟩ := c20_11 (w := w39) aa)); try go_wp2_with (first | ((with_reducible refine gd_ 40 ?_); first | refine ld_ aa hu41 ?_ | refine ldS_ aa hu41 ?_) | ((with_reducible refine gd_ 52 ?_); first | refine ld_ aa hu41 ?_ | refine ldS_ aa hu41 ?_) | ((with_reducible refine gd_ 93 ?_); first | refine ld_ ab hu41 ?_ | refine ldS_ ab hu41 ?_) | ((with_reducible refine gs_ (ty := 41) rfl ?_); refine st_ aa ?_) | ((with_reducible refine gs_ (ty := 41) rfl ?_); refine st_ ab ?_) | (go_at_call 11; (with_reducible refine (seek_Step.calls k2 af ag _ _ ah ad aj ak al _ _ bp an ao ap aq ar au av aw ae ax am ay az aA aC aD aE aG aH aI ey ez eA eB eC eD eE eF eG eH eI eJ eK eL eM eN eO eP eQ eR _ (cC_ bO HB) bN.out (cD_ (Kd.R_reads' bo.out).2.2) ((Kd.R_reads' bo.out).2.1) A32.out).mono ?_); rintro e w39 ⟨rfl, hb⟩; replace bo := rB_ bo hb; replace aa := Aside0.mk (blk_below (g := aM) (o := .cells #[.int .i64 an, .int .u32 ao, rho_ tb0_ ap, .int .i64 aq, .int .u32 ar, .bool au, rho_ tb0_ av, rho_ tb0_ aw, .int .i64 ae, .int .i64 ax, .int .i64 am, .int .i64 ay, .int .i64 az, .int .u64 aA, .bool aC, rho_ tb0_ aD, .int .i64 aE, .int .i64 aG, .int .i64 aH, .int .i64 aI] 41 (0, 0)) (bk_ aa) hb); replace HB := hS_ HB hb; replace ac := bB_ ac hb; replace ab := bB_ ab hb; (try clear hb); obtain ⟨cl, cn⟩ := c20_8 (w := w39) aa; obtain ⟨cm, co⟩ := c20_9 (w := w39) aa; obtain ⟨cb, cd⟩ := c20_10 (w := w39) aa; obtain ⟨cc, ce⟩ := c20_11 (w := w39) aa)))
         go_roundg k2
         case measure => have := ek.out; have := HK2.out; omega
         case rel => exact ⟨(wrap64 (ci + 1)), (ey), (ez), (eA), (eB), (eC), (eD), (eE), (eF), (eG), (eH), (eI), (eJ), (eK), (eL), (eM), (eN), (eO), (eP), (eQ), (eR), rs_, H', ⟨om2_ ek HK2⟩, ⟨by (with_reducible repeat (first | apply Kd.R_alloc | apply Kd.R_drewN | apply Kd.R_drew)); exact Kd.R_mono (rF20_ (g := aM) (Kd.R_types bo.out aa.out (by decide)) (fun _ hk => hk.2)) (fun _ hk => trivial)⟩, ⟨by refine bp_ ?_; refine bF20_ ?_ aK.out; refine bp_ ?_; exact ac.out⟩, ⟨by refine bp_ ?_; apply bS20_; refine bp_ ?_; exact aa.out⟩, ⟨by refine bp_ ?_; refine bF20_ ?_ aZ.out; refine bp_ ?_; exact ab.out⟩, ⟨hB_ HB⟩⟩
        ·rw [if_neg c31] at H
         have eo : (ae == 1) = false := beq_eq_false_iff_ne.mpr c31
         have ep : (ae != 1) = true := bne_iff_ne.mpr c31
         first | (exfalso; rw [hr_.out] at H; exact absurd (Option.some.inj H) (by decide)) | (try clear hr_)
         all_goals
          obtain rfl := Option.some.inj H
          have g8 := aK.out; have hA := aY.out; have g9 := aV.out; have hB := a0.out; obtain ⟨dg, dh, di, dj, dk, dl, dm, dS, dT, dU, dV, dW, dX, dY⟩ := cz7_ (w := wr) ac; have ha := aW.out; have hC := aZ.out; obtain ⟨dn, dZ⟩ := c20_8 (w := wr) aa; obtain ⟨dp, d0⟩ := c20_9 (w := wr) aa; obtain ⟨cI, cQ⟩ := c20_10 (w := wr) aa; obtain ⟨cJ, cR⟩ := c20_11 (w := wr) aa
          go_wp2
          repeat (go_quiet (fail); try go_wp2)
          go_ret
          exact ⟨er_, hB_ HB⟩
       ·rw [if_neg c30] at H
        have en : decide (ci < ad) = false := decide_eq_false c30
        clear c30; have fn := Aside0.mk H; clear H; have hc := aK.out; have hD := aY.out; have he := aV.out; have hE := a0.out; obtain ⟨dq, dr, dt, du, dv, dw, dx, d1, d2, d3, d4, d5, d6, d7⟩ := cz7_ (w := wr) ac
        go_upto_region 13 with (fail)
        repeat (go_quiet (fail); go_upto_region 13 with (fail))
        go_cut [63] (fun v63 wc => ∃ (kq : Nat) (cZ : Bool), v63 = .bool cZ ∧ Aside0 (lodgerlaw15_SeekFull.j2 kq l1 aX cZ af ag ah ad aj ak al 0 0 0 0 0 false 0 0 1 (Int.tmod (wrap64 (a2)) ad) 0 0 0 0 false 0 0 0 0 0 = some r) ∧ Aside0 (kq ≤ k2) ∧ Aside0 (wc.heap[aQ]? = some (.cells #[.int .u32 af, .int .i64 ag, (.slice a3 ah.length a4), .int .i64 ad, .int .i64 aj, .int .i64 ak, .int .i64 al] 27 (0, 0))) ∧ Aside0 (wc.heap[aM]? = some (.cells #[.int .i64 an, .int .u32 ao, rho_ tb0_ ap, .int .i64 aq, .int .u32 ar, .bool au, rho_ tb0_ av, rho_ tb0_ aw, .int .i64 ae, .int .i64 ax, .int .i64 am, .int .i64 ay, .int .i64 az, .int .u64 aA, .bool aC, rho_ tb0_ aD, .int .i64 aE, .int .i64 aG, .int .i64 aH, .int .i64 aI] 41 (0, 0))) ∧ Aside0 (wc.heap[aP]? = some (.cells #[.int .i64 0, .int .u32 0, rho_ tb0_ 0, .int .i64 0, .int .u32 0, .bool false, rho_ tb0_ 0, rho_ tb0_ 0, .int .i64 1, .int .i64 (Int.tmod (wrap64 (a2)) ad), .int .i64 0, .int .i64 0, .int .i64 0, .int .u64 0, .bool false, rho_ tb0_ 0, .int .i64 0, .int .i64 0, .int .i64 0, .int .i64 0] 41 (0, 0))) ∧ Aside0 (Below w.heap.size w wc))
        case first =>
         have H := fn.out; clear fn
         by_cases c50 : ae = 6
         ·rw [if_pos c50] at H
          have ch : (ae == 6) = true := beq_iff_eq.mpr c50
          have er : (ae != 6) = false := bne_eq_false_iff_eq.mpr c50
          clear c50
          (first | rw [ch] | (simp only [i64_w, i32_w]; rw [ch]) | skip)
          have H' := Aside0.mk H
          clear H; have hf := aY.out; have hF := aK.out; have hh := aW.out; have hG := aZ.out; obtain ⟨dy, d8⟩ := c20_8 (w := wr) aa; obtain ⟨dz, d9⟩ := c20_9 (w := wr) aa; obtain ⟨cK, cS⟩ := c20_10 (w := wr) aa; obtain ⟨cL, cT⟩ := c20_11 (w := wr) aa; have hi := aV.out; have hH := a0.out; obtain ⟨dA, dB, dC, dD, dE, dF, dG, ea, eb, ec, ed, ee, ef, eg⟩ := cz7_ (w := wr) ac
          go_wp2
          repeat (go_quiet (fail); try go_wp2)
          go_meet
          case rel => exact ⟨_, ((am != ad)), rs_, H', ⟨by have := ek.out; have := HK2.out; first | omega | exact Nat.le_refl _⟩, ⟨bk_ ac⟩, ⟨bk_ aa⟩, ⟨bk_ ab⟩, ⟨hB_ HB⟩⟩
         ·rw [if_neg c50] at H
          have ch : (ae == 6) = false := beq_eq_false_iff_ne.mpr c50
          have er : (ae != 6) = true := bne_iff_ne.mpr c50
          (first | rw [ch] | (simp only [i64_w, i32_w]; rw [ch]) | skip)
          have H' := Aside0.mk H
          clear H; have hj := aY.out; have hI := aK.out; have hl := aW.out; have hJ := aZ.out; obtain ⟨dH, eh⟩ := c20_8 (w := wr) aa; obtain ⟨dI, ei⟩ := c20_9 (w := wr) aa; obtain ⟨cM, cU⟩ := c20_10 (w := wr) aa; obtain ⟨cN, cV⟩ := c20_11 (w := wr) aa
          go_wp2
          repeat (go_quiet (fail); try go_wp2)
          go_meet
          case rel => exact ⟨_, (true), rs_, H', ⟨by have := ek.out; have := HK2.out; first | omega | exact Nat.le_refl _⟩, ⟨bk_ ac⟩, ⟨bk_ aa⟩, ⟨bk_ ab⟩, ⟨hB_ HB⟩⟩
        case rest =>
         clear fn
         try clear c1
         try clear c2
         try clear p2
         try clear c3
         try clear c4
         try clear c5
         try clear c6
         try clear p6
         try clear c7
         try clear c13
         try clear c18
         try clear el
         try clear em
         try clear c24
         try clear c27
         try clear c28
         try clear c30
         try clear en
         try clear c31
         try clear eo
         try clear ep
         try clear c33
         try clear c34
         try clear c36
         try clear c41
         try clear c42
         try clear c44
         try clear c47
         try clear c48
         try clear c50
         try clear ch
         try clear er
         try clear c51
         try clear c52
         try clear c54
         try clear c56
         try clear c57
         try clear bq br bs bt bu bv bw
         try clear cr ct cu cv cw cx cy
         try clear bP bQ bR bS bT bU bV
         try clear bx bz bW bX
         try clear bA bB bY bZ
         try clear c0 c8 c9 da db dc dd
         try clear cG cH de df
         try clear cb cc cl cm
         try clear dg dh di dj dk dl dm
         try clear cI cJ dn dp
         try clear dq dr dt du dv dw dx
         try clear cK cL dy dz
         try clear dA dB dC dD dE dF dG
         try clear cM cN dH dI
         try clear bC bD bE bF bG bH bI
         try clear cz cA cB cC cD cE cF
         try clear b0 b1 b2 b3 b4 b5 b6
         try clear bJ bK b7 b8
         try clear bL bM b9 ca
         try clear dJ dK dL dM dN dO dP
         try clear cO cP dQ dR
         try clear cd ce cn co
         try clear dS dT dU dV dW dX dY
         try clear cQ cR dZ d0
         try clear d1 d2 d3 d4 d5 d6 d7
         try clear cS cT d8 d9
         try clear ea eb ec ed ee ef eg
         try clear cU cV eh ei
         try clear p2
         try clear p6
         obtain ⟨kq, cZ, rfl, HA, fi, ac, aa, ab, HB⟩ := hcut
         cases kq with
         | zero => exact absurd HA.out (by simp [lodgerlaw15_SeekFull.j2])
         | succ kj45 =>
          have H := HA.out; clear HA; simp only [lodgerlaw15_SeekFull.j2] at H
          by_cases c59 : cZ = true
          ·subst c59
           have H1 : (some false) = some r := pf_ rfl H
           rw [hr_.out] at H1
           exact absurd (Option.some.inj H1) (by decide)
          ·replace c59 := Bool.eq_false_iff.mpr c59
           subst c59
           have H1 : ((some (([] : List Int) : List Int)).bind fun ck => (if ck.length + l1.length < 17592186044416 then ((lodgerref06_Leaves.f kj45 aX).bind fun cg => (lodgerlaw15_SeekFull.l1 kj45 aX (ck ++ l1) cg af ag ah ad aj ak al 0 0 0 0 0 false 0 0 1 (Int.tmod (wrap64 (a2)) ad) 0 0 0 0 false 0 0 0 0 0)) else (none))) = some r := nf_ H
           clear H; have H := H1; clear H1; obtain ⟨ck, hy345⟩ : ∃ y_ : List Int, y_ = (([] : List Int)) := ⟨_, rfl⟩
           replace H : (if ck.length + l1.length < 17592186044416 then ((lodgerref06_Leaves.f kj45 aX).bind fun cg => (lodgerlaw15_SeekFull.l1 kj45 aX (ck ++ l1) cg af ag ah ad aj ak al 0 0 0 0 0 false 0 0 1 (Int.tmod (wrap64 (a2)) ad) 0 0 0 0 false 0 0 0 0 0)) else (none)) = some r := rp_ hy345 H
           have Ny345 := Aside0.mk hy345; clear hy345
           by_cases c60 : ck.length + l1.length < 17592186044416
           ·rw [if_pos c60] at H
            have LMc60 := Aside0.mk c60; clear c60; obtain ⟨fp, hy348⟩ : ∃ y_ : List Int, y_ = (ck ++ l1) := ⟨_, rfl⟩
            replace H : ((lodgerref06_Leaves.f kj45 aX).bind fun cg => (lodgerlaw15_SeekFull.l1 kj45 aX fp cg af ag ah ad aj ak al 0 0 0 0 0 false 0 0 1 (Int.tmod (wrap64 (a2)) ad) 0 0 0 0 false 0 0 0 0 0)) = some r := rp_ hy348 H
            have Ny348 := Aside0.mk hy348; clear hy348; replace H := bi_ H; obtain ⟨cg, A610, H⟩ := H
            replace H : (lodgerlaw15_SeekFull.l1 kj45 aX fp cg af ag ah ad aj ak al 0 0 0 0 0 false 0 0 1 (Int.tmod (wrap64 (a2)) ad) 0 0 0 0 false 0 0 0 0 0) = some r := H
            have A61 := Aside0.mk A610; clear A610
            have H' := Aside0.mk H
            clear H
            go_wp2_with (first | ((with_reducible refine gd_ 40 ?_); first | refine ld_ aa hu41 ?_ | refine ldS_ aa hu41 ?_) | ((with_reducible refine gd_ 52 ?_); first | refine ld_ aa hu41 ?_ | refine ldS_ aa hu41 ?_) | ((with_reducible refine gd_ 93 ?_); first | refine ld_ ab hu41 ?_ | refine ldS_ ab hu41 ?_) | ((with_reducible refine gs_ (ty := 41) rfl ?_); refine st_ aa ?_) | ((with_reducible refine gs_ (ty := 41) rfl ?_); refine st_ ab ?_) | ((with_reducible refine gd_ 64 ?_); refine Kd.R_lit (Kd.int .u64) _ 39 ?hg (N := 64) ?hd (xs := ([] : List Int)) (inner := []) (ok := fun _ => True) (okp := fun _ => True) ?hr ?hp (fun _ hk => hk) trivial (Below.refl _ _) (Nat.le_refl _) (by simp) ?_; (case hd => rfl); (case hg => rfl); (case hr => first | (go_simp; done) | (go_simp; rfl)); (case hp => exact (Reps.none _ _)); intro v346 w62 ho63 hb hg_ hnew_; clear hg_ hnew_; (first | rw [← Ny345.out] at ho63 | (simp only [Int.reduceToNat] at ho63; rw [← Ny345.out] at ho63)); have a6 := Aside0.mk (Kd.R_lower ho63 (below_size (hB_ HB))); replace aa := Aside0.mk (blk_below (g := aM) (o := .cells #[.int .i64 an, .int .u32 ao, rho_ tb0_ ap, .int .i64 aq, .int .u32 ar, .bool au, rho_ tb0_ av, rho_ tb0_ aw, .int .i64 ae, .int .i64 ax, .int .i64 am, .int .i64 ay, .int .i64 az, .int .u64 aA, .bool aC, rho_ tb0_ aD, .int .i64 aE, .int .i64 aG, .int .i64 aH, .int .i64 aI] 41 (0, 0)) (bk_ aa) hb); replace HB := hS_ HB hb; replace ac := bB_ ac hb; replace ab := bB_ ab hb; clear hb ho63) | ((with_reducible refine gate_builtin (b := .append) (xs := #[.tmp 64, .tmp 65]) rfl ?_); at_builtin; refine Kd.R_append_rows (Kd.int .u64) (w0 := w) w.heap.size rfl (.tmp 64) (.tmp 65) 28 39 (.int .u64 0) 8 rfl Try.underlying28 info39 rfl (by decide) (by omega) v346 ck l1 _ _ _ (fun _ => True) (fun _ => False) rfl rfl ?aO ?aR (fun _ _ h => h) (fun _ h => h.elim) ?aF ?aB ?aS ?aL ?_; (case aR => exact cC_ cY HB); (case aB => exact (hB_ HB)); (case aF => exact (fun _ _ => trivial)); (case aO => exact (rR_ a6)); (case aS => exact (below_size (hB_ HB))); (case aL => have := LMc60.out; omega); intro v349 w64 ho hb hg hat; rw [← Ny348.out] at ho; replace ac := Aside0.mk (blk_grown (g := aQ) (o := .cells #[.int .u32 af, .int .i64 ag, .slice a3 ah.length a4, .int .i64 ad, .int .i64 aj, .int .i64 ak, .int .i64 al] 27 (0, 0)) (bk_ ac) hg (Kd.R_ne a6.out ac.out (by decide))); replace aa := Aside0.mk (blk_grown (g := aM) (o := .cells #[.int .i64 an, .int .u32 ao, rho_ tb0_ ap, .int .i64 aq, .int .u32 ar, .bool au, rho_ tb0_ av, rho_ tb0_ aw, .int .i64 ae, .int .i64 ax, .int .i64 am, .int .i64 ay, .int .i64 az, .int .u64 aA, .bool aC, rho_ tb0_ aD, .int .i64 aE, .int .i64 aG, .int .i64 aH, .int .i64 aI] 41 (0, 0)) (bk_ aa) hg (Kd.R_ne a6.out aa.out (by decide))); replace ab := Aside0.mk (blk_grown (g := aP) (o := .cells #[.int .i64 0, .int .u32 0, rho_ tb0_ 0, .int .i64 0, .int .u32 0, .bool false, rho_ tb0_ 0, rho_ tb0_ 0, .int .i64 1, .int .i64 (Int.tmod (wrap64 (a2)) ad), .int .i64 0, .int .i64 0, .int .i64 0, .int .u64 0, .bool false, rho_ tb0_ 0, .int .i64 0, .int .i64 0, .int .i64 0, .int .i64 0] 41 (0, 0)) (bk_ ab) hg (Kd.R_ne a6.out ab.out (by decide))); replace HB := Aside0.mk (hb); have fj := Aside0.mk (ho); clear a6 ho hb hg hat) | (go_at_call 12; (with_reducible refine (lodgerref06_Leaves.calls kj45 aX cg _ A61.out).mono ?_); rintro e w' ⟨rfl, ⟨nd, rfl⟩⟩; (try first | exact ⟨rfl, _, World.drewN_drewN _ _ _⟩ | exact ⟨rfl, _, Eq.trans (World.drewN_drewN _ _ _) (congrArg (World.drewN _) (Nat.add_assoc _ _ _))⟩)))
            repeat (go_quiet (first | ((with_reducible refine gd_ 64 ?_); refine Kd.R_lit (Kd.int .u64) _ 39 ?hg (N := 64) ?hd (xs := ([] : List Int)) (inner := []) (ok := fun _ => True) (okp := fun _ => True) ?hr ?hp (fun _ hk => hk) trivial (Below.refl _ _) (Nat.le_refl _) (by simp) ?_; (case hd => rfl); (case hg => rfl); (case hr => first | (go_simp; done) | (go_simp; rfl)); (case hp => exact (Reps.none _ _)); intro v346 w62 ho63 hb hg_ hnew_; clear hg_ hnew_; (first | rw [← Ny345.out] at ho63 | (simp only [Int.reduceToNat] at ho63; rw [← Ny345.out] at ho63)); have a6 := Aside0.mk (Kd.R_lower ho63 (below_size (hB_ HB))); replace aa := Aside0.mk (blk_below (g := aM) (o := .cells #[.int .i64 an, .int .u32 ao, rho_ tb0_ ap, .int .i64 aq, .int .u32 ar, .bool au, rho_ tb0_ av, rho_ tb0_ aw, .int .i64 ae, .int .i64 ax, .int .i64 am, .int .i64 ay, .int .i64 az, .int .u64 aA, .bool aC, rho_ tb0_ aD, .int .i64 aE, .int .i64 aG, .int .i64 aH, .int .i64 aI] 41 (0, 0)) (bk_ aa) hb); replace HB := hS_ HB hb; replace ac := bB_ ac hb; replace ab := bB_ ab hb; clear hb ho63) | ((with_reducible refine gate_builtin (b := .append) (xs := #[.tmp 64, .tmp 65]) rfl ?_); at_builtin; refine Kd.R_append_rows (Kd.int .u64) (w0 := w) w.heap.size rfl (.tmp 64) (.tmp 65) 28 39 (.int .u64 0) 8 rfl Try.underlying28 info39 rfl (by decide) (by omega) v346 ck l1 _ _ _ (fun _ => True) (fun _ => False) rfl rfl ?aO ?aR (fun _ _ h => h) (fun _ h => h.elim) ?aF ?aB ?aS ?aL ?_; (case aR => exact cC_ cY HB); (case aB => exact (hB_ HB)); (case aF => exact (fun _ _ => trivial)); (case aO => exact (rR_ a6)); (case aS => exact (below_size (hB_ HB))); (case aL => have := LMc60.out; omega); intro v349 w64 ho hb hg hat; rw [← Ny348.out] at ho; replace ac := Aside0.mk (blk_grown (g := aQ) (o := .cells #[.int .u32 af, .int .i64 ag, .slice a3 ah.length a4, .int .i64 ad, .int .i64 aj, .int .i64 ak, .int .i64 al] 27 (0, 0)) (bk_ ac) hg (Kd.R_ne a6.out ac.out (by decide))); replace aa := Aside0.mk (blk_grown (g := aM) (o := .cells #[.int .i64 an, .int .u32 ao, rho_ tb0_ ap, .int .i64 aq, .int .u32 ar, .bool au, rho_ tb0_ av, rho_ tb0_ aw, .int .i64 ae, .int .i64 ax, .int .i64 am, .int .i64 ay, .int .i64 az, .int .u64 aA, .bool aC, rho_ tb0_ aD, .int .i64 aE, .int .i64 aG, .int .i64 aH, .int .i64 aI] 41 (0, 0)) (bk_ aa) hg (Kd.R_ne a6.out aa.out (by decide))); replace ab := Aside0.mk (blk_grown (g := aP) (o := .cells #[.int .i64 0, .int .u32 0, rho_ tb0_ 0, .int .i64 0, .int .u32 0, .bool false, rho_ tb0_ 0, rho_ tb0_ 0, .int .i64 1, .int .i64 (Int.tmod (wrap64 (a2)) ad), .int .i64 0, .int .i64 0, .int .i64 0, .int .u64 0, .bool false, rho_ tb0_ 0, .int .i64 0, .int .i64 0, .int .i64 0, .int .i64 0] 41 (0, 0)) (bk_ ab) hg (Kd.R_ne a6.out ab.out (by decide))); replace HB := Aside0.mk (hb); have fj := Aside0.mk (ho); clear a6 ho hb hg hat) | (go_at_call 12; (with_reducible refine (lodgerref06_Leaves.calls kj45 aX cg _ A61.out).mono ?_); rintro e w' ⟨rfl, ⟨nd, rfl⟩⟩; (try first | exact ⟨rfl, _, World.drewN_drewN _ _ _⟩ | exact ⟨rfl, _, Eq.trans (World.drewN_drewN _ _ _) (congrArg (World.drewN _) (Nat.add_assoc _ _ _))⟩))); try go_wp2_with (first | ((with_reducible refine gd_ 40 ?_); first | refine ld_ aa hu41 ?_ | refine ldS_ aa hu41 ?_) | ((with_reducible refine gd_ 52 ?_); first | refine ld_ aa hu41 ?_ | refine ldS_ aa hu41 ?_) | ((with_reducible refine gd_ 93 ?_); first | refine ld_ ab hu41 ?_ | refine ldS_ ab hu41 ?_) | ((with_reducible refine gs_ (ty := 41) rfl ?_); refine st_ aa ?_) | ((with_reducible refine gs_ (ty := 41) rfl ?_); refine st_ ab ?_) | ((with_reducible refine gd_ 64 ?_); refine Kd.R_lit (Kd.int .u64) _ 39 ?hg (N := 64) ?hd (xs := ([] : List Int)) (inner := []) (ok := fun _ => True) (okp := fun _ => True) ?hr ?hp (fun _ hk => hk) trivial (Below.refl _ _) (Nat.le_refl _) (by simp) ?_; (case hd => rfl); (case hg => rfl); (case hr => first | (go_simp; done) | (go_simp; rfl)); (case hp => exact (Reps.none _ _)); intro v346 w62 ho63 hb hg_ hnew_; clear hg_ hnew_; (first | rw [← Ny345.out] at ho63 | (simp only [Int.reduceToNat] at ho63; rw [← Ny345.out] at ho63)); have a6 := Aside0.mk (Kd.R_lower ho63 (below_size (hB_ HB))); replace aa := Aside0.mk (blk_below (g := aM) (o := .cells #[.int .i64 an, .int .u32 ao, rho_ tb0_ ap, .int .i64 aq, .int .u32 ar, .bool au, rho_ tb0_ av, rho_ tb0_ aw, .int .i64 ae, .int .i64 ax, .int .i64 am, .int .i64 ay, .int .i64 az, .int .u64 aA, .bool aC, rho_ tb0_ aD, .int .i64 aE, .int .i64 aG, .int .i64 aH, .int .i64 aI] 41 (0, 0)) (bk_ aa) hb); replace HB := hS_ HB hb; replace ac := bB_ ac hb; replace ab := bB_ ab hb; clear hb ho63) | ((with_reducible refine gate_builtin (b := .append) (xs := #[.tmp 64, .tmp 65]) rfl ?_); at_builtin; refine Kd.R_append_rows (Kd.int .u64) (w0 := w) w.heap.size rfl (.tmp 64) (.tmp 65) 28 39 (.int .u64 0) 8 rfl Try.underlying28 info39 rfl (by decide) (by omega) v346 ck l1 _ _ _ (fun _ => True) (fun _ => False) rfl rfl ?aO ?aR (fun _ _ h => h) (fun _ h => h.elim) ?aF ?aB ?aS ?aL ?_; (case aR => exact cC_ cY HB); (case aB => exact (hB_ HB)); (case aF => exact (fun _ _ => trivial)); (case aO => exact (rR_ a6)); (case aS => exact (below_size (hB_ HB))); (case aL => have := LMc60.out; omega); intro v349 w64 ho hb hg hat; rw [← Ny348.out] at ho; replace ac := Aside0.mk (blk_grown (g := aQ) (o := .cells #[.int .u32 af, .int .i64 ag, .slice a3 ah.length a4, .int .i64 ad, .int .i64 aj, .int .i64 ak, .int .i64 al] 27 (0, 0)) (bk_ ac) hg (Kd.R_ne a6.out ac.out (by decide))); replace aa := Aside0.mk (blk_grown (g := aM) (o := .cells #[.int .i64 an, .int .u32 ao, rho_ tb0_ ap, .int .i64 aq, .int .u32 ar, .bool au, rho_ tb0_ av, rho_ tb0_ aw, .int .i64 ae, .int .i64 ax, .int .i64 am, .int .i64 ay, .int .i64 az, .int .u64 aA, .bool aC, rho_ tb0_ aD, .int .i64 aE, .int .i64 aG, .int .i64 aH, .int .i64 aI] 41 (0, 0)) (bk_ aa) hg (Kd.R_ne a6.out aa.out (by decide))); replace ab := Aside0.mk (blk_grown (g := aP) (o := .cells #[.int .i64 0, .int .u32 0, rho_ tb0_ 0, .int .i64 0, .int .u32 0, .bool false, rho_ tb0_ 0, rho_ tb0_ 0, .int .i64 1, .int .i64 (Int.tmod (wrap64 (a2)) ad), .int .i64 0, .int .i64 0, .int .i64 0, .int .u64 0, .bool false, rho_ tb0_ 0, .int .i64 0, .int .i64 0, .int .i64 0, .int .i64 0] 41 (0, 0)) (bk_ ab) hg (Kd.R_ne a6.out ab.out (by decide))); replace HB := Aside0.mk (hb); have fj := Aside0.mk (ho); clear a6 ho hb hg hat) | (go_at_call 12; (with_reducible refine (lodgerref06_Leaves.calls kj45 aX cg _ A61.out).mono ?_); rintro e w' ⟨rfl, ⟨nd, rfl⟩⟩; (try first | exact ⟨rfl, _, World.drewN_drewN _ _ _⟩ | exact ⟨rfl, _, Eq.trans (World.drewN_drewN _ _ _) (congrArg (World.drewN _) (Nat.add_assoc _ _ _))⟩))))
            go_loopg [13] kj45 (fun kq v13 w' => ∃ (a5 : List Int) (a1 : Int), v13 = .int .i64 a1 ∧ Aside0 (lodgerlaw15_SeekFull.l1 kq aX a5 a1 af ag ah ad aj ak al 0 0 0 0 0 false 0 0 1 (Int.tmod (wrap64 (a2)) ad) 0 0 0 0 false 0 0 0 0 0 = some r) ∧ Aside0 (kq ≤ kj45) ∧ Aside0 (Kd.R (Kd.int .u64) 39 w' w.heap.size (fun _ => True) v349 a5) ∧ Aside0 (w'.heap[aQ]? = some (.cells #[.int .u32 af, .int .i64 ag, (.slice a3 ah.length a4), .int .i64 ad, .int .i64 aj, .int .i64 ak, .int .i64 al] 27 (0, 0))) ∧ Aside0 (w'.heap[aM]? = some (.cells #[.int .i64 an, .int .u32 ao, rho_ tb0_ ap, .int .i64 aq, .int .u32 ar, .bool au, rho_ tb0_ av, rho_ tb0_ aw, .int .i64 ae, .int .i64 ax, .int .i64 am, .int .i64 ay, .int .i64 az, .int .u64 aA, .bool aC, rho_ tb0_ aD, .int .i64 aE, .int .i64 aG, .int .i64 aH, .int .i64 aI] 41 (0, 0))) ∧ Aside0 (w'.heap[aP]? = some (.cells #[.int .i64 0, .int .u32 0, rho_ tb0_ 0, .int .i64 0, .int .u32 0, .bool false, rho_ tb0_ 0, rho_ tb0_ 0, .int .i64 1, .int .i64 (Int.tmod (wrap64 (a2)) ad), .int .i64 0, .int .i64 0, .int .i64 0, .int .u64 0, .bool false, rho_ tb0_ 0, .int .i64 0, .int .i64 0, .int .i64 0, .int .i64 0] 41 (0, 0))) ∧ Aside0 (Below w.heap.size w w'))
            case atStart => exact ⟨(fp), (cg), rs_, H', ⟨Nat.le_refl _⟩, ⟨rR_ fj⟩, ⟨bk_ ac⟩, ⟨bk_ aa⟩, ⟨bk_ ab⟩, ⟨hB_ HB⟩⟩
            case round =>
             clear H'
             try clear c1
             try clear c2
             try clear p2
             try clear c3
             try clear c4
             try clear c5
             try clear c6
             try clear p6
             try clear c7
             try clear c13
             try clear c18
             try clear el
             try clear em
             try clear c24
             try clear c27
             try clear c28
             try clear c30
             try clear en
             try clear c31
             try clear eo
             try clear ep
             try clear c33
             try clear c34
             try clear c36
             try clear c41
             try clear c42
             try clear c44
             try clear c47
             try clear c48
             try clear c50
             try clear ch
             try clear er
             try clear c51
             try clear c52
             try clear c54
             try clear c56
             try clear c57
             try clear c59
             try clear c60
             try clear p64
             try clear bq br bs bt bu bv bw
             try clear cr ct cu cv cw cx cy
             try clear bP bQ bR bS bT bU bV
             try clear bx bz bW bX
             try clear bA bB bY bZ
             try clear c0 c8 c9 da db dc dd
             try clear cG cH de df
             try clear cb cc cl cm
             try clear dg dh di dj dk dl dm
             try clear cI cJ dn dp
             try clear dq dr dt du dv dw dx
             try clear cK cL dy dz
             try clear dA dB dC dD dE dF dG
             try clear cM cN dH dI
             try clear bC bD bE bF bG bH bI
             try clear cz cA cB cC cD cE cF
             try clear b0 b1 b2 b3 b4 b5 b6
             try clear bJ bK b7 b8
             try clear bL bM b9 ca
             try clear dJ dK dL dM dN dO dP
             try clear cO cP dQ dR
             try clear cd ce cn co
             try clear dS dT dU dV dW dX dY
             try clear cQ cR dZ d0
             try clear d1 d2 d3 d4 d5 d6 d7
             try clear cS cT d8 d9
             try clear ea eb ec ed ee ef eg
             try clear cU cV eh ei
             try clear p2
             try clear p6
             obtain ⟨a5, a1, rfl, HA, HK4, ai, ac, aa, ab, HB⟩ := hrel
             cases gk with
             | zero => exact absurd HA.out (by simp [lodgerlaw15_SeekFull.l1])
             | succ k4 =>
              have H := HA.out; clear HA; simp only [lodgerlaw15_SeekFull.l1] at H
              by_cases c65 : a1 < (a5.length : Int)
              ·rw [if_pos c65] at H
               have fw : decide (a1 < (a5.length : Int)) = true := decide_eq_true c65
               clear c65
               by_cases c66 : 0 ≤ a1
               ·rw [if_pos c66] at H
                have fF : decide (0 ≤ a1) = true := decide_eq_true c66
                clear c66; obtain ⟨fc, hy352⟩ : ∃ y_ : List Int, y_ = (a5.set (a1 : Int).toNat 0) := ⟨_, rfl⟩
                replace H : (lodgerlaw15_SeekFull.l1 k4 aX fc (wrap64 (a1 + 1)) af ag ah ad aj ak al 0 0 0 0 0 false 0 0 1 (Int.tmod (wrap64 (a2)) ad) 0 0 0 0 false 0 0 0 0 0) = some r := rp_ hy352 H
                have Ny352 := Aside0.mk hy352; clear hy352
                have H' := Aside0.mk H
                clear H; obtain ⟨hR, fo, eo68⟩ := Kd.R_slice ai.out; subst eo68
                have p67 : 0 ≤ (a1 : Int) := od_
                have q67 : (a1 : Int) < ((a5.length : Int) : Int) := od_
                obtain ⟨go67, hT, eo67, fE, gl67, cl67, HG67⟩ := Kd.R_form ai.out (by omega)
                (first | cases eo67 | (injection eo67 with ea_ en_ ec_; (first | subst ea_ | (injection ea_ with ea_; subst ea_)); subst ec_; clear en_))
                have GB67 := Aside0.mk fE; have GG67 := Aside0.mk HG67; clear fE gl67 HG67; obtain ⟨hx67_0, hf67_0⟩ := Kd.R_celln 0 ai.out (a1 : Int) p67 q67; replace p67 := eq_true p67; replace q67 := eq_true q67; have HP69 := Kd.R_putg ai.out (a1 : Int) 0
                go_wp2_with (first | ((with_reducible refine gd_ 40 ?_); first | refine ld_ aa hu41 ?_ | refine ldS_ aa hu41 ?_) | ((with_reducible refine gd_ 52 ?_); first | refine ld_ aa hu41 ?_ | refine ldS_ aa hu41 ?_) | ((with_reducible refine gd_ 93 ?_); first | refine ld_ ab hu41 ?_ | refine ldS_ ab hu41 ?_) | ((with_reducible refine gs_ (ty := 41) rfl ?_); refine st_ aa ?_) | ((with_reducible refine gs_ (ty := 41) rfl ?_); refine st_ ab ?_) | ((with_reducible refine gate_store (t := 39) (p := 77) rfl ?_); (try (rw [drewN_self wr]; generalize hq_ : World.drewN wr _ = wr; have n0_ := Aside0.mk (Kd.R_at hq_ ai.out); have n1_ := Aside0.mk (blk_at hq_ ac.out); have n2_ := Aside0.mk (blk_at hq_ aa.out); have n3_ := Aside0.mk (blk_at hq_ ab.out); have n4_ := Aside0.mk (below_at hq_ HB.out); clear hq_ ai ac aa ab HB; have ai := n0_; have ac := n1_; have aa := n2_; have ab := n3_; have HB := n4_; clear n0_ n1_ n2_ n3_ n4_; (try (have HP69 := Kd.R_putg ai.out (a1 : Int) 0)))); refine store_event (t := 39) (p := 77) (v := ?vo_w70) (w1 := (wr.setCell ⟨go67, (a1 : Int).toNat, none⟩ (.int .u64 0))) ?hg ?ho ?hn ?hr ?_; (case ho => rfl); (case hg => rfl); (case hn => rfl); (case hr => first | (go_simp; done) | (go_simp; rfl)); intro w70 hw; have hg : wr.grownBy w70 (some go67) := (by rw [hw]; exact HP69.2); have hp_ : Kd.R (Kd.int .u64) 39 w70 w.heap.size (fun _ => True) (.slice (some ⟨go67, 0, none⟩) a5.length fo) fc := (by rw [hw, Ny352.out]; exact HP69.1); clear HP69; have n0_ := Aside0.mk (hp_); have n1_ := Aside0.mk (blk_grown (g := aQ) (o := .cells #[.int .u32 af, .int .i64 ag, .slice a3 ah.length a4, .int .i64 ad, .int .i64 aj, .int .i64 ak, .int .i64 al] 27 (0, 0)) (bk_ ac) hg (Kd.R_ne ai.out ac.out (by decide))); have n2_ := Aside0.mk (blk_grown (g := aM) (o := .cells #[.int .i64 an, .int .u32 ao, rho_ tb0_ ap, .int .i64 aq, .int .u32 ar, .bool au, rho_ tb0_ av, rho_ tb0_ aw, .int .i64 ae, .int .i64 ax, .int .i64 am, .int .i64 ay, .int .i64 az, .int .u64 aA, .bool aC, rho_ tb0_ aD, .int .i64 aE, .int .i64 aG, .int .i64 aH, .int .i64 aI] 41 (0, 0)) (bk_ aa) hg (Kd.R_ne ai.out aa.out (by decide))); have n3_ := Aside0.mk (blk_grown (g := aP) (o := .cells #[.int .i64 0, .int .u32 0, rho_ tb0_ 0, .int .i64 0, .int .u32 0, .bool false, rho_ tb0_ 0, rho_ tb0_ 0, .int .i64 1, .int .i64 (Int.tmod (wrap64 (a2)) ad), .int .i64 0, .int .i64 0, .int .i64 0, .int .u64 0, .bool false, rho_ tb0_ 0, .int .i64 0, .int .i64 0, .int .i64 0, .int .i64 0] 41 (0, 0)) (bk_ ab) hg (Kd.R_ne ai.out ab.out (by decide))); have n4_ := Aside0.mk ((by rw [hw]; exact below_set (HB.out) GB67.out : Below w.heap.size w w70)); clear ai ac aa ab HB; have ai := n0_; have ac := n1_; have aa := n2_; have ab := n3_; have HB := n4_; clear n0_ n1_ n2_ n3_ n4_ hg hw hp_))
                repeat (go_quiet (first | ((with_reducible refine gate_store (t := 39) (p := 77) rfl ?_); (try (rw [drewN_self wr]; generalize hq_ : World.drewN wr _ = wr; have n0_ := Aside0.mk (Kd.R_at hq_ ai.out); have n1_ := Aside0.mk (blk_at hq_ ac.out); have n2_ := Aside0.mk (blk_at hq_ aa.out); have n3_ := Aside0.mk (blk_at hq_ ab.out); have n4_ := Aside0.mk (below_at hq_ HB.out); clear hq_ ai ac aa ab HB; have ai := n0_; have ac := n1_; have aa := n2_; have ab := n3_; have HB := n4_; clear n0_ n1_ n2_ n3_ n4_; (try (have HP69 := Kd.R_putg ai.out (a1 : Int) 0)))); refine store_event (t := 39) (p := 77) (v := ?vo_w70) (w1 := (wr.setCell ⟨go67, (a1 : Int).toNat, none⟩ (.int .u64 0))) ?hg ?ho ?hn ?hr ?_; (case ho => rfl); (case hg => rfl); (case hn => rfl); (case hr => first | (go_simp; done) | (go_simp; rfl)); intro w70 hw; have hg : wr.grownBy w70 (some go67) := (by rw [hw]; exact HP69.2); have hp_ : Kd.R (Kd.int .u64) 39 w70 w.heap.size (fun _ => True) (.slice (some ⟨go67, 0, none⟩) a5.length fo) fc := (by rw [hw, Ny352.out]; exact HP69.1); clear HP69; have n0_ := Aside0.mk (hp_); have n1_ := Aside0.mk (blk_grown (g := aQ) (o := .cells #[.int .u32 af, .int .i64 ag, .slice a3 ah.length a4, .int .i64 ad, .int .i64 aj, .int .i64 ak, .int .i64 al] 27 (0, 0)) (bk_ ac) hg (Kd.R_ne ai.out ac.out (by decide))); have n2_ := Aside0.mk (blk_grown (g := aM) (o := .cells #[.int .i64 an, .int .u32 ao, rho_ tb0_ ap, .int .i64 aq, .int .u32 ar, .bool au, rho_ tb0_ av, rho_ tb0_ aw, .int .i64 ae, .int .i64 ax, .int .i64 am, .int .i64 ay, .int .i64 az, .int .u64 aA, .bool aC, rho_ tb0_ aD, .int .i64 aE, .int .i64 aG, .int .i64 aH, .int .i64 aI] 41 (0, 0)) (bk_ aa) hg (Kd.R_ne ai.out aa.out (by decide))); have n3_ := Aside0.mk (blk_grown (g := aP) (o := .cells #[.int .i64 0, .int .u32 0, rho_ tb0_ 0, .int .i64 0, .int .u32 0, .bool false, rho_ tb0_ 0, rho_ tb0_ 0, .int .i64 1, .int .i64 (Int.tmod (wrap64 (a2)) ad), .int .i64 0, .int .i64 0, .int .i64 0, .int .u64 0, .bool false, rho_ tb0_ 0, .int .i64 0, .int .i64 0, .int .i64 0, .int .i64 0] 41 (0, 0)) (bk_ ab) hg (Kd.R_ne ai.out ab.out (by decide))); have n4_ := Aside0.mk ((by rw [hw]; exact below_set (HB.out) GB67.out : Below w.heap.size w w70)); clear ai ac aa ab HB; have ai := n0_; have ac := n1_; have aa := n2_; have ab := n3_; have HB := n4_; clear n0_ n1_ n2_ n3_ n4_ hg hw hp_)); try go_wp2_with (first | ((with_reducible refine gd_ 40 ?_); first | refine ld_ aa hu41 ?_ | refine ldS_ aa hu41 ?_) | ((with_reducible refine gd_ 52 ?_); first | refine ld_ aa hu41 ?_ | refine ldS_ aa hu41 ?_) | ((with_reducible refine gd_ 93 ?_); first | refine ld_ ab hu41 ?_ | refine ldS_ ab hu41 ?_) | ((with_reducible refine gs_ (ty := 41) rfl ?_); refine st_ aa ?_) | ((with_reducible refine gs_ (ty := 41) rfl ?_); refine st_ ab ?_) | ((with_reducible refine gate_store (t := 39) (p := 77) rfl ?_); (try (rw [drewN_self wr]; generalize hq_ : World.drewN wr _ = wr; have n0_ := Aside0.mk (Kd.R_at hq_ ai.out); have n1_ := Aside0.mk (blk_at hq_ ac.out); have n2_ := Aside0.mk (blk_at hq_ aa.out); have n3_ := Aside0.mk (blk_at hq_ ab.out); have n4_ := Aside0.mk (below_at hq_ HB.out); clear hq_ ai ac aa ab HB; have ai := n0_; have ac := n1_; have aa := n2_; have ab := n3_; have HB := n4_; clear n0_ n1_ n2_ n3_ n4_; (try (have HP69 := Kd.R_putg ai.out (a1 : Int) 0)))); refine store_event (t := 39) (p := 77) (v := ?vo_w70) (w1 := (wr.setCell ⟨go67, (a1 : Int).toNat, none⟩ (.int .u64 0))) ?hg ?ho ?hn ?hr ?_; (case ho => rfl); (case hg => rfl); (case hn => rfl); (case hr => first | (go_simp; done) | (go_simp; rfl)); intro w70 hw; have hg : wr.grownBy w70 (some go67) := (by rw [hw]; exact HP69.2); have hp_ : Kd.R (Kd.int .u64) 39 w70 w.heap.size (fun _ => True) (.slice (some ⟨go67, 0, none⟩) a5.length fo) fc := (by rw [hw, Ny352.out]; exact HP69.1); clear HP69; have n0_ := Aside0.mk (hp_); have n1_ := Aside0.mk (blk_grown (g := aQ) (o := .cells #[.int .u32 af, .int .i64 ag, .slice a3 ah.length a4, .int .i64 ad, .int .i64 aj, .int .i64 ak, .int .i64 al] 27 (0, 0)) (bk_ ac) hg (Kd.R_ne ai.out ac.out (by decide))); have n2_ := Aside0.mk (blk_grown (g := aM) (o := .cells #[.int .i64 an, .int .u32 ao, rho_ tb0_ ap, .int .i64 aq, .int .u32 ar, .bool au, rho_ tb0_ av, rho_ tb0_ aw, .int .i64 ae, .int .i64 ax, .int .i64 am, .int .i64 ay, .int .i64 az, .int .u64 aA, .bool aC, rho_ tb0_ aD, .int .i64 aE, .int .i64 aG, .int .i64 aH, .int .i64 aI] 41 (0, 0)) (bk_ aa) hg (Kd.R_ne ai.out aa.out (by decide))); have n3_ := Aside0.mk (blk_grown (g := aP) (o := .cells #[.int .i64 0, .int .u32 0, rho_ tb0_ 0, .int .i64 0, .int .u32 0, .bool false, rho_ tb0_ 0, rho_ tb0_ 0, .int .i64 1, .int .i64 (Int.tmod (wrap64 (a2)) ad), .int .i64 0, .int .i64 0, .int .i64 0, .int .u64 0, .bool false, rho_ tb0_ 0, .int .i64 0, .int .i64 0, .int .i64 0, .int .i64 0] 41 (0, 0)) (bk_ ab) hg (Kd.R_ne ai.out ab.out (by decide))); have n4_ := Aside0.mk ((by rw [hw]; exact below_set (HB.out) GB67.out : Below w.heap.size w w70)); clear ai ac aa ab HB; have ai := n0_; have ac := n1_; have aa := n2_; have ab := n3_; have HB := n4_; clear n0_ n1_ n2_ n3_ n4_ hg hw hp_)))
                go_roundg k4
                case measure => have := ek.out; have := HK2.out; have := fi.out; have := HK4.out; omega
                case rel => exact ⟨(fc), (wrap64 (a1 + 1)), rs_, H', ⟨by have := ek.out; have := HK2.out; have := fi.out; have := HK4.out; omega⟩, ⟨rR_ ai⟩, ⟨bk_ ac⟩, ⟨bk_ aa⟩, ⟨bk_ ab⟩, ⟨hB_ HB⟩⟩
               ·rw [if_neg c66] at H
                exact absurd H (by simp)
              ·rw [if_neg c65] at H
               have fw : decide (a1 < (a5.length : Int)) = false := decide_eq_false c65
               clear c65
               have H' := Aside0.mk H
               clear H; obtain ⟨fN, fO, eo71⟩ := Kd.R_slice ai.out; subst eo71
               go_wp2
               repeat (go_quiet (fail); try go_wp2)
               go_loopg [14] k4 (fun kq v14 w' => ∃ (cj a7 : Int) (a8 a9 : Int) (ba bb : Int) (bc : Bool) (bd be : Int) (aJ aT : Int) (aU aN : Int) (bf bg : Int) (bh : Bool) (bi bj : Int) (bk bl bm : Int), v14 = .int .i64 cj ∧ Aside0 (lodgerlaw15_SeekFull.l2 kq aX a5 cj af ag ah ad aj ak al a7 a8 a9 ba bb bc bd be aJ aT aU aN bf bg bh bi bj bk bl bm = some r) ∧ Aside0 (kq ≤ k4) ∧ Aside0 (Kd.R (Kd.int .u64) 39 w' w.heap.size (fun _ => True) (.slice fN a5.length fO) a5) ∧ Aside0 (w'.heap[aQ]? = some (.cells #[.int .u32 af, .int .i64 ag, (.slice a3 ah.length a4), .int .i64 ad, .int .i64 aj, .int .i64 ak, .int .i64 al] 27 (0, 0))) ∧ Aside0 (w'.heap[aM]? = some (.cells #[.int .i64 an, .int .u32 ao, rho_ tb0_ ap, .int .i64 aq, .int .u32 ar, .bool au, rho_ tb0_ av, rho_ tb0_ aw, .int .i64 ae, .int .i64 ax, .int .i64 am, .int .i64 ay, .int .i64 az, .int .u64 aA, .bool aC, rho_ tb0_ aD, .int .i64 aE, .int .i64 aG, .int .i64 aH, .int .i64 aI] 41 (0, 0))) ∧ Aside0 (w'.heap[aP]? = some (.cells #[.int .i64 a7, .int .u32 a8, rho_ tb0_ a9, .int .i64 ba, .int .u32 bb, .bool bc, rho_ tb0_ bd, rho_ tb0_ be, .int .i64 aJ, .int .i64 aT, .int .i64 aU, .int .i64 aN, .int .i64 bf, .int .u64 bg, .bool bh, rho_ tb0_ bi, .int .i64 bj, .int .i64 bk, .int .i64 bl, .int .i64 bm] 41 (0, 0))) ∧ Aside0 (Below w.heap.size w w'))
               case atStart => exact ⟨(0), (0), (0), (0), (0), (0), (false), (0), (0), (1), ((Int.tmod (wrap64 (a2)) ad)), (0), (0), (0), (0), (false), (0), (0), (0), (0), (0), rs_, H', ⟨Nat.le_refl _⟩, ⟨rR_ ai⟩, ⟨bk_ ac⟩, ⟨bk_ aa⟩, ⟨bk_ ab⟩, ⟨hB_ HB⟩⟩
               case round =>
                clear H'
                try clear c1
                try clear c2
                try clear p2
                try clear c3
                try clear c4
                try clear c5
                try clear c6
                try clear p6
                try clear q6
                try clear hx6
                try clear hf6
                try clear c7
                try clear c13
                try clear c18
                try clear el
                try clear em
                try clear c24
                try clear c27
                try clear c28
                try clear c30
                try clear en
                try clear c31
                try clear eo
                try clear ep
                try clear c33
                try clear c34
                try clear c36
                try clear c41
                try clear c42
                try clear c44
                try clear c47
                try clear c48
                try clear c50
                try clear ch
                try clear er
                try clear c51
                try clear c52
                try clear c54
                try clear c56
                try clear c57
                try clear c59
                try clear c60
                try clear p64
                try clear c65
                try clear fw
                try clear c66
                try clear fF
                try clear p67
                try clear q67
                try clear hx67
                try clear hf67
                try clear bq br bs bt bu bv bw
                try clear cr ct cu cv cw cx cy
                try clear bP bQ bR bS bT bU bV
                try clear bx bz bW bX
                try clear bA bB bY bZ
                try clear c0 c8 c9 da db dc dd
                try clear cG cH de df
                try clear cb cc cl cm
                try clear dg dh di dj dk dl dm
                try clear cI cJ dn dp
                try clear dq dr dt du dv dw dx
                try clear cK cL dy dz
                try clear dA dB dC dD dE dF dG
                try clear cM cN dH dI
                try clear bC bD bE bF bG bH bI
                try clear cz cA cB cC cD cE cF
                try clear b0 b1 b2 b3 b4 b5 b6
                try clear bJ bK b7 b8
                try clear bL bM b9 ca
                try clear dJ dK dL dM dN dO dP
                try clear cO cP dQ dR
                try clear cd ce cn co
                try clear dS dT dU dV dW dX dY
                try clear cQ cR dZ d0
                try clear d1 d2 d3 d4 d5 d6 d7
                try clear cS cT d8 d9
                try clear ea eb ec ed ee ef eg
                try clear cU cV eh ei
                try clear hx67_0
                try clear p2
                try clear p6
                try clear p64
                try clear p67
                try clear q67
                obtain ⟨cj, a7, a8, a9, ba, bb, bc, bd, be, aJ, aT, aU, aN, bf, bg, bh, bi, bj, bk, bl, bm, rfl, HA, HK5, ai, ac, aa, ab, HB⟩ := hrel
                cases gk with
                | zero => exact absurd HA.out (by simp [lodgerlaw15_SeekFull.l2])
                | succ k5 =>
                 have H := HA.out; clear HA; simp only [lodgerlaw15_SeekFull.l2] at H
                 by_cases c72 : cj < (wrap64 ((wrap64 (2 * ad)) + 2))
                 ·rw [if_pos c72] at H
                  have fG : decide (cj < (wrap64 ((wrap64 (2 * ad)) + 2))) = true := decide_eq_true c72
                  clear c72
                  by_cases c73 : aJ = 1
                  ·rw [if_pos c73] at H
                   have fH : (aJ == 1) = true := beq_iff_eq.mpr c73
                   have fI : (aJ != 1) = false := bne_eq_false_iff_eq.mpr c73
                   clear c73; replace H := bi_ H; obtain ⟨⟨eS, eT, eU, eV, eW, eX, eY, eZ, e0, e1, e2, e3, e4, e5, e6, e7, e8, e9, fa, fb⟩, A740, H⟩ := H
                   replace H : (lodgerlaw15_SeekFull.l2 k5 aX a5 (wrap64 (cj + 1)) af ag ah ad aj ak al eS eT eU eV eW eX eY eZ e0 e1 e2 e3 e4 e5 e6 e7 e8 e9 fa fb) = some r := H
                   have A74 := Aside0.mk A740; clear A740
                   have H' := Aside0.mk H
                   clear H; have hm := aK.out; have hK := aY.out; have hq := aV.out; have hL := a0.out; obtain ⟨gg, gh, gi, gj, gl, gm, gn, gz, gA, gB, gC, gD, gE, gF⟩ := cz7_ (w := wr) ac; have hs := aZ.out; have hM := aW.out; obtain ⟨go, gG⟩ := c20_8 (w := wr) ab; obtain ⟨gp, gH⟩ := c20_9 (w := wr) ab; obtain ⟨fY, gb⟩ := c20_10 (w := wr) ab; obtain ⟨fZ, gc⟩ := c20_11 (w := wr) ab
                   go_wp2_with (first | ((with_reducible refine gd_ 40 ?_); first | refine ld_ aa hu41 ?_ | refine ldS_ aa hu41 ?_) | ((with_reducible refine gd_ 52 ?_); first | refine ld_ aa hu41 ?_ | refine ldS_ aa hu41 ?_) | ((with_reducible refine gd_ 93 ?_); first | refine ld_ ab hu41 ?_ | refine ldS_ ab hu41 ?_) | ((with_reducible refine gs_ (ty := 41) rfl ?_); refine st_ aa ?_) | ((with_reducible refine gs_ (ty := 41) rfl ?_); refine st_ ab ?_) | (go_at_call 11; (with_reducible refine (seek_Step.calls k5 af ag _ _ ah ad aj ak al _ _ a5 a7 a8 a9 ba bb bc bd be aJ aT aU aN bf bg bh bi bj bk bl bm eS eT eU eV eW eX eY eZ e0 e1 e2 e3 e4 e5 e6 e7 e8 e9 fa fb _ (cC_ bO HB) bN.out (cD_ (Kd.R_reads' ai.out).2.2) ((Kd.R_reads' ai.out).2.1) A74.out).mono ?_); rintro e w80 ⟨rfl, hb⟩; replace ai := rB_ ai hb; replace aa := Aside0.mk (blk_below (g := aM) (o := .cells #[.int .i64 an, .int .u32 ao, rho_ tb0_ ap, .int .i64 aq, .int .u32 ar, .bool au, rho_ tb0_ av, rho_ tb0_ aw, .int .i64 ae, .int .i64 ax, .int .i64 am, .int .i64 ay, .int .i64 az, .int .u64 aA, .bool aC, rho_ tb0_ aD, .int .i64 aE, .int .i64 aG, .int .i64 aH, .int .i64 aI] 41 (0, 0)) (bk_ aa) hb); replace ab := Aside0.mk (blk_below (g := aP) (o := .cells #[.int .i64 a7, .int .u32 a8, rho_ tb0_ a9, .int .i64 ba, .int .u32 bb, .bool bc, rho_ tb0_ bd, rho_ tb0_ be, .int .i64 aJ, .int .i64 aT, .int .i64 aU, .int .i64 aN, .int .i64 bf, .int .u64 bg, .bool bh, rho_ tb0_ bi, .int .i64 bj, .int .i64 bk, .int .i64 bl, .int .i64 bm] 41 (0, 0)) (bk_ ab) hb); replace ac := bB_ ac hb; replace HB := hS_ HB hb; (try clear hb); obtain ⟨fe, fg⟩ := c20_8 (w := w80) ab; obtain ⟨ff, fh⟩ := c20_9 (w := w80) ab; obtain ⟨eu, ew⟩ := c20_10 (w := w80) ab; obtain ⟨ev, ex⟩ := c20_11 (w := w80) ab))
                   repeat (go_quiet (first | (go_at_call 11; (with_reducible refine (seek_Step.calls k5 af ag _ _ ah ad aj ak al _ _ a5 a7 a8 a9 ba bb bc bd be aJ aT aU aN bf bg bh bi bj bk bl bm eS eT eU eV eW eX eY eZ e0 e1 e2 e3 e4 e5 e6 e7 e8 e9 fa fb _ (cC_ bO HB) bN.out (cD_ (Kd.R_reads' ai.out).2.2) ((Kd.R_reads' ai.out).2.1) A74.out).mono ?_); rintro e w80 ⟨rfl, hb⟩; replace ai := rB_ ai hb; replace aa := Aside0.mk (blk_below (g := aM) (o := .cells #[.int .i64 an, .int .u32 ao, rho_ tb0_ ap, .int .i64 aq, .int .u32 ar, .bool au, rho_ tb0_ av, rho_ tb0_ aw, .int .i64 ae, .int .i64 ax, .int .i64 am, .int .i64 ay, .int .i64 az, .int .u64 aA, .bool aC, rho_ tb0_ aD, .int .i64 aE, .int .i64 aG, .int .i64 aH, .int .i64 aI] 41 (0, 0)) (bk_ aa) hb); replace ab := Aside0.mk (blk_below (g := aP) (o := .cells #[.int .i64 a7, .int .u32 a8, rho_ tb0_ a9, .int .i64 ba, .int .u32 bb, .bool bc, rho_ tb0_ bd, rho_ tb0_ be, .int .i64 aJ, .int .i64 aT, .int .i64 aU, .int .i64 aN, .int .i64 bf, .int .u64 bg, .bool bh, rho_ tb0_ bi, .int .i64 bj, .int .i64 bk, .int .i64 bl, .int .i64 bm] 41 (0, 0)) (bk_ ab) hb); replace ac := bB_ ac hb; replace HB := hS_ HB hb; (try clear hb); obtain ⟨fe, fg⟩ := c20_8 (w := w80) ab; obtain ⟨ff, fh⟩ := c20_9 (w := w80) ab; obtain ⟨eu, ew⟩ := c20_10 (w := w80) ab; obtain ⟨ev, ex⟩ := c20_11 (w := w80) ab)); try go_wp2_with (first | ((with_reducible refine gd_ 40 ?_); first | refine ld_ aa hu41 ?_ | refine ldS_ aa hu41 ?_) | ((with_reducible refine gd_ 52 ?_); first | refine ld_ aa hu41 ?_ | refine ldS_ aa hu41 ?_) | ((with_reducible refine gd_ 93 ?_); first | refine ld_ ab hu41 ?_ | refine ldS_ ab hu41 ?_) | ((with_reducible refine gs_ (ty := 41) rfl ?_); refine st_ aa ?_) | ((with_reducible refine gs_ (ty := 41) rfl ?_); refine st_ ab ?_) | (go_at_call 11; (with_reducible refine (seek_Step.calls k5 af ag _ _ ah ad aj ak al _ _ a5 a7 a8 a9 ba bb bc bd be aJ aT aU aN bf bg bh bi bj bk bl bm eS eT eU eV eW eX eY eZ e0 e1 e2 e3 e4 e5 e6 e7 e8 e9 fa fb _ (cC_ bO HB) bN.out (cD_ (Kd.R_reads' ai.out).2.2) ((Kd.R_reads' ai.out).2.1) A74.out).mono ?_); rintro e w80 ⟨rfl, hb⟩; replace ai := rB_ ai hb; replace aa := Aside0.mk (blk_below (g := aM) (o := .cells #[.int .i64 an, .int .u32 ao, rho_ tb0_ ap, .int .i64 aq, .int .u32 ar, .bool au, rho_ tb0_ av, rho_ tb0_ aw, .int .i64 ae, .int .i64 ax, .int .i64 am, .int .i64 ay, .int .i64 az, .int .u64 aA, .bool aC, rho_ tb0_ aD, .int .i64 aE, .int .i64 aG, .int .i64 aH, .int .i64 aI] 41 (0, 0)) (bk_ aa) hb); replace ab := Aside0.mk (blk_below (g := aP) (o := .cells #[.int .i64 a7, .int .u32 a8, rho_ tb0_ a9, .int .i64 ba, .int .u32 bb, .bool bc, rho_ tb0_ bd, rho_ tb0_ be, .int .i64 aJ, .int .i64 aT, .int .i64 aU, .int .i64 aN, .int .i64 bf, .int .u64 bg, .bool bh, rho_ tb0_ bi, .int .i64 bj, .int .i64 bk, .int .i64 bl, .int .i64 bm] 41 (0, 0)) (bk_ ab) hb); replace ac := bB_ ac hb; replace HB := hS_ HB hb; (try clear hb); obtain ⟨fe, fg⟩ := c20_8 (w := w80) ab; obtain ⟨ff, fh⟩ := c20_9 (w := w80) ab; obtain ⟨eu, ew⟩ := c20_10 (w := w80) ab; obtain ⟨ev, ex⟩ := c20_11 (w := w80) ab)))
                   go_roundg k5
                   case measure => have := ek.out; have := HK2.out; have := fi.out; have := HK4.out; have := HK5.out; omega
                   case rel => exact ⟨(wrap64 (cj + 1)), (eS), (eT), (eU), (eV), (eW), (eX), (eY), (eZ), (e0), (e1), (e2), (e3), (e4), (e5), (e6), (e7), (e8), (e9), (fa), (fb), rs_, H', ⟨by have := ek.out; have := HK2.out; have := fi.out; have := HK4.out; have := HK5.out; omega⟩, ⟨by (with_reducible repeat (first | apply Kd.R_alloc | apply Kd.R_drewN | apply Kd.R_drew)); exact Kd.R_mono (rF20_ (g := aP) (Kd.R_types ai.out ab.out (by decide)) (fun _ hk => hk.2)) (fun _ hk => trivial)⟩, ⟨by refine bp_ ?_; refine bF20_ ?_ aV.out; refine bp_ ?_; exact ac.out⟩, ⟨by refine bp_ ?_; refine bF20_ ?_ aW.out; refine bp_ ?_; exact aa.out⟩, ⟨by refine bp_ ?_; apply bS20_; refine bp_ ?_; exact ab.out⟩, ⟨hB_ HB⟩⟩
                  ·rw [if_neg c73] at H
                   have fH : (aJ == 1) = false := beq_eq_false_iff_ne.mpr c73
                   have fI : (aJ != 1) = true := bne_iff_ne.mpr c73
                   replace H := bi_ H; obtain ⟨cW, A820, H⟩ := H
                   replace H : ((lodgerref12_Range.f k5 aX ad cW).bind fun bt374 => (if aJ = 2 then (if aN = bt374.1 then (some (decide (bt374.1 < bt374.2))) else (some false)) else (some false))) = some r := H
                   have A82 := Aside0.mk A820; clear A820; replace H := bi_ H; obtain ⟨⟨cp, fl⟩, A830, H⟩ := H
                   replace H : (if aJ = 2 then (if aN = cp then (some (decide (cp < fl))) else (some false)) else (some false)) = some r := H
                   have A83 := Aside0.mk A830; clear A830
                   by_cases c84 : aJ = 2
                   ·rw [if_pos c84] at H
                    have g1 : (aJ == 2) = true := beq_iff_eq.mpr c84
                    have g2 : (aJ != 2) = false := bne_eq_false_iff_eq.mpr c84
                    clear c84
                    by_cases c85 : aN = cp
                    ·rw [if_pos c85] at H
                     have g3 : (aN == cp) = true := beq_iff_eq.mpr c85
                     have g4 : (aN != cp) = false := bne_eq_false_iff_eq.mpr c85
                     clear c85
                     first | (exfalso; rw [hr_.out] at H; exact absurd (Option.some.inj H) (by decide)) | (try clear hr_)
                     all_goals
                      obtain rfl := Option.some.inj H
                      have ht := aK.out; have hN := aY.out; have hu := aV.out; have hO := a0.out; obtain ⟨gq, gr, gs, gt, gu, gv, gw, gI, gJ, gK, gL, gM, gN, gO⟩ := cz7_ (w := wr) ac; have hv := aZ.out; have hP := aW.out; obtain ⟨gx, gP⟩ := c20_8 (w := wr) ab; obtain ⟨gy, gQ⟩ := c20_9 (w := wr) ab; obtain ⟨f0, gd⟩ := c20_10 (w := wr) ab; obtain ⟨f1, gf⟩ := c20_11 (w := wr) ab
                      go_wp2_with (first | ((with_reducible refine gd_ 40 ?_); first | refine ld_ aa hu41 ?_ | refine ldS_ aa hu41 ?_) | ((with_reducible refine gd_ 52 ?_); first | refine ld_ aa hu41 ?_ | refine ldS_ aa hu41 ?_) | ((with_reducible refine gd_ 93 ?_); first | refine ld_ ab hu41 ?_ | refine ldS_ ab hu41 ?_) | ((with_reducible refine gs_ (ty := 41) rfl ?_); refine st_ aa ?_) | ((with_reducible refine gs_ (ty := 41) rfl ?_); refine st_ ab ?_) | (go_at_call 17; (with_reducible refine (lodgerref12_Rest.calls (wrap64 (aT + aU)) ad cW _ A82.out).mono ?_); rintro e w' ⟨rfl, ⟨nd, rfl⟩⟩; (try first | exact ⟨rfl, _, World.drewN_drewN _ _ _⟩ | exact ⟨rfl, _, Eq.trans (World.drewN_drewN _ _ _) (congrArg (World.drewN _) (Nat.add_assoc _ _ _))⟩)) | (go_at_call 22; (with_reducible refine (lodgerref12_Range.calls k5 aX ad cW cp fl _ A83.out).mono ?_); rintro e w' ⟨rfl, ⟨nd, rfl⟩⟩; (try first | exact ⟨rfl, _, World.drewN_drewN _ _ _⟩ | exact ⟨rfl, _, Eq.trans (World.drewN_drewN _ _ _) (congrArg (World.drewN _) (Nat.add_assoc _ _ _))⟩)))
                      repeat (go_quiet (first | (go_at_call 17; (with_reducible refine (lodgerref12_Rest.calls (wrap64 (aT + aU)) ad cW _ A82.out).mono ?_); rintro e w' ⟨rfl, ⟨nd, rfl⟩⟩; (try first | exact ⟨rfl, _, World.drewN_drewN _ _ _⟩ | exact ⟨rfl, _, Eq.trans (World.drewN_drewN _ _ _) (congrArg (World.drewN _) (Nat.add_assoc _ _ _))⟩)) | (go_at_call 22; (with_reducible refine (lodgerref12_Range.calls k5 aX ad cW cp fl _ A83.out).mono ?_); rintro e w' ⟨rfl, ⟨nd, rfl⟩⟩; (try first | exact ⟨rfl, _, World.drewN_drewN _ _ _⟩ | exact ⟨rfl, _, Eq.trans (World.drewN_drewN _ _ _) (congrArg (World.drewN _) (Nat.add_assoc _ _ _))⟩))); try go_wp2_with (first | ((with_reducible refine gd_ 40 ?_); first | refine ld_ aa hu41 ?_ | refine ldS_ aa hu41 ?_) | ((with_reducible refine gd_ 52 ?_); first | refine ld_ aa hu41 ?_ | refine ldS_ aa hu41 ?_) | ((with_reducible refine gd_ 93 ?_); first | refine ld_ ab hu41 ?_ | refine ldS_ ab hu41 ?_) | ((with_reducible refine gs_ (ty := 41) rfl ?_); refine st_ aa ?_) | ((with_reducible refine gs_ (ty := 41) rfl ?_); refine st_ ab ?_) | (go_at_call 17; (with_reducible refine (lodgerref12_Rest.calls (wrap64 (aT + aU)) ad cW _ A82.out).mono ?_); rintro e w' ⟨rfl, ⟨nd, rfl⟩⟩; (try first | exact ⟨rfl, _, World.drewN_drewN _ _ _⟩ | exact ⟨rfl, _, Eq.trans (World.drewN_drewN _ _ _) (congrArg (World.drewN _) (Nat.add_assoc _ _ _))⟩)) | (go_at_call 22; (with_reducible refine (lodgerref12_Range.calls k5 aX ad cW cp fl _ A83.out).mono ?_); rintro e w' ⟨rfl, ⟨nd, rfl⟩⟩; (try first | exact ⟨rfl, _, World.drewN_drewN _ _ _⟩ | exact ⟨rfl, _, Eq.trans (World.drewN_drewN _ _ _) (congrArg (World.drewN _) (Nat.add_assoc _ _ _))⟩))))
                      go_ret
                      exact ⟨er_, hB_ HB⟩
                    ·rw [if_neg c85] at H
                     rw [hr_.out] at H
                     exact absurd (Option.some.inj H) (by decide)
                   ·rw [if_neg c84] at H
                    rw [hr_.out] at H
                    exact absurd (Option.some.inj H) (by decide)
                 ·rw [if_neg c72] at H
                  have fG : decide (cj < (wrap64 ((wrap64 (2 * ad)) + 2))) = false := decide_eq_false c72
                  clear c72; replace H := bi_ H; obtain ⟨cX, A1010, H⟩ := H
                  replace H : ((lodgerref12_Range.f k5 aX ad cX).bind fun bt377 => (if aJ = 2 then (if aN = bt377.1 then (some (decide (bt377.1 < bt377.2))) else (some false)) else (some false))) = some r := H
                  have A101 := Aside0.mk A1010; clear A1010; replace H := bi_ H; obtain ⟨⟨cq, fm⟩, A1020, H⟩ := H
                  replace H : (if aJ = 2 then (if aN = cq then (some (decide (cq < fm))) else (some false)) else (some false)) = some r := H
                  have A102 := Aside0.mk A1020; clear A1020
                  by_cases c103 : aJ = 2
                  ·rw [if_pos c103] at H
                   have gR : (aJ == 2) = true := beq_iff_eq.mpr c103
                   have gS : (aJ != 2) = false := bne_eq_false_iff_eq.mpr c103
                   clear c103
                   by_cases c104 : aN = cq
                   ·rw [if_pos c104] at H
                    have gT : (aN == cq) = true := beq_iff_eq.mpr c104
                    have gU : (aN != cq) = false := bne_eq_false_iff_eq.mpr c104
                    clear c104
                    first | (exfalso; rw [hr_.out] at H; exact absurd (Option.some.inj H) (by decide)) | (try clear hr_)
                    all_goals
                     obtain rfl := Option.some.inj H
                     have gV := aK.out; have gY := aY.out; have gW := aV.out; have gZ := a0.out; obtain ⟨fP, fQ, fR, fS, fT, fU, fV, f2, f3, f4, f5, f6, f7, f8⟩ := cz7_ (w := wr) ac; have gX := aZ.out; have g0 := aW.out; obtain ⟨fW, f9⟩ := c20_8 (w := wr) ab; obtain ⟨fX, ga⟩ := c20_9 (w := wr) ab; obtain ⟨fJ, fL⟩ := c20_10 (w := wr) ab; obtain ⟨fK, fM⟩ := c20_11 (w := wr) ab
                     go_wp2_with (first | ((with_reducible refine gd_ 40 ?_); first | refine ld_ aa hu41 ?_ | refine ldS_ aa hu41 ?_) | ((with_reducible refine gd_ 52 ?_); first | refine ld_ aa hu41 ?_ | refine ldS_ aa hu41 ?_) | ((with_reducible refine gd_ 93 ?_); first | refine ld_ ab hu41 ?_ | refine ldS_ ab hu41 ?_) | ((with_reducible refine gs_ (ty := 41) rfl ?_); refine st_ aa ?_) | ((with_reducible refine gs_ (ty := 41) rfl ?_); refine st_ ab ?_) | (go_at_call 17; (with_reducible refine (lodgerref12_Rest.calls (wrap64 (aT + aU)) ad cX _ A101.out).mono ?_); rintro e w' ⟨rfl, ⟨nd, rfl⟩⟩; (try first | exact ⟨rfl, _, World.drewN_drewN _ _ _⟩ | exact ⟨rfl, _, Eq.trans (World.drewN_drewN _ _ _) (congrArg (World.drewN _) (Nat.add_assoc _ _ _))⟩)) | (go_at_call 22; (with_reducible refine (lodgerref12_Range.calls k5 aX ad cX cq fm _ A102.out).mono ?_); rintro e w' ⟨rfl, ⟨nd, rfl⟩⟩; (try first | exact ⟨rfl, _, World.drewN_drewN _ _ _⟩ | exact ⟨rfl, _, Eq.trans (World.drewN_drewN _ _ _) (congrArg (World.drewN _) (Nat.add_assoc _ _ _))⟩)))
                     repeat (go_quiet (first | (go_at_call 17; (with_reducible refine (lodgerref12_Rest.calls (wrap64 (aT + aU)) ad cX _ A101.out).mono ?_); rintro e w' ⟨rfl, ⟨nd, rfl⟩⟩; (try first | exact ⟨rfl, _, World.drewN_drewN _ _ _⟩ | exact ⟨rfl, _, Eq.trans (World.drewN_drewN _ _ _) (congrArg (World.drewN _) (Nat.add_assoc _ _ _))⟩)) | (go_at_call 22; (with_reducible refine (lodgerref12_Range.calls k5 aX ad cX cq fm _ A102.out).mono ?_); rintro e w' ⟨rfl, ⟨nd, rfl⟩⟩; (try first | exact ⟨rfl, _, World.drewN_drewN _ _ _⟩ | exact ⟨rfl, _, Eq.trans (World.drewN_drewN _ _ _) (congrArg (World.drewN _) (Nat.add_assoc _ _ _))⟩))); try go_wp2_with (first | ((with_reducible refine gd_ 40 ?_); first | refine ld_ aa hu41 ?_ | refine ldS_ aa hu41 ?_) | ((with_reducible refine gd_ 52 ?_); first | refine ld_ aa hu41 ?_ | refine ldS_ aa hu41 ?_) | ((with_reducible refine gd_ 93 ?_); first | refine ld_ ab hu41 ?_ | refine ldS_ ab hu41 ?_) | ((with_reducible refine gs_ (ty := 41) rfl ?_); refine st_ aa ?_) | ((with_reducible refine gs_ (ty := 41) rfl ?_); refine st_ ab ?_) | (go_at_call 17; (with_reducible refine (lodgerref12_Rest.calls (wrap64 (aT + aU)) ad cX _ A101.out).mono ?_); rintro e w' ⟨rfl, ⟨nd, rfl⟩⟩; (try first | exact ⟨rfl, _, World.drewN_drewN _ _ _⟩ | exact ⟨rfl, _, Eq.trans (World.drewN_drewN _ _ _) (congrArg (World.drewN _) (Nat.add_assoc _ _ _))⟩)) | (go_at_call 22; (with_reducible refine (lodgerref12_Range.calls k5 aX ad cX cq fm _ A102.out).mono ?_); rintro e w' ⟨rfl, ⟨nd, rfl⟩⟩; (try first | exact ⟨rfl, _, World.drewN_drewN _ _ _⟩ | exact ⟨rfl, _, Eq.trans (World.drewN_drewN _ _ _) (congrArg (World.drewN _) (Nat.add_assoc _ _ _))⟩))))
                     go_ret
                     exact ⟨er_, hB_ HB⟩
                   ·rw [if_neg c104] at H
                    rw [hr_.out] at H
                    exact absurd (Option.some.inj H) (by decide)
                  ·rw [if_neg c103] at H
                   rw [hr_.out] at H
                   exact absurd (Option.some.inj H) (by decide)
           ·rw [if_neg c60] at H
            exact absurd H (by simp)

/-- THE ONE PURE STATEMENT of lodgerlaw15_SeekFull: yours. -/
def lodgerlaw15_SeekFull.Pure : Prop := ∀ (a0_0 a0_1 : Int) (l0_2 : List Int) (a0_3 a0_4 : Int) (a0_5 a0_6 : Int) (l1 : List Int) (a2 : Int), (Lit.int .u32 a0_0).wf = true → (Lit.int .i64 a0_1).wf = true → l0_2.length ≤ maxLen → (∀ x ∈ l0_2, (Lit.int .i64 x).wf = true) → (Lit.int .i64 a0_3).wf = true → (Lit.int .i64 a0_4).wf = true → (Lit.int .i64 a0_5).wf = true → (Lit.int .i64 a0_6).wf = true → l1.length ≤ maxLen → l1.length * 8 ≤ 140737488351232 → (∀ x ∈ l1, (Lit.int .u64 x).wf = true) → (Lit.int .u8 a2).wf = true → ∃ k, lodgerlaw15_SeekFull.f k a0_0 a0_1 l0_2 a0_3 a0_4 a0_5 a0_6 l1 a2 = some true
theorem lodgerlaw15_SeekFull.walk (P : lodgerlaw15_SeekFull.Pure) (a0_0 a0_1 : Int) (a0_2 : Option Addr) (len0_2 cap0_2 : Nat) (z0_2 : List Int) (a0_3 a0_4 : Int) (a0_5 a0_6 : Int) (a1 : Option Addr) (len1 cap1 : Nat) (z1 : List Int) (a2 : Int) (w : World) (w0_0 : (Lit.int .u32 a0_0).wf = true) (w0_1 : (Lit.int .i64 a0_1).wf = true) (w0_2 : (a0_2 = none ∧ len0_2 = 0 ∧ cap0_2 = 0 ∧ z0_2 = []) ∨ ∃ x, a0_2 = some x ∧ len0_2 ≤ cap0_2 ∧ cap0_2 ≤ maxLen ∧ z0_2.length = cap0_2 ∧ (∀ i, i < z0_2.length → w.cell? (x.add i) = some (.int .i64 (z0_2.getD i 0))) ∧ ∀ n ∈ z0_2, (Lit.int .i64 n).wf = true) (w0_3 : (Lit.int .i64 a0_3).wf = true) (w0_4 : (Lit.int .i64 a0_4).wf = true) (w0_5 : (Lit.int .i64 a0_5).wf = true) (w0_6 : (Lit.int .i64 a0_6).wf = true) (w1 : (a1 = none ∧ len1 = 0 ∧ cap1 = 0 ∧ z1 = []) ∨ ∃ x, a1 = some x ∧ len1 ≤ cap1 ∧ cap1 ≤ maxLen ∧ z1.length = cap1 ∧ (∀ i, i < z1.length → w.cell? (x.add i) = some (.int .u64 (z1.getD i 0))) ∧ ∀ n ∈ z1, (Lit.int .u64 n).wf = true) (y1 : len1 * 8 ≤ 140737488351232) (w2 : (Lit.int .u8 a2).wf = true) :
  Calls Try.prog 6 #[.agg #[.int .u32 a0_0, .int .i64 a0_1, .slice a0_2 len0_2 cap0_2, .int .i64 a0_3, .int .i64 a0_4, .int .i64 a0_5, .int .i64 a0_6], .slice a1 len1 cap1, .int .u8 a2] w fun e w' => e = .returned (.bool true) ∧ Below w.heap.size w w' := by
 obtain ⟨l0_2, rfl, hr0_2, hm0_2, hw0_2, hc0_2⟩ := ReadsInt.ofRowC w0_2
 obtain ⟨l1, rfl, hr1, hm1, hw1, hc1⟩ := ReadsInt.ofRowC w1
 obtain ⟨k, h⟩ := P a0_0 a0_1 l0_2 a0_3 a0_4 a0_5 a0_6 l1 a2 w0_0 w0_1 hm0_2 hw0_2 w0_3 w0_4 w0_5 w0_6 hm1 y1 hw1 w2
 refine (lodgerlaw15_SeekFull.calls k a0_0 a0_1 _ _ l0_2 a0_3 a0_4 a0_5 a0_6 _ _ l1 a2 true w (Kd.C_of_reads (d := (0 : Int)) (h1 := fun _ => rfl) hr0_2) hc0_2 (Kd.C_of_reads (d := (0 : Int)) (h1 := fun _ => rfl) hr1) hc1 rfl h).mono ?_
 rintro e w' ⟨rfl, hd⟩
 exact ⟨rfl, hd⟩

end Go.Proofs.Ytfhjeneegfmngaa.PSeekFull
