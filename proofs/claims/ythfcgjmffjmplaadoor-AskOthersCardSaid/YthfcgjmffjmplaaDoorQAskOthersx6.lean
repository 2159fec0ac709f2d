/- The walk of AskOthers, part of it: what the Go functions answer; no condition. -/
import Derived.Test.YthfcgjmffjmplaaDoorQAskOthersx0
import Derived.Test.YthfcgjmffjmplaaDoorQAskOthersx1
import Derived.Test.YthfcgjmffjmplaaDoorQAskOthersx2
import Derived.Test.YthfcgjmffjmplaaDoorQAskOthersx3
import Derived.Test.YthfcgjmffjmplaaDoorQAskOthersx4
import Derived.Test.YthfcgjmffjmplaaDoorQAskOthersx5
namespace Go.Proofs.YthfcgjmffjmplaaDoor.PAskOthers
open Go.RowKit Go.Proofs.YthfcgjmffjmplaaDoorW.PrintWords Go.Proofs.YthfcgjmffjmplaaDoorW.PrintLast Go.Proofs.YthfcgjmffjmplaaDoorW.PrintMore
attribute [local go_sem] max2_int min2_int max_two min_two max_three min_three max_four min_four   -- for this text's walks alone
set_option linter.unusedVariables false
set_option linter.unusedSimpArgs false

/-! ### lodgerlaw10_AskOthers: function 5 -/
mutual
def lodgerlaw10_AskOthers.j0 : Nat → Int → Int → Bool → Int → Int → List Int → Int → Int → Int → Int → Int → Int → List Int → Option (Bool)
 | 0, _, _, _, _, _, _, _, _, _, _, _, _, _ => none
 | k + 1, x2, x3, x22, x169000, x169001, x169002, x169003, x169004, x169005, x169006, x170000, x170001, x170002 => if x22 = true then ((lodgerlaw10_awake.f k).bind fun t173 => (some t173)) else (if x170000 = 1 then (lodgerlaw10_AskOthers.j1 k x2 x3 true x169000 x169001 x169002 x169003 x169004 x169005 x169006 x170000 x170001 x170002 x170000 x170001 x170002) else (if x170000 = 4 then (lodgerlaw10_AskOthers.j1 k x2 x3 true x169000 x169001 x169002 x169003 x169004 x169005 x169006 x170000 x170001 x170002 x170000 x170001 x170002) else (if x170000 = 6 then (lodgerlaw10_AskOthers.j1 k x2 x3 true x169000 x169001 x169002 x169003 x169004 x169005 x169006 x170000 x170001 x170002 x170000 x170001 x170002) else (lodgerlaw10_AskOthers.j1 k x2 x3 (x170000 == 7) x169000 x169001 x169002 x169003 x169004 x169005 x169006 x170000 x170001 x170002 x170000 x170001 x170002))))
def lodgerlaw10_AskOthers.j1 : Nat → Int → Int → Bool → Int → Int → List Int → Int → Int → Int → Int → Int → Int → List Int → Int → Int → List Int → Option (Bool)
 | 0, _, _, _, _, _, _, _, _, _, _, _, _, _, _, _, _ => none
 | k + 1, x2, x3, x42, x169000, x169001, x169002, x169003, x169004, x169005, x169006, x170000, x170001, x170002, x175000, x175001, x175002 => if x42 = true then (lodgerlaw10_AskOthers.j2 k x2 x3 x169000 x169001 x169002 x169003 x169004 x169005 x169006 x170000 x170001 x170002 x175000 x2 x175002) else (lodgerlaw10_AskOthers.j2 k x2 x3 x169000 x169001 x169002 x169003 x169004 x169005 x169006 x170000 x170001 x170002 x175000 x175001 x175002)
def lodgerlaw10_AskOthers.j2 : Nat → Int → Int → Int → Int → List Int → Int → Int → Int → Int → Int → Int → List Int → Int → Int → List Int → Option (Bool)
 | 0, _, _, _, _, _, _, _, _, _, _, _, _, _, _, _ => none
 | k + 1, x2, x3, x169000, x169001, x169002, x169003, x169004, x169005, x169006, x170000, x170001, x170002, x175000, x175001, x175002 => if x170000 = 4 then (lodgerlaw10_AskOthers.j3 k x3 x169000 x169001 x169002 x169003 x169004 x169005 x169006 x170000 x170001 x170002 x175000 x175001 x175002) else (lodgerlaw10_AskOthers.j3 k x3 x169000 x169001 x169002 x169003 x169004 x169005 x169006 x170000 x170001 x170002 x175000 x175001 (([x2, x2] : List Int)))
def lodgerlaw10_AskOthers.j3 : Nat → Int → Int → Int → List Int → Int → Int → Int → Int → Int → Int → List Int → Int → Int → List Int → Option (Bool)
 | 0, _, _, _, _, _, _, _, _, _, _, _, _, _, _ => none
 | k + 1, x3, x169000, x169001, x169002, x169003, x169004, x169005, x169006, x170000, x170001, x170002, x175000, x175001, x175002 => (ask_Check.f k x169000 x169001 x169002 x169003 x169004 x169005 x169006 x170000 x170001 x170002).bind fun t178 => ((ask_Check.f k x169000 x169001 x169002 x169003 x169004 x169005 x169006 x175000 x175001 x175002).bind fun t179 => (if t178 = t179 then (if x170000 = 4 then ((ask_Check.f k x169000 x169001 x169002 x169003 x169004 x169005 x169006 x170000 x170001 x170002).bind fun t180 => (lodgerlaw10_AskOthers.j4 k x3 (t180 != 0) x169000 x169001 x169002 x169003 x169004 x169005 x169006 x170000 x170001 x170002)) else (lodgerlaw10_AskOthers.j4 k x3 true x169000 x169001 x169002 x169003 x169004 x169005 x169006 x170000 x170001 x170002)) else (some false)))
def lodgerlaw10_AskOthers.j4 : Nat → Int → Bool → Int → Int → List Int → Int → Int → Int → Int → Int → Int → List Int → Option (Bool)
 | 0, _, _, _, _, _, _, _, _, _, _, _, _ => none
 | k + 1, x3, x67, x169000, x169001, x169002, x169003, x169004, x169005, x169006, x170000, x170001, x170002 => if x67 = true then (some true) else (if (wrap64 ((x170002.length : Int) + 1)) = 0 then (none) else (if 0 ≤ (Int.tmod (wrap64 (x3)) (wrap64 ((x170002.length : Int) + 1))) then (if (Int.tmod (wrap64 (x3)) (wrap64 ((x170002.length : Int) + 1))) ≤ (x170002.length : Int) then ((some (x170002.take ((Int.tmod (wrap64 (x3)) (wrap64 ((x170002.length : Int) + 1))) : Int).toNat : List Int)).bind fun y182 => ((ask_Check.f k x169000 x169001 x169002 x169003 x169004 x169005 x169006 x170000 x170001 y182).bind fun t187 => (if t187 = 0 then (some true) else (if (y182.length : Int) = 0 then ((ask_Check.f k x169000 x169001 x169002 x169003 x169004 x169005 x169006 x170000 x170001 y182).bind fun t188 => (some (t188 == 7))) else (some false))))) else (none)) else (none)))
end
def lodgerlaw10_AskOthers.f (k : Nat) (a0_0 : Int) (a0_1 : Int) (l0_2 : List Int) (a0_3 : Int) (a0_4 : Int) (a0_5 : Int) (a0_6 : Int) (a1_0 : Int) (a1_1 : Int) (l1_2 : List Int) (a2 : Int) (a3 : Int) : Option (Bool) := (lodgerlaw10_awake.f k).bind fun t170 => (if t170 = true then ((lodgerref05_May.f k a0_0 a0_1 l0_2 a0_3 a0_4 a0_5 a0_6).bind fun t171 => (if t171 = true then ((lodgerref10_Few.f a1_0 a1_1 l1_2).bind fun t172 => (lodgerlaw10_AskOthers.j0 k a2 a3 (!t172) a0_0 a0_1 l0_2 a0_3 a0_4 a0_5 a0_6 a1_0 a1_1 l1_2)) else (lodgerlaw10_AskOthers.j0 k a2 a3 true a0_0 a0_1 l0_2 a0_3 a0_4 a0_5 a0_6 a1_0 a1_1 l1_2))) else (lodgerlaw10_AskOthers.j0 k a2 a3 true a0_0 a0_1 l0_2 a0_3 a0_4 a0_5 a0_6 a1_0 a1_1 l1_2))
theorem lodgerlaw10_AskOthers.mono_l : ∀ k, (∀ y0 y1 y2 y3 y4 y5 y6 y7 y8 y9 y10 y11 y12, LeO (lodgerlaw10_AskOthers.j0 k y0 y1 y2 y3 y4 y5 y6 y7 y8 y9 y10 y11 y12) (lodgerlaw10_AskOthers.j0 (k + 1) y0 y1 y2 y3 y4 y5 y6 y7 y8 y9 y10 y11 y12)) ∧ (∀ y0 y1 y2 y3 y4 y5 y6 y7 y8 y9 y10 y11 y12 y13 y14 y15, LeO (lodgerlaw10_AskOthers.j1 k y0 y1 y2 y3 y4 y5 y6 y7 y8 y9 y10 y11 y12 y13 y14 y15) (lodgerlaw10_AskOthers.j1 (k + 1) y0 y1 y2 y3 y4 y5 y6 y7 y8 y9 y10 y11 y12 y13 y14 y15)) ∧ (∀ y0 y1 y2 y3 y4 y5 y6 y7 y8 y9 y10 y11 y12 y13 y14, LeO (lodgerlaw10_AskOthers.j2 k y0 y1 y2 y3 y4 y5 y6 y7 y8 y9 y10 y11 y12 y13 y14) (lodgerlaw10_AskOthers.j2 (k + 1) y0 y1 y2 y3 y4 y5 y6 y7 y8 y9 y10 y11 y12 y13 y14)) ∧ (∀ y0 y1 y2 y3 y4 y5 y6 y7 y8 y9 y10 y11 y12 y13, LeO (lodgerlaw10_AskOthers.j3 k y0 y1 y2 y3 y4 y5 y6 y7 y8 y9 y10 y11 y12 y13) (lodgerlaw10_AskOthers.j3 (k + 1) y0 y1 y2 y3 y4 y5 y6 y7 y8 y9 y10 y11 y12 y13)) ∧ (∀ y0 y1 y2 y3 y4 y5 y6 y7 y8 y9 y10 y11, LeO (lodgerlaw10_AskOthers.j4 k y0 y1 y2 y3 y4 y5 y6 y7 y8 y9 y10 y11) (lodgerlaw10_AskOthers.j4 (k + 1) y0 y1 y2 y3 y4 y5 y6 y7 y8 y9 y10 y11))
 | 0 => ⟨fun _ _ _ _ _ _ _ _ _ _ _ _ _ r h => by simp [lodgerlaw10_AskOthers.j0] at h, fun _ _ _ _ _ _ _ _ _ _ _ _ _ _ _ _ r h => by simp [lodgerlaw10_AskOthers.j1] at h, fun _ _ _ _ _ _ _ _ _ _ _ _ _ _ _ r h => by simp [lodgerlaw10_AskOthers.j2] at h, fun _ _ _ _ _ _ _ _ _ _ _ _ _ _ r h => by simp [lodgerlaw10_AskOthers.j3] at h, fun _ _ _ _ _ _ _ _ _ _ _ _ r h => by simp [lodgerlaw10_AskOthers.j4] at h⟩
 | k + 1 => by
  obtain ⟨ih0, ih1, ih2, ih3, ih4⟩ := lodgerlaw10_AskOthers.mono_l k
  refine ⟨?_, ?_, ?_, ?_, ?_⟩
  ·intro y0 y1 y2 y3 y4 y5 y6 y7 y8 y9 y10 y11 y12
   unfold lodgerlaw10_AskOthers.j0
   repeat' first
   | (with_reducible exact ih0 _ _ _ _ _ _ _ _ _ _ _ _ _)
   | (with_reducible exact ih1 _ _ _ _ _ _ _ _ _ _ _ _ _ _ _ _)
   | (with_reducible exact ih2 _ _ _ _ _ _ _ _ _ _ _ _ _ _ _)
   | (with_reducible exact ih3 _ _ _ _ _ _ _ _ _ _ _ _ _ _)
   | (with_reducible exact ih4 _ _ _ _ _ _ _ _ _ _ _ _)
   | (with_reducible exact ask_Check.mono _ _ _ _ _ _ _ _ _ _ _)
   | (with_reducible exact lodgerlaw10_awake.mono _)
   | (with_reducible exact lodgerref05_May.mono _ _ _ _ _ _ _ _)
   | (with_reducible exact LeO.refl _)
   | (with_reducible exact LeO.none _)
   | (with_reducible refine LeO.ite ?_ ?_)
   | (with_reducible refine LeO.bind ?_ (fun _ => ?_))
   | exact ih0 _ _ _ _ _ _ _ _ _ _ _ _ _
   | exact ih1 _ _ _ _ _ _ _ _ _ _ _ _ _ _ _ _
   | exact ih2 _ _ _ _ _ _ _ _ _ _ _ _ _ _ _
   | exact ih3 _ _ _ _ _ _ _ _ _ _ _ _ _ _
   | exact ih4 _ _ _ _ _ _ _ _ _ _ _ _
   | exact ask_Check.mono _ _ _ _ _ _ _ _ _ _ _
   | exact lodgerlaw10_awake.mono _
   | exact lodgerref05_May.mono _ _ _ _ _ _ _ _
   | exact LeO.none _
   | refine LeO.ite ?_ ?_
   | refine LeO.bind ?_ (fun _ => ?_)
  ·intro y0 y1 y2 y3 y4 y5 y6 y7 y8 y9 y10 y11 y12 y13 y14 y15
   unfold lodgerlaw10_AskOthers.j1
   repeat' first
   | (with_reducible exact ih0 _ _ _ _ _ _ _ _ _ _ _ _ _)
   | (with_reducible exact ih1 _ _ _ _ _ _ _ _ _ _ _ _ _ _ _ _)
   | (with_reducible exact ih2 _ _ _ _ _ _ _ _ _ _ _ _ _ _ _)
   | (with_reducible exact ih3 _ _ _ _ _ _ _ _ _ _ _ _ _ _)
   | (with_reducible exact ih4 _ _ _ _ _ _ _ _ _ _ _ _)
   | (with_reducible exact ask_Check.mono _ _ _ _ _ _ _ _ _ _ _)
   | (with_reducible exact lodgerlaw10_awake.mono _)
   | (with_reducible exact lodgerref05_May.mono _ _ _ _ _ _ _ _)
   | (with_reducible exact LeO.refl _)
   | (with_reducible exact LeO.none _)
   | (with_reducible refine LeO.ite ?_ ?_)
   | (with_reducible refine LeO.bind ?_ (fun _ => ?_))
   | exact ih0 _ _ _ _ _ _ _ _ _ _ _ _ _
   | exact ih1 _ _ _ _ _ _ _ _ _ _ _ _ _ _ _ _
   | exact ih2 _ _ _ _ _ _ _ _ _ _ _ _ _ _ _
   | exact ih3 _ _ _ _ _ _ _ _ _ _ _ _ _ _
   | exact ih4 _ _ _ _ _ _ _ _ _ _ _ _
   | exact ask_Check.mono _ _ _ _ _ _ _ _ _ _ _
   | exact lodgerlaw10_awake.mono _
   | exact lodgerref05_May.mono _ _ _ _ _ _ _ _
   | exact LeO.none _
   | refine LeO.ite ?_ ?_
   | refine LeO.bind ?_ (fun _ => ?_)
  ·intro y0 y1 y2 y3 y4 y5 y6 y7 y8 y9 y10 y11 y12 y13 y14
   unfold lodgerlaw10_AskOthers.j2
   repeat' first
   | (with_reducible exact ih0 _ _ _ _ _ _ _ _ _ _ _ _ _)
   | (with_reducible exact ih1 _ _ _ _ _ _ _ _ _ _ _ _ _ _ _ _)
   | (with_reducible exact ih2 _ _ _ _ _ _ _ _ _ _ _ _ _ _ _)
   | (with_reducible exact ih3 _ _ _ _ _ _ _ _ _ _ _ _ _ _)
   | (with_reducible exact ih4 _ _ _ _ _ _ _ _ _ _ _ _)
   | (with_reducible exact ask_Check.mono _ _ _ _ _ _ _ _ _ _ _)
   | (with_reducible exact lodgerlaw10_awake.mono _)
   | (with_reducible exact lodgerref05_May.mono _ _ _ _ _ _ _ _)
   | (with_reducible exact LeO.refl _)
   | (with_reducible exact LeO.none _)
   | (with_reducible refine LeO.ite ?_ ?_)
   | (with_reducible refine LeO.bind ?_ (fun _ => ?_))
   | exact ih0 _ _ _ _ _ _ _ _ _ _ _ _ _
   | exact ih1 _ _ _ _ _ _ _ _ _ _ _ _ _ _ _ _
   | exact ih2 _ _ _ _ _ _ _ _ _ _ _ _ _ _ _
   | exact ih3 _ _ _ _ _ _ _ _ _ _ _ _ _ _
   | exact ih4 _ _ _ _ _ _ _ _ _ _ _ _
   | exact ask_Check.mono _ _ _ _ _ _ _ _ _ _ _
   | exact lodgerlaw10_awake.mono _
   | exact lodgerref05_May.mono _ _ _ _ _ _ _ _
   | exact LeO.none _
   | refine LeO.ite ?_ ?_
   | refine LeO.bind ?_ (fun _ => ?_)
  ·intro y0 y1 y2 y3 y4 y5 y6 y7 y8 y9 y10 y11 y12 y13
   unfold lodgerlaw10_AskOthers.j3
   repeat' first
   | (with_reducible exact ih0 _ _ _ _ _ _ _ _ _ _ _ _ _)
   | (with_reducible exact ih1 _ _ _ _ _ _ _ _ _ _ _ _ _ _ _ _)
   | (with_reducible exact ih2 _ _ _ _ _ _ _ _ _ _ _ _ _ _ _)
   | (with_reducible exact ih3 _ _ _ _ _ _ _ _ _ _ _ _ _ _)
   | (with_reducible exact ih4 _ _ _ _ _ _ _ _ _ _ _ _)
   | (with_reducible exact ask_Check.mono _ _ _ _ _ _ _ _ _ _ _)
   | (with_reducible exact lodgerlaw10_awake.mono _)
   | (with_reducible exact lodgerref05_May.mono _ _ _ _ _ _ _ _)
   | (with_reducible exact LeO.refl _)
   | (with_reducible exact LeO.none _)
   | (with_reducible refine LeO.ite ?_ ?_)
   | (with_reducible refine LeO.bind ?_ (fun _ => ?_))
   | exact ih0 _ _ _ _ _ _ _ _ _ _ _ _ _
   | exact ih1 _ _ _ _ _ _ _ _ _ _ _ _ _ _ _ _
   | exact ih2 _ _ _ _ _ _ _ _ _ _ _ _ _ _ _
   | exact ih3 _ _ _ _ _ _ _ _ _ _ _ _ _ _
   | exact ih4 _ _ _ _ _ _ _ _ _ _ _ _
   | exact ask_Check.mono _ _ _ _ _ _ _ _ _ _ _
   | exact lodgerlaw10_awake.mono _
   | exact lodgerref05_May.mono _ _ _ _ _ _ _ _
   | exact LeO.none _
   | refine LeO.ite ?_ ?_
   | refine LeO.bind ?_ (fun _ => ?_)
  ·intro y0 y1 y2 y3 y4 y5 y6 y7 y8 y9 y10 y11
   unfold lodgerlaw10_AskOthers.j4
   repeat' first
   | (with_reducible exact ih0 _ _ _ _ _ _ _ _ _ _ _ _ _)
   | (with_reducible exact ih1 _ _ _ _ _ _ _ _ _ _ _ _ _ _ _ _)
   | (with_reducible exact ih2 _ _ _ _ _ _ _ _ _ _ _ _ _ _ _)
   | (with_reducible exact ih3 _ _ _ _ _ _ _ _ _ _ _ _ _ _)
   | (with_reducible exact ih4 _ _ _ _ _ _ _ _ _ _ _ _)
   | (with_reducible exact ask_Check.mono _ _ _ _ _ _ _ _ _ _ _)
   | (with_reducible exact lodgerlaw10_awake.mono _)
   | (with_reducible exact lodgerref05_May.mono _ _ _ _ _ _ _ _)
   | (with_reducible exact LeO.refl _)
   | (with_reducible exact LeO.none _)
   | (with_reducible refine LeO.ite ?_ ?_)
   | (with_reducible refine LeO.bind ?_ (fun _ => ?_))
   | exact ih0 _ _ _ _ _ _ _ _ _ _ _ _ _
   | exact ih1 _ _ _ _ _ _ _ _ _ _ _ _ _ _ _ _
   | exact ih2 _ _ _ _ _ _ _ _ _ _ _ _ _ _ _
   | exact ih3 _ _ _ _ _ _ _ _ _ _ _ _ _ _
   | exact ih4 _ _ _ _ _ _ _ _ _ _ _ _
   | exact ask_Check.mono _ _ _ _ _ _ _ _ _ _ _
   | exact lodgerlaw10_awake.mono _
   | exact lodgerref05_May.mono _ _ _ _ _ _ _ _
   | exact LeO.none _
   | refine LeO.ite ?_ ?_
   | refine LeO.bind ?_ (fun _ => ?_)
theorem lodgerlaw10_AskOthers.mono : ∀ a0 a1 a2 a3 a4 a5 a6 a7 a8 a9 a10 a11 k, LeO (lodgerlaw10_AskOthers.f k a0 a1 a2 a3 a4 a5 a6 a7 a8 a9 a10 a11) (lodgerlaw10_AskOthers.f (k + 1) a0 a1 a2 a3 a4 a5 a6 a7 a8 a9 a10 a11) := by
 intro a0 a1 a2 a3 a4 a5 a6 a7 a8 a9 a10 a11 k
 obtain ⟨ih0, ih1, ih2, ih3, ih4⟩ := lodgerlaw10_AskOthers.mono_l k
 unfold lodgerlaw10_AskOthers.f
 repeat' first
   | (with_reducible exact ih0 _ _ _ _ _ _ _ _ _ _ _ _ _)
   | (with_reducible exact ih1 _ _ _ _ _ _ _ _ _ _ _ _ _ _ _ _)
   | (with_reducible exact ih2 _ _ _ _ _ _ _ _ _ _ _ _ _ _ _)
   | (with_reducible exact ih3 _ _ _ _ _ _ _ _ _ _ _ _ _ _)
   | (with_reducible exact ih4 _ _ _ _ _ _ _ _ _ _ _ _)
   | (with_reducible exact ask_Check.mono _ _ _ _ _ _ _ _ _ _ _)
   | (with_reducible exact lodgerlaw10_awake.mono _)
   | (with_reducible exact lodgerref05_May.mono _ _ _ _ _ _ _ _)
   | (with_reducible exact LeO.refl _)
   | (with_reducible exact LeO.none _)
   | (with_reducible refine LeO.ite ?_ ?_)
   | (with_reducible refine LeO.bind ?_ (fun _ => ?_))
   | exact ih0 _ _ _ _ _ _ _ _ _ _ _ _ _
   | exact ih1 _ _ _ _ _ _ _ _ _ _ _ _ _ _ _ _
   | exact ih2 _ _ _ _ _ _ _ _ _ _ _ _ _ _ _
   | exact ih3 _ _ _ _ _ _ _ _ _ _ _ _ _ _
   | exact ih4 _ _ _ _ _ _ _ _ _ _ _ _
   | exact ask_Check.mono _ _ _ _ _ _ _ _ _ _ _
   | exact lodgerlaw10_awake.mono _
   | exact lodgerref05_May.mono _ _ _ _ _ _ _ _
   | exact LeO.none _
   | refine LeO.ite ?_ ?_
   | refine LeO.bind ?_ (fun _ => ?_)
def lodgerlaw10_AskOthers.T13 : Bool × List (List Nat × List Nat) := (true, [([], []), ([0], [0]), ([], []), ([2], [2]), ([], []), ([4], [4]), ([5], [5]), ([6], [6]), ([3, 7], [3, 7]), ([1, 8], [1, 8]), ([0, 1, 2, 3, 4, 5, 6, 7, 8, 9], []), ([10, 9, 0, 1, 2, 3, 4, 5, 6, 7, 8, 9], [9, 10])])
def lodgerlaw10_AskOthers.B13 : List Nat := [0, 1, 0, 4, 0, 16, 48, 112, 252, 511, 1023, 2047]
theorem lodgerlaw10_AskOthers.tab13 : rtab .any (opsOf Tryd.f5 13) = lodgerlaw10_AskOthers.T13 := by kernel_rfl
theorem lodgerlaw10_AskOthers.bits13 : waitsOk lodgerlaw10_AskOthers.T13.2 lodgerlaw10_AskOthers.B13 = true := by kernel_rfl
set_option maxHeartbeats 8000000 in
set_option maxRecDepth 100000 in
theorem lodgerlaw10_AskOthers.calls (k : Nat) (a0_0 : Int) (a0_1 : Int) (A0_2 : Option Addr) (c0_2 : Nat) (l0_2 : List Int) (a0_3 : Int) (a0_4 : Int) (a0_5 : Int) (a0_6 : Int) (a1_0 : Int) (a1_1 : Int) (P1_2_ : Nat → Prop) (A1_2 : Option Addr) (c1_2 : Nat) (l1_2 : List Int) (a2 : Int) (a3 : Int) (r : Bool) (w : World) (hr0_2 : Kd.C (Kd.int .i64) w A0_2 l0_2.length l0_2) (hc0_2 : l0_2.length ≤ c0_2) (hs1_2 : Kd.V (Kd.int .u32) 22 w w.heap.size (fun k_ => P1_2_ k_) (.slice A1_2 l1_2.length c1_2) l1_2) (hG : Lg w) (hr_ : r = true) (h : lodgerlaw10_AskOthers.f k a0_0 a0_1 l0_2 a0_3 a0_4 a0_5 a0_6 a1_0 a1_1 l1_2 a2 a3 = some r) :
  Calls Tryd.prog 5 #[.agg #[.int .u32 a0_0, .int .i64 a0_1, .slice A0_2 l0_2.length c0_2, .int .i64 a0_3, .int .i64 a0_4, .int .i64 a0_5, .int .i64 a0_6], .agg #[.int .i64 a1_0, .int .u32 a1_1, .slice A1_2 l1_2.length c1_2], .int .u32 a2, .int .u8 a3] w fun e w' => e = .returned (.bool r) ∧ Below w.heap.size w w' := by
 have hu27 := Tryd.underlying27
 have hu30 := Tryd.underlying30
 have HR0_2 := Aside0.mk hr0_2
 have HC0_2 := Aside0.mk hc0_2
 clear hr0_2 hc0_2
 have HO1_2 := Aside0.mk (show Kd.V (Kd.int .u32) 22 w w.heap.size (fun k_ => (P1_2_ k_ ∨ w.heap.size ≤ k_)) (.slice A1_2 l1_2.length c1_2) l1_2 from Kd.V_mono hs1_2 (fun k_ hk => .inl hk))
 have HB := Aside0.mk (Below.refl w.heap.size w)
 have HG := Aside0.mk hG
 clear hG
 replace hr_ := Aside0.mk hr_
 have H : ((lodgerlaw10_awake.f k).bind fun t170 => (if t170 = true then ((lodgerref05_May.f k a0_0 a0_1 l0_2 a0_3 a0_4 a0_5 a0_6).bind fun t171 => (if t171 = true then ((lodgerref10_Few.f a1_0 a1_1 l1_2).bind fun t172 => (lodgerlaw10_AskOthers.j0 k a2 a3 (!t172) a0_0 a0_1 l0_2 a0_3 a0_4 a0_5 a0_6 a1_0 a1_1 l1_2)) else (lodgerlaw10_AskOthers.j0 k a2 a3 true a0_0 a0_1 l0_2 a0_3 a0_4 a0_5 a0_6 a1_0 a1_1 l1_2))) else (lodgerlaw10_AskOthers.j0 k a2 a3 true a0_0 a0_1 l0_2 a0_3 a0_4 a0_5 a0_6 a1_0 a1_1 l1_2))) = some r := h
 clear h
 have HC5 := Aside0.mk H
 clear H
 go_enter Tryd.func5, Tryd.ntmps5
 go_upto_region 1 with (first | ((with_reducible refine gate_dst (N := 4) rfl ?_); (try (refine gate_guard (by rfl) ?_; dsimp only)); refine box_event ?hg (N := 4) ?hd (cs := #[.int .u32 a0_0, .int .i64 a0_1, .slice A0_2 l0_2.length c0_2, .int .i64 a0_3, .int .i64 a0_4, .int .i64 a0_5, .int .i64 a0_6]) (t := 27) ?hr ?_; (case hd => rfl); (case hg => rfl); (case hr => first | (go_simp; done) | (go_simp; rfl)); intro gb168 hg w6 hbox hb; have n0_ := Aside0.mk (Kd.V_below (Kd.V_elderB (by (with_reducible repeat (first | apply Kd.V_alloc | apply Kd.V_drewN | apply Kd.V_drew)); exact HO1_2.out) gb168 (Nat.le_of_eq hg.symm)) hb); have n1_ := Aside0.mk (below_step (by repeat (first | (with_reducible first | exact HB.out | apply below_alloc | apply pw_below_drewN | apply below_drew1) | exact HB.out)) hb); have n2_ := Aside0.mk (hbox); have n3_ := Aside0.mk ((by rw [hg]; exact (below_size (by repeat (first | (with_reducible first | exact HB.out | apply below_alloc | apply pw_below_drewN | apply below_drew1) | exact HB.out))) : w.heap.size ≤ gb168)); have n4_ := Aside0.mk ((by rw [hg]; exact (below_size (by repeat (first | (with_reducible first | exact HB.out | apply below_alloc | apply pw_below_drewN | apply below_drew1) | exact HB.out))) : w.heap.size ≤ gb168)); clear HO1_2; clear HB; have HO1_2 := n0_; have HB := n1_; have BK168 := n2_; have GW168 := n3_; have GE168 := n4_; clear n0_ n1_ n2_ n3_ n4_; clear hb hbox hg) | ((with_reducible refine gate_dst (N := 5) rfl ?_); (try (refine gate_guard (by rfl) ?_; dsimp only)); refine box_event ?hg (N := 5) ?hd (cs := #[.int .i64 a1_0, .int .u32 a1_1, .slice A1_2 l1_2.length c1_2]) (t := 30) ?hr ?_; (case hd => rfl); (case hg => rfl); (case hr => first | (go_simp; done) | (go_simp; rfl)); intro gb169 hg w7 hbox hb; have n0_ := Aside0.mk (Kd.V_below (Kd.V_elderB (by (with_reducible repeat (first | apply Kd.V_alloc | apply Kd.V_drewN | apply Kd.V_drew)); exact HO1_2.out) gb169 (Nat.le_of_eq hg.symm)) hb); have n1_ := Aside0.mk (blk_below (g := gb168) (o := .cells #[.int .u32 a0_0, .int .i64 a0_1, .slice A0_2 l0_2.length c0_2, .int .i64 a0_3, .int .i64 a0_4, .int .i64 a0_5, .int .i64 a0_6] 27 (0, 0)) (by (with_reducible repeat (first | refine blk_drewN ?_ _ | refine blk_drew ?_ | refine blk_alloc ?_ _)); exact BK168.out) hb); have n2_ := Aside0.mk (below_step (by repeat (first | (with_reducible first | exact HB.out | apply below_alloc | apply pw_below_drewN | apply below_drew1 | refine below_set ?_ GE168.out) | exact HB.out)) hb); have n3_ := Aside0.mk (hbox); have n4_ := Aside0.mk ((by rw [hg]; exact (below_size (by repeat (first | (with_reducible first | exact HB.out | apply below_alloc | apply pw_below_drewN | apply below_drew1 | refine below_set ?_ GE168.out) | exact HB.out))) : w.heap.size ≤ gb169)); have n5_ := Aside0.mk ((by rw [hg]; exact (below_size (by repeat (first | (with_reducible first | exact HB.out | apply below_alloc | apply pw_below_drewN | apply below_drew1 | refine below_set ?_ GE168.out) | exact HB.out))) : w.heap.size ≤ gb169)); have n6_ := Aside0.mk ((by rw [hg]; exact Nat.ne_of_lt (blk_lt (g := gb168) (o := .cells #[.int .u32 a0_0, .int .i64 a0_1, .slice A0_2 l0_2.length c0_2, .int .i64 a0_3, .int .i64 a0_4, .int .i64 a0_5, .int .i64 a0_6] 27 (0, 0)) (by (with_reducible repeat (first | refine blk_drewN ?_ _ | refine blk_drew ?_ | refine blk_alloc ?_ _)); exact BK168.out)) : gb168 ≠ gb169)); have n7_ := Aside0.mk ((by rw [hg]; exact Nat.ne_of_gt (blk_lt (g := gb168) (o := .cells #[.int .u32 a0_0, .int .i64 a0_1, .slice A0_2 l0_2.length c0_2, .int .i64 a0_3, .int .i64 a0_4, .int .i64 a0_5, .int .i64 a0_6] 27 (0, 0)) (by (with_reducible repeat (first | refine blk_drewN ?_ _ | refine blk_drew ?_ | refine blk_alloc ?_ _)); exact BK168.out)) : gb169 ≠ gb168)); clear HO1_2; clear BK168; clear HB; have HO1_2 := n0_; have BK168 := n1_; have HB := n2_; have BK169 := n3_; have GW169 := n4_; have GE169 := n5_; have NB168_169 := n6_; have NB169_168 := n7_; clear n0_ n1_ n2_ n3_ n4_ n5_ n6_ n7_; clear hb hbox hg))
 (try simp only [Act.put, List.setIfInBounds_toArray, List.set_cons_zero, List.set_cons_succ])
 go_cut [22] (fun v22 wc => ∃ (kq : Nat) (x22_4 : Bool), v22 = .bool x22_4 ∧ Aside0 (lodgerlaw10_AskOthers.j0 kq a2 a3 x22_4 a0_0 a0_1 l0_2 a0_3 a0_4 a0_5 a0_6 a1_0 a1_1 l1_2 = some r) ∧ Aside0 (kq ≤ k) ∧ Aside0 (Kd.V (Kd.int .u32) 22 wc w.heap.size (fun k_ => (P1_2_ k_ ∨ w.heap.size ≤ k_) ∧ k_ ≠ gb168 ∧ k_ ≠ gb169) (.slice A1_2 l1_2.length c1_2) l1_2) ∧ Aside0 (wc.heap[gb168]? = some (.cells #[.int .u32 a0_0, .int .i64 a0_1, (.slice A0_2 l0_2.length c0_2), .int .i64 a0_3, .int .i64 a0_4, .int .i64 a0_5, .int .i64 a0_6] 27 (0, 0))) ∧ Aside0 (wc.heap[gb169]? = some (.cells #[.int .i64 a1_0, .int .u32 a1_1, (.slice A1_2 l1_2.length c1_2)] 30 (0, 0))) ∧ Aside0 (Below w.heap.size w wc))
 case first =>
  have H := HC5.out
  clear HC5
  replace H := Option.bind_eq_some_iff.mp H
  obtain ⟨t170, A80, H⟩ := H
  replace H : (if t170 = true then ((lodgerref05_May.f k a0_0 a0_1 l0_2 a0_3 a0_4 a0_5 a0_6).bind fun t171 => (if t171 = true then ((lodgerref10_Few.f a1_0 a1_1 l1_2).bind fun t172 => (lodgerlaw10_AskOthers.j0 k a2 a3 (!t172) a0_0 a0_1 l0_2 a0_3 a0_4 a0_5 a0_6 a1_0 a1_1 l1_2)) else (lodgerlaw10_AskOthers.j0 k a2 a3 true a0_0 a0_1 l0_2 a0_3 a0_4 a0_5 a0_6 a1_0 a1_1 l1_2))) else (lodgerlaw10_AskOthers.j0 k a2 a3 true a0_0 a0_1 l0_2 a0_3 a0_4 a0_5 a0_6 a1_0 a1_1 l1_2)) = some r := H
  have A8 := Aside0.mk A80
  clear A80
  by_cases c9 : t170 = true
  ·subst c9
   have H1 : ((lodgerref05_May.f k a0_0 a0_1 l0_2 a0_3 a0_4 a0_5 a0_6).bind fun t171 => (if t171 = true then ((lodgerref10_Few.f a1_0 a1_1 l1_2).bind fun t172 => (lodgerlaw10_AskOthers.j0 k a2 a3 (!t172) a0_0 a0_1 l0_2 a0_3 a0_4 a0_5 a0_6 a1_0 a1_1 l1_2)) else (lodgerlaw10_AskOthers.j0 k a2 a3 true a0_0 a0_1 l0_2 a0_3 a0_4 a0_5 a0_6 a1_0 a1_1 l1_2))) = some r := by rw [if_pos rfl] at H; exact H
   clear H
   have H := H1
   clear H1
   replace H := Option.bind_eq_some_iff.mp H
   obtain ⟨t171, A100, H⟩ := H
   replace H : (if t171 = true then ((lodgerref10_Few.f a1_0 a1_1 l1_2).bind fun t172 => (lodgerlaw10_AskOthers.j0 k a2 a3 (!t172) a0_0 a0_1 l0_2 a0_3 a0_4 a0_5 a0_6 a1_0 a1_1 l1_2)) else (lodgerlaw10_AskOthers.j0 k a2 a3 true a0_0 a0_1 l0_2 a0_3 a0_4 a0_5 a0_6 a1_0 a1_1 l1_2)) = some r := H
   have A10 := Aside0.mk A100
   clear A100
   by_cases c11 : t171 = true
   ·subst c11
    have H1 : ((lodgerref10_Few.f a1_0 a1_1 l1_2).bind fun t172 => (lodgerlaw10_AskOthers.j0 k a2 a3 (!t172) a0_0 a0_1 l0_2 a0_3 a0_4 a0_5 a0_6 a1_0 a1_1 l1_2)) = some r := by rw [if_pos rfl] at H; exact H
    clear H
    have H := H1
    clear H1
    replace H := Option.bind_eq_some_iff.mp H
    obtain ⟨t172, A120, H⟩ := H
    replace H : (lodgerlaw10_AskOthers.j0 k a2 a3 (!t172) a0_0 a0_1 l0_2 a0_3 a0_4 a0_5 a0_6 a1_0 a1_1 l1_2) = some r := H
    have A12 := Aside0.mk A120
    clear A120
    have H' := Aside0.mk H
    clear H
    go_wp2_with (first | ((with_reducible refine gate_callee (f := 8) rfl ?_); refine goesL_ (some 11) rfl rfl Tryd.func8 (by kernel_rfl) rfl #[] rfl (by (try simp only [List.map_toArray, List.map_cons, List.map_nil]); first | done | rfl | (simp only [List.length_drop, List.length_take]; rfl)) ?_; (with_reducible refine (lodgerlaw10_awake.calls k  true _ ?side1 A8.out).mono ?_); (case side1 => exact Lg_below HG.out (by repeat (first | (with_reducible first | exact HB.out | apply below_alloc | apply pw_below_drewN | apply below_drew1 | refine below_set ?_ GE168.out | refine below_set ?_ GE169.out) | exact HB.out))); rintro e w13 ⟨rfl, hb⟩; refine ⟨_, rfl, ?_⟩; have n0_ := Aside0.mk (Kd.V_below (by (with_reducible repeat (first | apply Kd.V_alloc | apply Kd.V_drewN | apply Kd.V_drew)); exact HO1_2.out) hb); have n1_ := Aside0.mk (blk_below (g := gb168) (o := .cells #[.int .u32 a0_0, .int .i64 a0_1, .slice A0_2 l0_2.length c0_2, .int .i64 a0_3, .int .i64 a0_4, .int .i64 a0_5, .int .i64 a0_6] 27 (0, 0)) (by (with_reducible repeat (first | refine blk_drewN ?_ _ | refine blk_drew ?_ | refine blk_alloc ?_ _)); exact BK168.out) hb); have n2_ := Aside0.mk (blk_below (g := gb169) (o := .cells #[.int .i64 a1_0, .int .u32 a1_1, .slice A1_2 l1_2.length c1_2] 30 (0, 0)) (by (with_reducible repeat (first | refine blk_drewN ?_ _ | refine blk_drew ?_ | refine blk_alloc ?_ _)); exact BK169.out) hb); have n3_ := Aside0.mk (below_step (by repeat (first | (with_reducible first | exact HB.out | apply below_alloc | apply pw_below_drewN | apply below_drew1 | refine below_set ?_ GE168.out | refine below_set ?_ GE169.out) | exact HB.out)) hb); clear HO1_2; clear BK168; clear BK169; clear HB; have HO1_2 := n0_; have BK168 := n1_; have BK169 := n2_; have HB := n3_; clear n0_ n1_ n2_ n3_; (try clear hb); (try clear hb2); (try clear hk); (try clear hi); have hnb14 := NB168_169.out; have hnc14 := NB169_168.out; have hcz15_0 : w13.cell? ⟨gb168, 0, none⟩ = some (.int .u32 a0_0) := (blk_cell BK168.out 0).trans rfl; have hcz15_1 : w13.cell? ⟨gb168, 1, none⟩ = some (.int .i64 a0_1) := (blk_cell BK168.out 1).trans rfl; have hcz15_2 : w13.cell? ⟨gb168, 2, none⟩ = some (.slice A0_2 l0_2.length c0_2) := (blk_cell BK168.out 2).trans rfl; have hcz15_3 : w13.cell? ⟨gb168, 3, none⟩ = some (.int .i64 a0_3) := (blk_cell BK168.out 3).trans rfl; have hcz15_4 : w13.cell? ⟨gb168, 4, none⟩ = some (.int .i64 a0_4) := (blk_cell BK168.out 4).trans rfl; have hcz15_5 : w13.cell? ⟨gb168, 5, none⟩ = some (.int .i64 a0_5) := (blk_cell BK168.out 5).trans rfl; have hcz15_6 : w13.cell? ⟨gb168, 6, none⟩ = some (.int .i64 a0_6) := (blk_cell BK168.out 6).trans rfl; have hfz15_0 := blk_frozen BK168.out 0; have hfz15_1 := blk_frozen BK168.out 1; have hfz15_2 := blk_frozen BK168.out 2; have hfz15_3 := blk_frozen BK168.out 3; have hfz15_4 := blk_frozen BK168.out 4; have hfz15_5 := blk_frozen BK168.out 5; have hfz15_6 := blk_frozen BK168.out 6) | (go_at_call 9; (with_reducible refine (lodgerref05_May.calls k a0_0 a0_1 _ _ l0_2 a0_3 a0_4 a0_5 a0_6 true _ ?side1 ?side2 A10.out).mono ?_); (case side1 => repeat (first | exact (Kd.C_below HR0_2.out HB.out) | (with_reducible refine Kd.C_alloc ?_ _) | (with_reducible refine Kd.C_drewN ?_ _) | (with_reducible refine Kd.C_drew ?_))); (case side2 => exact HC0_2.out); rintro e w16 ⟨rfl, hb⟩; have n0_ := Aside0.mk (Kd.V_below (by (with_reducible repeat (first | apply Kd.V_alloc | apply Kd.V_drewN | apply Kd.V_drew)); exact HO1_2.out) hb); have n1_ := Aside0.mk (blk_below (g := gb168) (o := .cells #[.int .u32 a0_0, .int .i64 a0_1, .slice A0_2 l0_2.length c0_2, .int .i64 a0_3, .int .i64 a0_4, .int .i64 a0_5, .int .i64 a0_6] 27 (0, 0)) (by (with_reducible repeat (first | refine blk_drewN ?_ _ | refine blk_drew ?_ | refine blk_alloc ?_ _)); exact BK168.out) hb); have n2_ := Aside0.mk (blk_below (g := gb169) (o := .cells #[.int .i64 a1_0, .int .u32 a1_1, .slice A1_2 l1_2.length c1_2] 30 (0, 0)) (by (with_reducible repeat (first | refine blk_drewN ?_ _ | refine blk_drew ?_ | refine blk_alloc ?_ _)); exact BK169.out) hb); have n3_ := Aside0.mk (below_step (by repeat (first | (with_reducible first | exact HB.out | apply below_alloc | apply pw_below_drewN | apply below_drew1 | refine below_set ?_ GE168.out | refine below_set ?_ GE169.out) | exact HB.out)) hb); clear HO1_2; clear BK168; clear BK169; clear HB; have HO1_2 := n0_; have BK168 := n1_; have BK169 := n2_; have HB := n3_; clear n0_ n1_ n2_ n3_; (try clear hb); (try clear hb2); (try clear hk); (try clear hi); have hcz17_0 : w16.cell? ⟨gb169, 0, none⟩ = some (.int .i64 a1_0) := (blk_cell BK169.out 0).trans rfl; have hcz17_1 : w16.cell? ⟨gb169, 1, none⟩ = some (.int .u32 a1_1) := (blk_cell BK169.out 1).trans rfl; have hcz17_2 : w16.cell? ⟨gb169, 2, none⟩ = some (.slice A1_2 l1_2.length c1_2) := (blk_cell BK169.out 2).trans rfl; have hfz17_0 := blk_frozen BK169.out 0; have hfz17_1 := blk_frozen BK169.out 1; have hfz17_2 := blk_frozen BK169.out 2) | (go_at_call 10; (with_reducible refine (lodgerref10_Few.calls a1_0 a1_1 _ _ l1_2 t172 _ ?side1 ?side2 A12.out).mono ?_); (case side1 => repeat (first | exact (Kd.V_reads' HO1_2.out).2.2 | (with_reducible refine Kd.C_alloc ?_ _) | (with_reducible refine Kd.C_drewN ?_ _) | (with_reducible refine Kd.C_drew ?_))); (case side2 => exact (Kd.V_reads' HO1_2.out).2.1); rintro e w18 ⟨rfl, hb⟩; have n0_ := Aside0.mk (Kd.V_below (by (with_reducible repeat (first | apply Kd.V_alloc | apply Kd.V_drewN | apply Kd.V_drew)); exact HO1_2.out) hb); have n1_ := Aside0.mk (blk_below (g := gb168) (o := .cells #[.int .u32 a0_0, .int .i64 a0_1, .slice A0_2 l0_2.length c0_2, .int .i64 a0_3, .int .i64 a0_4, .int .i64 a0_5, .int .i64 a0_6] 27 (0, 0)) (by (with_reducible repeat (first | refine blk_drewN ?_ _ | refine blk_drew ?_ | refine blk_alloc ?_ _)); exact BK168.out) hb); have n2_ := Aside0.mk (blk_below (g := gb169) (o := .cells #[.int .i64 a1_0, .int .u32 a1_1, .slice A1_2 l1_2.length c1_2] 30 (0, 0)) (by (with_reducible repeat (first | refine blk_drewN ?_ _ | refine blk_drew ?_ | refine blk_alloc ?_ _)); exact BK169.out) hb); have n3_ := Aside0.mk (below_step (by repeat (first | (with_reducible first | exact HB.out | apply below_alloc | apply pw_below_drewN | apply below_drew1 | refine below_set ?_ GE168.out | refine below_set ?_ GE169.out) | exact HB.out)) hb); clear HO1_2; clear BK168; clear BK169; clear HB; have HO1_2 := n0_; have BK168 := n1_; have BK169 := n2_; have HB := n3_; clear n0_ n1_ n2_ n3_; (try clear hb); (try clear hb2); (try clear hk); (try clear hi)))
    go_meet
    case rel => exact ⟨_, (!t172), (by first | rfl | (simp; done) | (simp [*]; done)), H', ⟨by first | omega | exact Nat.le_refl _⟩, ⟨by (with_reducible repeat (first | apply Kd.V_alloc | apply Kd.V_drewN | apply Kd.V_drew)); exact Kd.V_mono HO1_2.out (fun _ hk => ⟨hk.1.1, ⟨hk.1.2, hk.2⟩⟩)⟩, ⟨by (with_reducible repeat (first | refine blk_drewN ?_ _ | refine blk_drew ?_ | refine blk_alloc ?_ _)); exact BK168.out⟩, ⟨by (with_reducible repeat (first | refine blk_drewN ?_ _ | refine blk_drew ?_ | refine blk_alloc ?_ _)); exact BK169.out⟩, ⟨by repeat (first | (with_reducible first | exact HB.out | apply below_alloc | apply pw_below_drewN | apply below_drew1 | refine below_set ?_ GE168.out | refine below_set ?_ GE169.out) | exact HB.out)⟩⟩
   ·replace c11 := Bool.eq_false_iff.mpr c11
    subst c11
    have H1 : (lodgerlaw10_AskOthers.j0 k a2 a3 true a0_0 a0_1 l0_2 a0_3 a0_4 a0_5 a0_6 a1_0 a1_1 l1_2) = some r := by rw [if_neg (show ¬ (false = true) by decide)] at H; exact H
    clear H
    have H := H1
    clear H1
    have H' := Aside0.mk H
    clear H
    go_wp2_with (first | ((with_reducible refine gate_callee (f := 8) rfl ?_); refine goesL_ (some 11) rfl rfl Tryd.func8 (by kernel_rfl) rfl #[] rfl (by (try simp only [List.map_toArray, List.map_cons, List.map_nil]); first | done | rfl | (simp only [List.length_drop, List.length_take]; rfl)) ?_; (with_reducible refine (lodgerlaw10_awake.calls k  true _ ?side1 A8.out).mono ?_); (case side1 => exact Lg_below HG.out (by repeat (first | (with_reducible first | exact HB.out | apply below_alloc | apply pw_below_drewN | apply below_drew1 | refine below_set ?_ GE168.out | refine below_set ?_ GE169.out) | exact HB.out))); rintro e w19 ⟨rfl, hb⟩; refine ⟨_, rfl, ?_⟩; have n0_ := Aside0.mk (Kd.V_below (by (with_reducible repeat (first | apply Kd.V_alloc | apply Kd.V_drewN | apply Kd.V_drew)); exact HO1_2.out) hb); have n1_ := Aside0.mk (blk_below (g := gb168) (o := .cells #[.int .u32 a0_0, .int .i64 a0_1, .slice A0_2 l0_2.length c0_2, .int .i64 a0_3, .int .i64 a0_4, .int .i64 a0_5, .int .i64 a0_6] 27 (0, 0)) (by (with_reducible repeat (first | refine blk_drewN ?_ _ | refine blk_drew ?_ | refine blk_alloc ?_ _)); exact BK168.out) hb); have n2_ := Aside0.mk (blk_below (g := gb169) (o := .cells #[.int .i64 a1_0, .int .u32 a1_1, .slice A1_2 l1_2.length c1_2] 30 (0, 0)) (by (with_reducible repeat (first | refine blk_drewN ?_ _ | refine blk_drew ?_ | refine blk_alloc ?_ _)); exact BK169.out) hb); have n3_ := Aside0.mk (below_step (by repeat (first | (with_reducible first | exact HB.out | apply below_alloc | apply pw_below_drewN | apply below_drew1 | refine below_set ?_ GE168.out | refine below_set ?_ GE169.out) | exact HB.out)) hb); clear HO1_2; clear BK168; clear BK169; clear HB; have HO1_2 := n0_; have BK168 := n1_; have BK169 := n2_; have HB := n3_; clear n0_ n1_ n2_ n3_; (try clear hb); (try clear hb2); (try clear hk); (try clear hi); have hnb20 := NB168_169.out; have hnc20 := NB169_168.out; have hcz21_0 : w19.cell? ⟨gb168, 0, none⟩ = some (.int .u32 a0_0) := (blk_cell BK168.out 0).trans rfl; have hcz21_1 : w19.cell? ⟨gb168, 1, none⟩ = some (.int .i64 a0_1) := (blk_cell BK168.out 1).trans rfl; have hcz21_2 : w19.cell? ⟨gb168, 2, none⟩ = some (.slice A0_2 l0_2.length c0_2) := (blk_cell BK168.out 2).trans rfl; have hcz21_3 : w19.cell? ⟨gb168, 3, none⟩ = some (.int .i64 a0_3) := (blk_cell BK168.out 3).trans rfl; have hcz21_4 : w19.cell? ⟨gb168, 4, none⟩ = some (.int .i64 a0_4) := (blk_cell BK168.out 4).trans rfl; have hcz21_5 : w19.cell? ⟨gb168, 5, none⟩ = some (.int .i64 a0_5) := (blk_cell BK168.out 5).trans rfl; have hcz21_6 : w19.cell? ⟨gb168, 6, none⟩ = some (.int .i64 a0_6) := (blk_cell BK168.out 6).trans rfl; have hfz21_0 := blk_frozen BK168.out 0; have hfz21_1 := blk_frozen BK168.out 1; have hfz21_2 := blk_frozen BK168.out 2; have hfz21_3 := blk_frozen BK168.out 3; have hfz21_4 := blk_frozen BK168.out 4; have hfz21_5 := blk_frozen BK168.out 5; have hfz21_6 := blk_frozen BK168.out 6) | (go_at_call 9; (with_reducible refine (lodgerref05_May.calls k a0_0 a0_1 _ _ l0_2 a0_3 a0_4 a0_5 a0_6 false _ ?side1 ?side2 A10.out).mono ?_); (case side1 => repeat (first | exact (Kd.C_below HR0_2.out HB.out) | (with_reducible refine Kd.C_alloc ?_ _) | (with_reducible refine Kd.C_drewN ?_ _) | (with_reducible refine Kd.C_drew ?_))); (case side2 => exact HC0_2.out); rintro e w22 ⟨rfl, hb⟩; have n0_ := Aside0.mk (Kd.V_below (by (with_reducible repeat (first | apply Kd.V_alloc | apply Kd.V_drewN | apply Kd.V_drew)); exact HO1_2.out) hb); have n1_ := Aside0.mk (blk_below (g := gb168) (o := .cells #[.int .u32 a0_0, .int .i64 a0_1, .slice A0_2 l0_2.length c0_2, .int .i64 a0_3, .int .i64 a0_4, .int .i64 a0_5, .int .i64 a0_6] 27 (0, 0)) (by (with_reducible repeat (first | refine blk_drewN ?_ _ | refine blk_drew ?_ | refine blk_alloc ?_ _)); exact BK168.out) hb); have n2_ := Aside0.mk (blk_below (g := gb169) (o := .cells #[.int .i64 a1_0, .int .u32 a1_1, .slice A1_2 l1_2.length c1_2] 30 (0, 0)) (by (with_reducible repeat (first | refine blk_drewN ?_ _ | refine blk_drew ?_ | refine blk_alloc ?_ _)); exact BK169.out) hb); have n3_ := Aside0.mk (below_step (by repeat (first | (with_reducible first | exact HB.out | apply below_alloc | apply pw_below_drewN | apply below_drew1 | refine below_set ?_ GE168.out | refine below_set ?_ GE169.out) | exact HB.out)) hb); clear HO1_2; clear BK168; clear BK169; clear HB; have HO1_2 := n0_; have BK168 := n1_; have BK169 := n2_; have HB := n3_; clear n0_ n1_ n2_ n3_; (try clear hb); (try clear hb2); (try clear hk); (try clear hi)))
    go_meet
    case rel => exact ⟨_, (true), (by first | rfl | (simp; done) | (simp [*]; done)), H', ⟨by first | omega | exact Nat.le_refl _⟩, ⟨by (with_reducible repeat (first | apply Kd.V_alloc | apply Kd.V_drewN | apply Kd.V_drew)); exact Kd.V_mono HO1_2.out (fun _ hk => ⟨hk.1.1, ⟨hk.1.2, hk.2⟩⟩)⟩, ⟨by (with_reducible repeat (first | refine blk_drewN ?_ _ | refine blk_drew ?_ | refine blk_alloc ?_ _)); exact BK168.out⟩, ⟨by (with_reducible repeat (first | refine blk_drewN ?_ _ | refine blk_drew ?_ | refine blk_alloc ?_ _)); exact BK169.out⟩, ⟨by repeat (first | (with_reducible first | exact HB.out | apply below_alloc | apply pw_below_drewN | apply below_drew1 | refine below_set ?_ GE168.out | refine below_set ?_ GE169.out) | exact HB.out)⟩⟩
  ·replace c9 := Bool.eq_false_iff.mpr c9
   subst c9
   have H1 : (lodgerlaw10_AskOthers.j0 k a2 a3 true a0_0 a0_1 l0_2 a0_3 a0_4 a0_5 a0_6 a1_0 a1_1 l1_2) = some r := by rw [if_neg (show ¬ (false = true) by decide)] at H; exact H
   clear H
   have H := H1
   clear H1
   have H' := Aside0.mk H
   clear H
   go_wp2_with (first | ((with_reducible refine gate_callee (f := 8) rfl ?_); refine goesL_ (some 11) rfl rfl Tryd.func8 (by kernel_rfl) rfl #[] rfl (by (try simp only [List.map_toArray, List.map_cons, List.map_nil]); first | done | rfl | (simp only [List.length_drop, List.length_take]; rfl)) ?_; (with_reducible refine (lodgerlaw10_awake.calls k  false _ ?side1 A8.out).mono ?_); (case side1 => exact Lg_below HG.out (by repeat (first | (with_reducible first | exact HB.out | apply below_alloc | apply pw_below_drewN | apply below_drew1 | refine below_set ?_ GE168.out | refine below_set ?_ GE169.out) | exact HB.out))); rintro e w23 ⟨rfl, hb⟩; refine ⟨_, rfl, ?_⟩; have n0_ := Aside0.mk (Kd.V_below (by (with_reducible repeat (first | apply Kd.V_alloc | apply Kd.V_drewN | apply Kd.V_drew)); exact HO1_2.out) hb); have n1_ := Aside0.mk (blk_below (g := gb168) (o := .cells #[.int .u32 a0_0, .int .i64 a0_1, .slice A0_2 l0_2.length c0_2, .int .i64 a0_3, .int .i64 a0_4, .int .i64 a0_5, .int .i64 a0_6] 27 (0, 0)) (by (with_reducible repeat (first | refine blk_drewN ?_ _ | refine blk_drew ?_ | refine blk_alloc ?_ _)); exact BK168.out) hb); have n2_ := Aside0.mk (blk_below (g := gb169) (o := .cells #[.int .i64 a1_0, .int .u32 a1_1, .slice A1_2 l1_2.length c1_2] 30 (0, 0)) (by (with_reducible repeat (first | refine blk_drewN ?_ _ | refine blk_drew ?_ | refine blk_alloc ?_ _)); exact BK169.out) hb); have n3_ := Aside0.mk (below_step (by repeat (first | (with_reducible first | exact HB.out | apply below_alloc | apply pw_below_drewN | apply below_drew1 | refine below_set ?_ GE168.out | refine below_set ?_ GE169.out) | exact HB.out)) hb); clear HO1_2; clear BK168; clear BK169; clear HB; have HO1_2 := n0_; have BK168 := n1_; have BK169 := n2_; have HB := n3_; clear n0_ n1_ n2_ n3_; (try clear hb); (try clear hb2); (try clear hk); (try clear hi)))
   go_meet
   case rel => exact ⟨_, (true), (by first | rfl | (simp; done) | (simp [*]; done)), H', ⟨by first | omega | exact Nat.le_refl _⟩, ⟨by (with_reducible repeat (first | apply Kd.V_alloc | apply Kd.V_drewN | apply Kd.V_drew)); exact Kd.V_mono HO1_2.out (fun _ hk => ⟨hk.1.1, ⟨hk.1.2, hk.2⟩⟩)⟩, ⟨by (with_reducible repeat (first | refine blk_drewN ?_ _ | refine blk_drew ?_ | refine blk_alloc ?_ _)); exact BK168.out⟩, ⟨by (with_reducible repeat (first | refine blk_drewN ?_ _ | refine blk_drew ?_ | refine blk_alloc ?_ _)); exact BK169.out⟩, ⟨by repeat (first | (with_reducible first | exact HB.out | apply below_alloc | apply pw_below_drewN | apply below_drew1 | refine below_set ?_ GE168.out | refine below_set ?_ GE169.out) | exact HB.out)⟩⟩
 case rest =>
  clear HC5
  try clear c1
  try clear c2
  try clear p2
  try clear c5
  try clear c8
  try clear c9
  try clear c11
  try clear c14
  try clear c20
  try clear hcz15_0
  try clear hcz15_1
  try clear hcz15_2
  try clear hcz15_3
  try clear hcz15_4
  try clear hcz15_5
  try clear hcz15_6
  try clear hcz17_0
  try clear hcz17_1
  try clear hcz17_2
  try clear hcz21_0
  try clear hcz21_1
  try clear hcz21_2
  try clear hcz21_3
  try clear hcz21_4
  try clear hcz21_5
  try clear hcz21_6
  try clear hfz15_0
  try clear hfz15_1
  try clear hfz15_2
  try clear hfz15_3
  try clear hfz15_4
  try clear hfz15_5
  try clear hfz15_6
  try clear hfz17_0
  try clear hfz17_1
  try clear hfz17_2
  try clear hfz21_0
  try clear hfz21_1
  try clear hfz21_2
  try clear hfz21_3
  try clear hfz21_4
  try clear hfz21_5
  try clear hfz21_6
  obtain ⟨kq, x22_4, rfl, HA, HJ4, HO_170002, BK168, BK169, HB⟩ := hcut
  cases kq with
  | zero => exact absurd HA.out (by simp [lodgerlaw10_AskOthers.j0])
  | succ kj4 =>
   have H := HA.out
   clear HA
   simp only [lodgerlaw10_AskOthers.j0] at H
   by_cases c24 : x22_4 = true
   ·subst c24
    have H1 : ((lodgerlaw10_awake.f kj4).bind fun t173 => (some t173)) = some r := by rw [if_pos rfl] at H; exact H
    clear H
    have H := H1
    clear H1
    replace H := Option.bind_eq_some_iff.mp H
    obtain ⟨t173, A250, H⟩ := H
    replace H : (some t173) = some r := H
    have A25 := Aside0.mk A250
    clear A250
    first | (exfalso; rw [hr_.out] at H; exact absurd (Option.some.inj H) (by decide)) | (try clear hr_)
    all_goals
     obtain rfl := Option.some.inj H
     go_wp2_with (first | ((with_reducible refine gate_callee (f := 8) rfl ?_); refine goesL_ (some 23) rfl rfl Tryd.func8 (by kernel_rfl) rfl #[] rfl (by (try simp only [List.map_toArray, List.map_cons, List.map_nil]); first | done | rfl | (simp only [List.length_drop, List.length_take]; rfl)) ?_; (with_reducible refine (lodgerlaw10_awake.calls kj4  t173 _ ?side1 A25.out).mono ?_); (case side1 => exact Lg_below HG.out (by repeat (first | (with_reducible first | exact HB.out | apply below_alloc | apply pw_below_drewN | apply below_drew1 | refine below_set ?_ GE168.out | refine below_set ?_ GE169.out) | exact HB.out))); rintro e w26 ⟨rfl, hb⟩; refine ⟨_, rfl, ?_⟩; have n0_ := Aside0.mk (Kd.V_below (by (with_reducible repeat (first | apply Kd.V_alloc | apply Kd.V_drewN | apply Kd.V_drew)); exact HO_170002.out) hb); have n1_ := Aside0.mk (blk_below (g := gb168) (o := .cells #[.int .u32 a0_0, .int .i64 a0_1, .slice A0_2 l0_2.length c0_2, .int .i64 a0_3, .int .i64 a0_4, .int .i64 a0_5, .int .i64 a0_6] 27 (0, 0)) (by (with_reducible repeat (first | refine blk_drewN ?_ _ | refine blk_drew ?_ | refine blk_alloc ?_ _)); exact BK168.out) hb); have n2_ := Aside0.mk (blk_below (g := gb169) (o := .cells #[.int .i64 a1_0, .int .u32 a1_1, .slice A1_2 l1_2.length c1_2] 30 (0, 0)) (by (with_reducible repeat (first | refine blk_drewN ?_ _ | refine blk_drew ?_ | refine blk_alloc ?_ _)); exact BK169.out) hb); have n3_ := Aside0.mk (below_step (by repeat (first | (with_reducible first | exact HB.out | apply below_alloc | apply pw_below_drewN | apply below_drew1 | refine below_set ?_ GE168.out | refine below_set ?_ GE169.out) | exact HB.out)) hb); clear HO_170002; clear BK168; clear BK169; clear HB; have HO_170002 := n0_; have BK168 := n1_; have BK169 := n2_; have HB := n3_; clear n0_ n1_ n2_ n3_; (try clear hb); (try clear hb2); (try clear hk); (try clear hi)))
     go_ret
     exact ⟨by first | rfl | (simp [errW_none, errW_some] <;> rfl) | (simp [*, errW_none, errW_some] <;> rfl), by repeat (first | (with_reducible first | exact HB.out | apply below_alloc | apply pw_below_drewN | apply below_drew1 | refine below_set ?_ GE168.out | refine below_set ?_ GE169.out) | exact HB.out)⟩
   ·replace c24 := Bool.eq_false_iff.mpr c24
    subst c24
    have H1 : (if a1_0 = 1 then (lodgerlaw10_AskOthers.j1 kj4 a2 a3 true a0_0 a0_1 l0_2 a0_3 a0_4 a0_5 a0_6 a1_0 a1_1 l1_2 a1_0 a1_1 l1_2) else (if a1_0 = 4 then (lodgerlaw10_AskOthers.j1 kj4 a2 a3 true a0_0 a0_1 l0_2 a0_3 a0_4 a0_5 a0_6 a1_0 a1_1 l1_2 a1_0 a1_1 l1_2) else (if a1_0 = 6 then (lodgerlaw10_AskOthers.j1 kj4 a2 a3 true a0_0 a0_1 l0_2 a0_3 a0_4 a0_5 a0_6 a1_0 a1_1 l1_2 a1_0 a1_1 l1_2) else (lodgerlaw10_AskOthers.j1 kj4 a2 a3 (a1_0 == 7) a0_0 a0_1 l0_2 a0_3 a0_4 a0_5 a0_6 a1_0 a1_1 l1_2 a1_0 a1_1 l1_2)))) = some r := by rw [if_neg (show ¬ (false = true) by decide)] at H; exact H
    clear H
    have H := H1
    clear H1
    have HC27 := Aside0.mk H
    clear H
    have hnb28 := NB169_168.out
    have hnc28 := NB168_169.out
    have hcz29_0 : wc.cell? ⟨gb169, 0, none⟩ = some (.int .i64 a1_0) := (blk_cell BK169.out 0).trans rfl
    have hcz29_1 : wc.cell? ⟨gb169, 1, none⟩ = some (.int .u32 a1_1) := (blk_cell BK169.out 1).trans rfl
    have hcz29_2 : wc.cell? ⟨gb169, 2, none⟩ = some (.slice A1_2 l1_2.length c1_2) := (blk_cell BK169.out 2).trans rfl
    have hfz29_0 := blk_frozen BK169.out 0
    have hfz29_1 := blk_frozen BK169.out 1
    have hfz29_2 := blk_frozen BK169.out 2
    go_upto_region 4 with (first | ((with_reducible refine gate_dst (N := 9) rfl ?_); (try (refine gate_guard (by rfl) ?_; dsimp only)); refine box_event ?hg (N := 9) ?hd (cs := #[.int .i64 0, .int .u32 0, .slice none 0 0]) (t := 30) ?hr ?_; (case hd => rfl); (case hg => rfl); (case hr => first | (go_simp; done) | (go_simp; rfl)); intro gb174 hg w30 hbox hb; have n0_ := Aside0.mk (Kd.V_below (Kd.V_elderB (by (with_reducible repeat (first | apply Kd.V_alloc | apply Kd.V_drewN | apply Kd.V_drew)); exact HO_170002.out) gb174 (Nat.le_of_eq hg.symm)) hb); have n1_ := Aside0.mk (blk_below (g := gb168) (o := .cells #[.int .u32 a0_0, .int .i64 a0_1, .slice A0_2 l0_2.length c0_2, .int .i64 a0_3, .int .i64 a0_4, .int .i64 a0_5, .int .i64 a0_6] 27 (0, 0)) (by (with_reducible repeat (first | refine blk_drewN ?_ _ | refine blk_drew ?_ | refine blk_alloc ?_ _)); exact BK168.out) hb); have n2_ := Aside0.mk (blk_below (g := gb169) (o := .cells #[.int .i64 a1_0, .int .u32 a1_1, .slice A1_2 l1_2.length c1_2] 30 (0, 0)) (by (with_reducible repeat (first | refine blk_drewN ?_ _ | refine blk_drew ?_ | refine blk_alloc ?_ _)); exact BK169.out) hb); have n3_ := Aside0.mk (below_step (by repeat (first | (with_reducible first | exact HB.out | apply below_alloc | apply pw_below_drewN | apply below_drew1 | refine below_set ?_ GE168.out | refine below_set ?_ GE169.out) | exact HB.out)) hb); have n4_ := Aside0.mk (hbox); have n5_ := Aside0.mk ((by rw [hg]; exact (below_size (by repeat (first | (with_reducible first | exact HB.out | apply below_alloc | apply pw_below_drewN | apply below_drew1 | refine below_set ?_ GE168.out | refine below_set ?_ GE169.out) | exact HB.out))) : w.heap.size ≤ gb174)); have n6_ := Aside0.mk ((by rw [hg]; exact (below_size (by repeat (first | (with_reducible first | exact HB.out | apply below_alloc | apply pw_below_drewN | apply below_drew1 | refine below_set ?_ GE168.out | refine below_set ?_ GE169.out) | exact HB.out))) : w.heap.size ≤ gb174)); have n7_ := Aside0.mk ((by rw [hg]; exact Nat.ne_of_lt (blk_lt (g := gb168) (o := .cells #[.int .u32 a0_0, .int .i64 a0_1, .slice A0_2 l0_2.length c0_2, .int .i64 a0_3, .int .i64 a0_4, .int .i64 a0_5, .int .i64 a0_6] 27 (0, 0)) (by (with_reducible repeat (first | refine blk_drewN ?_ _ | refine blk_drew ?_ | refine blk_alloc ?_ _)); exact BK168.out)) : gb168 ≠ gb174)); have n8_ := Aside0.mk ((by rw [hg]; exact Nat.ne_of_gt (blk_lt (g := gb168) (o := .cells #[.int .u32 a0_0, .int .i64 a0_1, .slice A0_2 l0_2.length c0_2, .int .i64 a0_3, .int .i64 a0_4, .int .i64 a0_5, .int .i64 a0_6] 27 (0, 0)) (by (with_reducible repeat (first | refine blk_drewN ?_ _ | refine blk_drew ?_ | refine blk_alloc ?_ _)); exact BK168.out)) : gb174 ≠ gb168)); have n9_ := Aside0.mk ((by rw [hg]; exact Nat.ne_of_lt (blk_lt (g := gb169) (o := .cells #[.int .i64 a1_0, .int .u32 a1_1, .slice A1_2 l1_2.length c1_2] 30 (0, 0)) (by (with_reducible repeat (first | refine blk_drewN ?_ _ | refine blk_drew ?_ | refine blk_alloc ?_ _)); exact BK169.out)) : gb169 ≠ gb174)); have n10_ := Aside0.mk ((by rw [hg]; exact Nat.ne_of_gt (blk_lt (g := gb169) (o := .cells #[.int .i64 a1_0, .int .u32 a1_1, .slice A1_2 l1_2.length c1_2] 30 (0, 0)) (by (with_reducible repeat (first | refine blk_drewN ?_ _ | refine blk_drew ?_ | refine blk_alloc ?_ _)); exact BK169.out)) : gb174 ≠ gb169)); clear HO_170002; clear BK168; clear BK169; clear HB; have HO_170002 := n0_; have BK168 := n1_; have BK169 := n2_; have HB := n3_; have BK174 := n4_; have GW174 := n5_; have GE174 := n6_; have NB168_174 := n7_; have NB174_168 := n8_; have NB169_174 := n9_; have NB174_169 := n10_; clear n0_ n1_ n2_ n3_ n4_ n5_ n6_ n7_ n8_ n9_ n10_; clear hb hbox hg; have hnb31 := NB174_168.out; have hnc31 := NB168_174.out; have hnb32 := NB174_169.out; have hnc32 := NB169_174.out; have hcz33_0 : w30.cell? ⟨gb174, 0, none⟩ = some (.int .i64 0) := (blk_cell BK174.out 0).trans rfl; have hcz33_1 : w30.cell? ⟨gb174, 1, none⟩ = some (.int .u32 0) := (blk_cell BK174.out 1).trans rfl; have hcz33_2 : w30.cell? ⟨gb174, 2, none⟩ = some (.slice none 0 0) := (blk_cell BK174.out 2).trans rfl; have hfz33_0 := blk_frozen BK174.out 0; have hfz33_1 := blk_frozen BK174.out 1; have hfz33_2 := blk_frozen BK174.out 2))
    (try simp only [Act.put, List.setIfInBounds_toArray, List.set_cons_zero, List.set_cons_succ])
    go_cut [42] (fun v42 wc => ∃ (kq : Nat) (x42_26 : Bool), v42 = .bool x42_26 ∧ Aside0 (lodgerlaw10_AskOthers.j1 kq a2 a3 x42_26 a0_0 a0_1 l0_2 a0_3 a0_4 a0_5 a0_6 a1_0 a1_1 l1_2 a1_0 a1_1 l1_2 = some r) ∧ Aside0 (kq ≤ kj4) ∧ Aside0 (Kd.V (Kd.int .u32) 22 wc w.heap.size (fun k_ => (P1_2_ k_ ∨ w.heap.size ≤ k_) ∧ k_ ≠ gb168 ∧ k_ ≠ gb169 ∧ k_ ≠ gb174) (.slice A1_2 l1_2.length c1_2) l1_2) ∧ Aside0 (Kd.V (Kd.int .u32) 22 wc w.heap.size (fun k_ => (P1_2_ k_ ∨ w.heap.size ≤ k_) ∧ k_ ≠ gb168 ∧ k_ ≠ gb169 ∧ k_ ≠ gb174) (.slice A1_2 l1_2.length c1_2) l1_2) ∧ Aside0 (wc.heap[gb168]? = some (.cells #[.int .u32 a0_0, .int .i64 a0_1, (.slice A0_2 l0_2.length c0_2), .int .i64 a0_3, .int .i64 a0_4, .int .i64 a0_5, .int .i64 a0_6] 27 (0, 0))) ∧ Aside0 (wc.heap[gb169]? = some (.cells #[.int .i64 a1_0, .int .u32 a1_1, (.slice A1_2 l1_2.length c1_2)] 30 (0, 0))) ∧ Aside0 (wc.heap[gb174]? = some (.cells #[.int .i64 a1_0, .int .u32 a1_1, (.slice A1_2 l1_2.length c1_2)] 30 (0, 0))) ∧ Aside0 (Below w.heap.size w wc))
    case first =>
     have H := HC27.out
     clear HC27
     by_cases c34 : a1_0 = 1
     ·rw [if_pos c34] at H
      have c34b0 : (a1_0 == 1) = true := beq_iff_eq.mpr c34
      have c34b1 : (a1_0 != 1) = false := bne_eq_false_iff_eq.mpr c34
      clear c34
      (first | rw [c34b0] | (simp only [i64_w, i32_w]; rw [c34b0]) | skip)
      have H' := Aside0.mk H
      clear H
      have hnb35 := NB169_168.out
      have hnc35 := NB168_169.out
      have hnb36 := NB169_174.out
      have hnc36 := NB174_169.out
      have hcz37_0 : w30.cell? ⟨gb169, 0, none⟩ = some (.int .i64 a1_0) := (blk_cell BK169.out 0).trans rfl
      have hcz37_1 : w30.cell? ⟨gb169, 1, none⟩ = some (.int .u32 a1_1) := (blk_cell BK169.out 1).trans rfl
      have hcz37_2 : w30.cell? ⟨gb169, 2, none⟩ = some (.slice A1_2 l1_2.length c1_2) := (blk_cell BK169.out 2).trans rfl
      have hfz37_0 := blk_frozen BK169.out 0
      have hfz37_1 := blk_frozen BK169.out 1
      have hfz37_2 := blk_frozen BK169.out 2
      go_wp2
      go_meet
      case rel => exact ⟨_, (true), (by first | rfl | (simp; done) | (simp [*]; done)), H', ⟨by have := HJ4.out; first | omega | exact Nat.le_refl _⟩, ⟨by (with_reducible repeat (first | apply Kd.V_alloc | apply Kd.V_drewN | apply Kd.V_drew)); exact Kd.V_mono (Kd.V_far (p := ⟨gb174, 2, none⟩) (Kd.V_far (p := ⟨gb174, 1, none⟩) (Kd.V_far (p := ⟨gb174, 0, none⟩) (Kd.V_mono HO_170002.out (fun k_ hk => (⟨hk, hk.2⟩ : _ ∧ k_ ≠ gb174))) (fun _ hk => hk.2) (.int .i64 a1_0)) (fun _ hk => hk.2) (.int .u32 a1_1)) (fun _ hk => hk.2) (.slice A1_2 l1_2.length c1_2)) (fun _ hk => ⟨hk.1.1.1, ⟨hk.1.1.2.1, ⟨hk.1.1.2.2, hk.1.2⟩⟩⟩)⟩, ⟨by (with_reducible repeat (first | apply Kd.V_alloc | apply Kd.V_drewN | apply Kd.V_drew)); exact Kd.V_mono (Kd.V_far (p := ⟨gb174, 2, none⟩) (Kd.V_far (p := ⟨gb174, 1, none⟩) (Kd.V_far (p := ⟨gb174, 0, none⟩) (Kd.V_mono HO_170002.out (fun k_ hk => (⟨hk, hk.2⟩ : _ ∧ k_ ≠ gb174))) (fun _ hk => hk.2) (.int .i64 a1_0)) (fun _ hk => hk.2) (.int .u32 a1_1)) (fun _ hk => hk.2) (.slice A1_2 l1_2.length c1_2)) (fun _ hk => ⟨hk.1.1.1, ⟨hk.1.1.2.1, ⟨hk.1.1.2.2, hk.1.2⟩⟩⟩)⟩, ⟨by (with_reducible repeat (first | refine blk_drewN ?_ _ | refine blk_drew ?_ | refine blk_alloc ?_ _)); refine blk_far ?_ NB168_174.out _; (with_reducible repeat (first | refine blk_drewN ?_ _ | refine blk_drew ?_ | refine blk_alloc ?_ _)); refine blk_far ?_ NB168_174.out _; (with_reducible repeat (first | refine blk_drewN ?_ _ | refine blk_drew ?_ | refine blk_alloc ?_ _)); refine blk_far ?_ NB168_174.out _; (with_reducible repeat (first | refine blk_drewN ?_ _ | refine blk_drew ?_ | refine blk_alloc ?_ _)); exact BK168.out⟩, ⟨by (with_reducible repeat (first | refine blk_drewN ?_ _ | refine blk_drew ?_ | refine blk_alloc ?_ _)); refine blk_far ?_ NB169_174.out _; (with_reducible repeat (first | refine blk_drewN ?_ _ | refine blk_drew ?_ | refine blk_alloc ?_ _)); refine blk_far ?_ NB169_174.out _; (with_reducible repeat (first | refine blk_drewN ?_ _ | refine blk_drew ?_ | refine blk_alloc ?_ _)); refine blk_far ?_ NB169_174.out _; (with_reducible repeat (first | refine blk_drewN ?_ _ | refine blk_drew ?_ | refine blk_alloc ?_ _)); exact BK169.out⟩, ⟨by (with_reducible repeat (first | refine blk_drewN ?_ _ | refine blk_drew ?_ | refine blk_alloc ?_ _)); refine blk_put (cs := #[.int .i64 a1_0, .int .u32 a1_1, .slice none 0 0]) ?_ 2 _ rfl; (with_reducible repeat (first | refine blk_drewN ?_ _ | refine blk_drew ?_ | refine blk_alloc ?_ _)); refine blk_put (cs := #[.int .i64 a1_0, .int .u32 0, .slice none 0 0]) ?_ 1 _ rfl; (with_reducible repeat (first | refine blk_drewN ?_ _ | refine blk_drew ?_ | refine blk_alloc ?_ _)); refine blk_put (cs := #[.int .i64 0, .int .u32 0, .slice none 0 0]) ?_ 0 _ rfl; (with_reducible repeat (first | refine blk_drewN ?_ _ | refine blk_drew ?_ | refine blk_alloc ?_ _)); exact BK174.out⟩, ⟨by repeat (first | (with_reducible first | exact HB.out | apply below_alloc | apply pw_below_drewN | apply below_drew1 | refine below_set ?_ GE168.out | refine below_set ?_ GE169.out | refine below_set ?_ GE174.out) | exact HB.out)⟩⟩
     ·rw [if_neg c34] at H
      have c34b0 : (a1_0 == 1) = false := beq_eq_false_iff_ne.mpr c34
      have c34b1 : (a1_0 != 1) = true := bne_iff_ne.mpr c34
      (first | rw [c34b0] | (simp only [i64_w, i32_w]; rw [c34b0]) | skip)
      by_cases c38 : a1_0 = 4
      ·rw [if_pos c38] at H
       have c38b0 : (a1_0 == 4) = true := beq_iff_eq.mpr c38
       have c38b1 : (a1_0 != 4) = false := bne_eq_false_iff_eq.mpr c38
       clear c38
       have H' := Aside0.mk H
       clear H
       have hnb39 := NB169_168.out
       have hnc39 := NB168_169.out
       have hnb40 := NB169_174.out
       have hnc40 := NB174_169.out
       have hcz41_0 : w30.cell? ⟨gb169, 0, none⟩ = some (.int .i64 a1_0) := (blk_cell BK169.out 0).trans rfl
       have hcz41_1 : w30.cell? ⟨gb169, 1, none⟩ = some (.int .u32 a1_1) := (blk_cell BK169.out 1).trans rfl
       have hcz41_2 : w30.cell? ⟨gb169, 2, none⟩ = some (.slice A1_2 l1_2.length c1_2) := (blk_cell BK169.out 2).trans rfl
       have hfz41_0 := blk_frozen BK169.out 0
       have hfz41_1 := blk_frozen BK169.out 1
       have hfz41_2 := blk_frozen BK169.out 2
       go_wp2
       go_meet
       case rel => exact ⟨_, (true), (by first | rfl | (simp; done) | (simp [*]; done)), H', ⟨by have := HJ4.out; first | omega | exact Nat.le_refl _⟩, ⟨by (with_reducible repeat (first | apply Kd.V_alloc | apply Kd.V_drewN | apply Kd.V_drew)); exact Kd.V_mono (Kd.V_far (p := ⟨gb174, 2, none⟩) (Kd.V_far (p := ⟨gb174, 1, none⟩) (Kd.V_far (p := ⟨gb174, 0, none⟩) (Kd.V_mono HO_170002.out (fun k_ hk => (⟨hk, hk.2⟩ : _ ∧ k_ ≠ gb174))) (fun _ hk => hk.2) (.int .i64 a1_0)) (fun _ hk => hk.2) (.int .u32 a1_1)) (fun _ hk => hk.2) (.slice A1_2 l1_2.length c1_2)) (fun _ hk => ⟨hk.1.1.1, ⟨hk.1.1.2.1, ⟨hk.1.1.2.2, hk.1.2⟩⟩⟩)⟩, ⟨by (with_reducible repeat (first | apply Kd.V_alloc | apply Kd.V_drewN | apply Kd.V_drew)); exact Kd.V_mono (Kd.V_far (p := ⟨gb174, 2, none⟩) (Kd.V_far (p := ⟨gb174, 1, none⟩) (Kd.V_far (p := ⟨gb174, 0, none⟩) (Kd.V_mono HO_170002.out (fun k_ hk => (⟨hk, hk.2⟩ : _ ∧ k_ ≠ gb174))) (fun _ hk => hk.2) (.int .i64 a1_0)) (fun _ hk => hk.2) (.int .u32 a1_1)) (fun _ hk => hk.2) (.slice A1_2 l1_2.length c1_2)) (fun _ hk => ⟨hk.1.1.1, ⟨hk.1.1.2.1, ⟨hk.1.1.2.2, hk.1.2⟩⟩⟩)⟩, ⟨by (with_reducible repeat (first | refine blk_drewN ?_ _ | refine blk_drew ?_ | refine blk_alloc ?_ _)); refine blk_far ?_ NB168_174.out _; (with_reducible repeat (first | refine blk_drewN ?_ _ | refine blk_drew ?_ | refine blk_alloc ?_ _)); refine blk_far ?_ NB168_174.out _; (with_reducible repeat (first | refine blk_drewN ?_ _ | refine blk_drew ?_ | refine blk_alloc ?_ _)); refine blk_far ?_ NB168_174.out _; (with_reducible repeat (first | refine blk_drewN ?_ _ | refine blk_drew ?_ | refine blk_alloc ?_ _)); exact BK168.out⟩, ⟨by (with_reducible repeat (first | refine blk_drewN ?_ _ | refine blk_drew ?_ | refine blk_alloc ?_ _)); refine blk_far ?_ NB169_174.out _; (with_reducible repeat (first | refine blk_drewN ?_ _ | refine blk_drew ?_ | refine blk_alloc ?_ _)); refine blk_far ?_ NB169_174.out _; (with_reducible repeat (first | refine blk_drewN ?_ _ | refine blk_drew ?_ | refine blk_alloc ?_ _)); refine blk_far ?_ NB169_174.out _; (with_reducible repeat (first | refine blk_drewN ?_ _ | refine blk_drew ?_ | refine blk_alloc ?_ _)); exact BK169.out⟩, ⟨by (with_reducible repeat (first | refine blk_drewN ?_ _ | refine blk_drew ?_ | refine blk_alloc ?_ _)); refine blk_put (cs := #[.int .i64 a1_0, .int .u32 a1_1, .slice none 0 0]) ?_ 2 _ rfl; (with_reducible repeat (first | refine blk_drewN ?_ _ | refine blk_drew ?_ | refine blk_alloc ?_ _)); refine blk_put (cs := #[.int .i64 a1_0, .int .u32 0, .slice none 0 0]) ?_ 1 _ rfl; (with_reducible repeat (first | refine blk_drewN ?_ _ | refine blk_drew ?_ | refine blk_alloc ?_ _)); refine blk_put (cs := #[.int .i64 0, .int .u32 0, .slice none 0 0]) ?_ 0 _ rfl; (with_reducible repeat (first | refine blk_drewN ?_ _ | refine blk_drew ?_ | refine blk_alloc ?_ _)); exact BK174.out⟩, ⟨by repeat (first | (with_reducible first | exact HB.out | apply below_alloc | apply pw_below_drewN | apply below_drew1 | refine below_set ?_ GE168.out | refine below_set ?_ GE169.out | refine below_set ?_ GE174.out) | exact HB.out)⟩⟩
      ·rw [if_neg c38] at H
       have c38b0 : (a1_0 == 4) = false := beq_eq_false_iff_ne.mpr c38
       have c38b1 : (a1_0 != 4) = true := bne_iff_ne.mpr c38
       by_cases c42 : a1_0 = 6
       ·rw [if_pos c42] at H
        have c42b0 : (a1_0 == 6) = true := beq_iff_eq.mpr c42
        have c42b1 : (a1_0 != 6) = false := bne_eq_false_iff_eq.mpr c42
        clear c42
        have H' := Aside0.mk H
        clear H
        have hnb43 := NB169_168.out
        have hnc43 := NB168_169.out
        have hnb44 := NB169_174.out
        have hnc44 := NB174_169.out
        have hcz45_0 : w30.cell? ⟨gb169, 0, none⟩ = some (.int .i64 a1_0) := (blk_cell BK169.out 0).trans rfl
        have hcz45_1 : w30.cell? ⟨gb169, 1, none⟩ = some (.int .u32 a1_1) := (blk_cell BK169.out 1).trans rfl
        have hcz45_2 : w30.cell? ⟨gb169, 2, none⟩ = some (.slice A1_2 l1_2.length c1_2) := (blk_cell BK169.out 2).trans rfl
        have hfz45_0 := blk_frozen BK169.out 0
        have hfz45_1 := blk_frozen BK169.out 1
        have hfz45_2 := blk_frozen BK169.out 2
        go_wp2
        go_meet
        case rel => exact ⟨_, (true), (by first | rfl | (simp; done) | (simp [*]; done)), H', ⟨by have := HJ4.out; first | omega | exact Nat.le_refl _⟩, ⟨by (with_reducible repeat (first | apply Kd.V_alloc | apply Kd.V_drewN | apply Kd.V_drew)); exact Kd.V_mono (Kd.V_far (p := ⟨gb174, 2, none⟩) (Kd.V_far (p := ⟨gb174, 1, none⟩) (Kd.V_far (p := ⟨gb174, 0, none⟩) (Kd.V_mono HO_170002.out (fun k_ hk => (⟨hk, hk.2⟩ : _ ∧ k_ ≠ gb174))) (fun _ hk => hk.2) (.int .i64 a1_0)) (fun _ hk => hk.2) (.int .u32 a1_1)) (fun _ hk => hk.2) (.slice A1_2 l1_2.length c1_2)) (fun _ hk => ⟨hk.1.1.1, ⟨hk.1.1.2.1, ⟨hk.1.1.2.2, hk.1.2⟩⟩⟩)⟩, ⟨by (with_reducible repeat (first | apply Kd.V_alloc | apply Kd.V_drewN | apply Kd.V_drew)); exact Kd.V_mono (Kd.V_far (p := ⟨gb174, 2, none⟩) (Kd.V_far (p := ⟨gb174, 1, none⟩) (Kd.V_far (p := ⟨gb174, 0, none⟩) (Kd.V_mono HO_170002.out (fun k_ hk => (⟨hk, hk.2⟩ : _ ∧ k_ ≠ gb174))) (fun _ hk => hk.2) (.int .i64 a1_0)) (fun _ hk => hk.2) (.int .u32 a1_1)) (fun _ hk => hk.2) (.slice A1_2 l1_2.length c1_2)) (fun _ hk => ⟨hk.1.1.1, ⟨hk.1.1.2.1, ⟨hk.1.1.2.2, hk.1.2⟩⟩⟩)⟩, ⟨by (with_reducible repeat (first | refine blk_drewN ?_ _ | refine blk_drew ?_ | refine blk_alloc ?_ _)); refine blk_far ?_ NB168_174.out _; (with_reducible repeat (first | refine blk_drewN ?_ _ | refine blk_drew ?_ | refine blk_alloc ?_ _)); refine blk_far ?_ NB168_174.out _; (with_reducible repeat (first | refine blk_drewN ?_ _ | refine blk_drew ?_ | refine blk_alloc ?_ _)); refine blk_far ?_ NB168_174.out _; (with_reducible repeat (first | refine blk_drewN ?_ _ | refine blk_drew ?_ | refine blk_alloc ?_ _)); exact BK168.out⟩, ⟨by (with_reducible repeat (first | refine blk_drewN ?_ _ | refine blk_drew ?_ | refine blk_alloc ?_ _)); refine blk_far ?_ NB169_174.out _; (with_reducible repeat (first | refine blk_drewN ?_ _ | refine blk_drew ?_ | refine blk_alloc ?_ _)); refine blk_far ?_ NB169_174.out _; (with_reducible repeat (first | refine blk_drewN ?_ _ | refine blk_drew ?_ | refine blk_alloc ?_ _)); refine blk_far ?_ NB169_174.out _; (with_reducible repeat (first | refine blk_drewN ?_ _ | refine blk_drew ?_ | refine blk_alloc ?_ _)); exact BK169.out⟩, ⟨by (with_reducible repeat (first | refine blk_drewN ?_ _ | refine blk_drew ?_ | refine blk_alloc ?_ _)); refine blk_put (cs := #[.int .i64 a1_0, .int .u32 a1_1, .slice none 0 0]) ?_ 2 _ rfl; (with_reducible repeat (first | refine blk_drewN ?_ _ | refine blk_drew ?_ | refine blk_alloc ?_ _)); refine blk_put (cs := #[.int .i64 a1_0, .int .u32 0, .slice none 0 0]) ?_ 1 _ rfl; (with_reducible repeat (first | refine blk_drewN ?_ _ | refine blk_drew ?_ | refine blk_alloc ?_ _)); refine blk_put (cs := #[.int .i64 0, .int .u32 0, .slice none 0 0]) ?_ 0 _ rfl; (with_reducible repeat (first | refine blk_drewN ?_ _ | refine blk_drew ?_ | refine blk_alloc ?_ _)); exact BK174.out⟩, ⟨by repeat (first | (with_reducible first | exact HB.out | apply below_alloc | apply pw_below_drewN | apply below_drew1 | refine below_set ?_ GE168.out | refine below_set ?_ GE169.out | refine below_set ?_ GE174.out) | exact HB.out)⟩⟩
       ·rw [if_neg c42] at H
        have c42b0 : (a1_0 == 6) = false := beq_eq_false_iff_ne.mpr c42
        have c42b1 : (a1_0 != 6) = true := bne_iff_ne.mpr c42
        have H' := Aside0.mk H
        clear H
        have hnb46 := NB169_168.out
        have hnc46 := NB168_169.out
        have hnb47 := NB169_174.out
        have hnc47 := NB174_169.out
        have hcz48_0 : w30.cell? ⟨gb169, 0, none⟩ = some (.int .i64 a1_0) := (blk_cell BK169.out 0).trans rfl
        have hcz48_1 : w30.cell? ⟨gb169, 1, none⟩ = some (.int .u32 a1_1) := (blk_cell BK169.out 1).trans rfl
        have hcz48_2 : w30.cell? ⟨gb169, 2, none⟩ = some (.slice A1_2 l1_2.length c1_2) := (blk_cell BK169.out 2).trans rfl
        have hfz48_0 := blk_frozen BK169.out 0
        have hfz48_1 := blk_frozen BK169.out 1
        have hfz48_2 := blk_frozen BK169.out 2
        go_wp2
        go_meet
        case rel => exact ⟨_, ((a1_0 == 7)), (by first | rfl | (simp; done) | (simp [*]; done)), H', ⟨by have := HJ4.out; first | omega | exact Nat.le_refl _⟩, ⟨by (with_reducible repeat (first | apply Kd.V_alloc | apply Kd.V_drewN | apply Kd.V_drew)); exact Kd.V_mono (Kd.V_far (p := ⟨gb174, 2, none⟩) (Kd.V_far (p := ⟨gb174, 1, none⟩) (Kd.V_far (p := ⟨gb174, 0, none⟩) (Kd.V_mono HO_170002.out (fun k_ hk => (⟨hk, hk.2⟩ : _ ∧ k_ ≠ gb174))) (fun _ hk => hk.2) (.int .i64 a1_0)) (fun _ hk => hk.2) (.int .u32 a1_1)) (fun _ hk => hk.2) (.slice A1_2 l1_2.length c1_2)) (fun _ hk => ⟨hk.1.1.1, ⟨hk.1.1.2.1, ⟨hk.1.1.2.2, hk.1.2⟩⟩⟩)⟩, ⟨by (with_reducible repeat (first | apply Kd.V_alloc | apply Kd.V_drewN | apply Kd.V_drew)); exact Kd.V_mono (Kd.V_far (p := ⟨gb174, 2, none⟩) (Kd.V_far (p := ⟨gb174, 1, none⟩) (Kd.V_far (p := ⟨gb174, 0, none⟩) (Kd.V_mono HO_170002.out (fun k_ hk => (⟨hk, hk.2⟩ : _ ∧ k_ ≠ gb174))) (fun _ hk => hk.2) (.int .i64 a1_0)) (fun _ hk => hk.2) (.int .u32 a1_1)) (fun _ hk => hk.2) (.slice A1_2 l1_2.length c1_2)) (fun _ hk => ⟨hk.1.1.1, ⟨hk.1.1.2.1, ⟨hk.1.1.2.2, hk.1.2⟩⟩⟩)⟩, ⟨by (with_reducible repeat (first | refine blk_drewN ?_ _ | refine blk_drew ?_ | refine blk_alloc ?_ _)); refine blk_far ?_ NB168_174.out _; (with_reducible repeat (first | refine blk_drewN ?_ _ | refine blk_drew ?_ | refine blk_alloc ?_ _)); refine blk_far ?_ NB168_174.out _; (with_reducible repeat (first | refine blk_drewN ?_ _ | refine blk_drew ?_ | refine blk_alloc ?_ _)); refine blk_far ?_ NB168_174.out _; (with_reducible repeat (first | refine blk_drewN ?_ _ | refine blk_drew ?_ | refine blk_alloc ?_ _)); exact BK168.out⟩, ⟨by (with_reducible repeat (first | refine blk_drewN ?_ _ | refine blk_drew ?_ | refine blk_alloc ?_ _)); refine blk_far ?_ NB169_174.out _; (with_reducible repeat (first | refine blk_drewN ?_ _ | refine blk_drew ?_ | refine blk_alloc ?_ _)); refine blk_far ?_ NB169_174.out _; (with_reducible repeat (first | refine blk_drewN ?_ _ | refine blk_drew ?_ | refine blk_alloc ?_ _)); refine blk_far ?_ NB169_174.out _; (with_reducible repeat (first | refine blk_drewN ?_ _ | refine blk_drew ?_ | refine blk_alloc ?_ _)); exact BK169.out⟩, ⟨by (with_reducible repeat (first | refine blk_drewN ?_ _ | refine blk_drew ?_ | refine blk_alloc ?_ _)); refine blk_put (cs := #[.int .i64 a1_0, .int .u32 a1_1, .slice none 0 0]) ?_ 2 _ rfl; (with_reducible repeat (first | refine blk_drewN ?_ _ | refine blk_drew ?_ | refine blk_alloc ?_ _)); refine blk_put (cs := #[.int .i64 a1_0, .int .u32 0, .slice none 0 0]) ?_ 1 _ rfl; (with_reducible repeat (first | refine blk_drewN ?_ _ | refine blk_drew ?_ | refine blk_alloc ?_ _)); refine blk_put (cs := #[.int .i64 0, .int .u32 0, .slice none 0 0]) ?_ 0 _ rfl; (with_reducible repeat (first | refine blk_drewN ?_ _ | refine blk_drew ?_ | refine blk_alloc ?_ _)); exact BK174.out⟩, ⟨by repeat (first | (with_reducible first | exact HB.out | apply below_alloc | apply pw_below_drewN | apply below_drew1 | refine below_set ?_ GE168.out | refine below_set ?_ GE169.out | refine below_set ?_ GE174.out) | exact HB.out)⟩⟩
    case rest =>
     clear HC27
     try clear c1
     try clear c2
     try clear p2
     try clear c3
     try clear c4
     try clear c5
     try clear c8
     try clear c9
     try clear c11
     try clear c14
     try clear c20
     try clear c24
     try clear c28
     try clear c31
     try clear c32
     try clear c34
     try clear c34b0
     try clear c34b1
     try clear c35
     try clear c36
     try clear c38
     try clear c38b0
     try clear c38b1
     try clear c39
     try clear c40
     try clear c42
     try clear c42b0
     try clear c42b1
     try clear c43
     try clear c44
     try clear c46
     try clear c47
     try clear hcz15_0
     try clear hcz15_1
     try clear hcz15_2
     try clear hcz15_3
     try clear hcz15_4
     try clear hcz15_5
     try clear hcz15_6
     try clear hcz17_0
     try clear hcz17_1
     try clear hcz17_2
     try clear hcz21_0
     try clear hcz21_1
     try clear hcz21_2
     try clear hcz21_3
     try clear hcz21_4
     try clear hcz21_5
     try clear hcz21_6
     try clear hcz29_0
     try clear hcz29_1
     try clear hcz29_2
     try clear hcz33_0
     try clear hcz33_1
     try clear hcz33_2
     try clear hcz37_0
     try clear hcz37_1
     try clear hcz37_2
     try clear hcz41_0
     try clear hcz41_1
     try clear hcz41_2
     try clear hcz45_0
     try clear hcz45_1
     try clear hcz45_2
     try clear hcz48_0
     try clear hcz48_1
     try clear hcz48_2
     try clear hfz15_0
     try clear hfz15_1
     try clear hfz15_2
     try clear hfz15_3
     try clear hfz15_4
     try clear hfz15_5
     try clear hfz15_6
     try clear hfz17_0
     try clear hfz17_1
     try clear hfz17_2
     try clear hfz21_0
     try clear hfz21_1
     try clear hfz21_2
     try clear hfz21_3
     try clear hfz21_4
     try clear hfz21_5
     try clear hfz21_6
     try clear hfz29_0
     try clear hfz29_1
     try clear hfz29_2
     try clear hfz33_0
     try clear hfz33_1
     try clear hfz33_2
     try clear hfz37_0
     try clear hfz37_1
     try clear hfz37_2
     try clear hfz41_0
     try clear hfz41_1
     try clear hfz41_2
     try clear hfz45_0
     try clear hfz45_1
     try clear hfz45_2
     try clear hfz48_0
     try clear hfz48_1
     try clear hfz48_2
     try clear p2
     obtain ⟨kq, x42_26, rfl, HA, HJ26, HO_170002, HO_175002, BK168, BK169, BK174, HB⟩ := hcut
     cases kq with
     | zero => exact absurd HA.out (by simp [lodgerlaw10_AskOthers.j1])
     | succ kj26 =>
      have H := HA.out
      clear HA
      simp only [lodgerlaw10_AskOthers.j1] at H
      have HC49 := Aside0.mk H
      clear H
      go_upto_if 42 with (fail)
      go_cut [] (fun wc => ∃ (kq : Nat) (x175001_48 : Int), Aside0 (lodgerlaw10_AskOthers.j2 kq a2 a3 a0_0 a0_1 l0_2 a0_3 a0_4 a0_5 a0_6 a1_0 a1_1 l1_2 a1_0 x175001_48 l1_2 = some r) ∧ Aside0 (kq ≤ kj26) ∧ Aside0 (Kd.V (Kd.int .u32) 22 wc w.heap.size (fun k_ => (P1_2_ k_ ∨ w.heap.size ≤ k_) ∧ k_ ≠ gb168 ∧ k_ ≠ gb169 ∧ k_ ≠ gb174) (.slice A1_2 l1_2.length c1_2) l1_2) ∧ Aside0 (Kd.V (Kd.int .u32) 22 wc w.heap.size (fun k_ => (P1_2_ k_ ∨ w.heap.size ≤ k_) ∧ k_ ≠ gb168 ∧ k_ ≠ gb169 ∧ k_ ≠ gb174) (.slice A1_2 l1_2.length c1_2) l1_2) ∧ Aside0 (wc.heap[gb168]? = some (.cells #[.int .u32 a0_0, .int .i64 a0_1, (.slice A0_2 l0_2.length c0_2), .int .i64 a0_3, .int .i64 a0_4, .int .i64 a0_5, .int .i64 a0_6] 27 (0, 0))) ∧ Aside0 (wc.heap[gb169]? = some (.cells #[.int .i64 a1_0, .int .u32 a1_1, (.slice A1_2 l1_2.length c1_2)] 30 (0, 0))) ∧ Aside0 (wc.heap[gb174]? = some (.cells #[.int .i64 a1_0, .int .u32 x175001_48, (.slice A1_2 l1_2.length c1_2)] 30 (0, 0))) ∧ Aside0 (Below w.heap.size w wc))
      case first =>
       have H := HC49.out
       clear HC49
       by_cases c50 : x42_26 = true
       ·subst c50
        have H1 : (lodgerlaw10_AskOthers.j2 kj26 a2 a3 a0_0 a0_1 l0_2 a0_3 a0_4 a0_5 a0_6 a1_0 a1_1 l1_2 a1_0 a2 l1_2) = some r := by rw [if_pos rfl] at H; exact H
        clear H
        have H := H1
        clear H1
        have H' := Aside0.mk H
        clear H
        have hnb51 := NB174_168.out
        have hnc51 := NB168_174.out
        have hnb52 := NB174_169.out
        have hnc52 := NB169_174.out
        have hcz53_0 : wc.cell? ⟨gb174, 0, none⟩ = some (.int .i64 a1_0) := (blk_cell BK174.out 0).trans rfl
        have hcz53_1 : wc.cell? ⟨gb174, 1, none⟩ = some (.int .u32 a1_1) := (blk_cell BK174.out 1).trans rfl
        have hcz53_2 : wc.cell? ⟨gb174, 2, none⟩ = some (.slice A1_2 l1_2.length c1_2) := (blk_cell BK174.out 2).trans rfl
        have hfz53_0 := blk_frozen BK174.out 0
        have hfz53_1 := blk_frozen BK174.out 1
        have hfz53_2 := blk_frozen BK174.out 2
        go_wp2
        go_meet
        case rel => exact ⟨_, (a2), H', ⟨by have := HJ4.out; have := HJ26.out; first | omega | exact Nat.le_refl _⟩, ⟨by (with_reducible repeat (first | apply Kd.V_alloc | apply Kd.V_drewN | apply Kd.V_drew)); exact Kd.V_mono (Kd.V_far (p := ⟨gb174, 1, none⟩) (Kd.V_mono HO_170002.out (fun k_ hk => (⟨hk, hk.2.2.2⟩ : _ ∧ k_ ≠ gb174))) (fun _ hk => hk.2) (.int .u32 a2)) (fun _ hk => ⟨hk.1.1, ⟨hk.1.2.1, ⟨hk.1.2.2.1, hk.1.2.2.2⟩⟩⟩)⟩, ⟨by (with_reducible repeat (first | apply Kd.V_alloc | apply Kd.V_drewN | apply Kd.V_drew)); exact Kd.V_mono (Kd.V_far (p := ⟨gb174, 1, none⟩) (Kd.V_mono HO_175002.out (fun k_ hk => (⟨hk, hk.2.2.2⟩ : _ ∧ k_ ≠ gb174))) (fun _ hk => hk.2) (.int .u32 a2)) (fun _ hk => ⟨hk.1.1, ⟨hk.1.2.1, ⟨hk.1.2.2.1, hk.1.2.2.2⟩⟩⟩)⟩, ⟨by (with_reducible repeat (first | refine blk_drewN ?_ _ | refine blk_drew ?_ | refine blk_alloc ?_ _)); refine blk_far ?_ NB168_174.out _; (with_reducible repeat (first | refine blk_drewN ?_ _ | refine blk_drew ?_ | refine blk_alloc ?_ _)); exact BK168.out⟩, ⟨by (with_reducible repeat (first | refine blk_drewN ?_ _ | refine blk_drew ?_ | refine blk_alloc ?_ _)); refine blk_far ?_ NB169_174.out _; (with_reducible repeat (first | refine blk_drewN ?_ _ | refine blk_drew ?_ | refine blk_alloc ?_ _)); exact BK169.out⟩, ⟨by (with_reducible repeat (first | refine blk_drewN ?_ _ | refine blk_drew ?_ | refine blk_alloc ?_ _)); refine blk_put (cs := #[.int .i64 a1_0, .int .u32 a1_1, .slice A1_2 l1_2.length c1_2]) ?_ 1 _ rfl; (with_reducible repeat (first | refine blk_drewN ?_ _ | refine blk_drew ?_ | refine blk_alloc ?_ _)); exact BK174.out⟩, ⟨by repeat (first | (with_reducible first | exact HB.out | apply below_alloc | apply pw_below_drewN | apply below_drew1 | refine below_set ?_ GE168.out | refine below_set ?_ GE169.out | refine below_set ?_ GE174.out) | exact HB.out)⟩⟩
       ·replace c50 := Bool.eq_false_iff.mpr c50
        subst c50
        have H1 : (lodgerlaw10_AskOthers.j2 kj26 a2 a3 a0_0 a0_1 l0_2 a0_3 a0_4 a0_5 a0_6 a1_0 a1_1 l1_2 a1_0 a1_1 l1_2) = some r := by rw [if_neg (show ¬ (false = true) by decide)] at H; exact H
        clear H
        have H := H1
        clear H1
        have H' := Aside0.mk H
        clear H
        go_wp2
        go_meet
        case rel => exact ⟨_, (a1_1), H', ⟨by have := HJ4.out; have := HJ26.out; first | omega | exact Nat.le_refl _⟩, ⟨by (with_reducible repeat (first | apply Kd.V_alloc | apply Kd.V_drewN | apply Kd.V_drew)); exact HO_170002.out⟩, ⟨by (with_reducible repeat (first | apply Kd.V_alloc | apply Kd.V_drewN | apply Kd.V_drew)); exact HO_175002.out⟩, ⟨by (with_reducible repeat (first | refine blk_drewN ?_ _ | refine blk_drew ?_ | refine blk_alloc ?_ _)); exact BK168.out⟩, ⟨by (with_reducible repeat (first | refine blk_drewN ?_ _ | refine blk_drew ?_ | refine blk_alloc ?_ _)); exact BK169.out⟩, ⟨by (with_reducible repeat (first | refine blk_drewN ?_ _ | refine blk_drew ?_ | refine blk_alloc ?_ _)); exact BK174.out⟩, ⟨by repeat (first | (with_reducible first | exact HB.out | apply below_alloc | apply pw_below_drewN | apply below_drew1 | refine below_set ?_ GE168.out | refine below_set ?_ GE169.out | refine below_set ?_ GE174.out) | exact HB.out)⟩⟩
      case rest =>
       clear HC49
       try clear c1
       try clear c2
       try clear p2
       try clear c3
       try clear c4
       try clear c5
       try clear c8
       try clear c9
       try clear c11
       try clear c14
       try clear c20
       try clear c24
       try clear c28
       try clear c31
       try clear c32
       try clear c34
       try clear c34b0
       try clear c34b1
       try clear c35
       try clear c36
       try clear c38
       try clear c38b0
       try clear c38b1
       try clear c39
       try clear c40
       try clear c42
       try clear c42b0
       try clear c42b1
       try clear c43
       try clear c44
       try clear c46
       try clear c47
       try clear c50
       try clear c51
       try clear c52
       try clear hcz15_0
       try clear hcz15_1
       try clear hcz15_2
       try clear hcz15_3
       try clear hcz15_4
       try clear hcz15_5
       try clear hcz15_6
       try clear hcz17_0
       try clear hcz17_1
       try clear hcz17_2
       try clear hcz21_0
       try clear hcz21_1
       try clear hcz21_2
       try clear hcz21_3
       try clear hcz21_4
       try clear hcz21_5
       try clear hcz21_6
       try clear hcz29_0
       try clear hcz29_1
       try clear hcz29_2
       try clear hcz33_0
       try clear hcz33_1
       try clear hcz33_2
       try clear hcz37_0
       try clear hcz37_1
       try clear hcz37_2
       try clear hcz41_0
       try clear hcz41_1
       try clear hcz41_2
       try clear hcz45_0
       try clear hcz45_1
       try clear hcz45_2
       try clear hcz48_0
       try clear hcz48_1
       try clear hcz48_2
       try clear hcz53_0
       try clear hcz53_1
       try clear hcz53_2
       try clear hfz15_0
       try clear hfz15_1
       try clear hfz15_2
       try clear hfz15_3
       try clear hfz15_4
       try clear hfz15_5
       try clear hfz15_6
       try clear hfz17_0
       try clear hfz17_1
       try clear hfz17_2
       try clear hfz21_0
       try clear hfz21_1
       try clear hfz21_2
       try clear hfz21_3
       try clear hfz21_4
       try clear hfz21_5
       try clear hfz21_6
       try clear hfz29_0
       try clear hfz29_1
       try clear hfz29_2
       try clear hfz33_0
       try clear hfz33_1
       try clear hfz33_2
       try clear hfz37_0
       try clear hfz37_1
       try clear hfz37_2
       try clear hfz41_0
       try clear hfz41_1
       try clear hfz41_2
       try clear hfz45_0
       try clear hfz45_1
       try clear hfz45_2
       try clear hfz48_0
       try clear hfz48_1
       try clear hfz48_2
       try clear hfz53_0
       try clear hfz53_1
       try clear hfz53_2
       try clear p2
       obtain ⟨kq, x175001_48, HA, HJ48, HO_170002, HO_175002, BK168, BK169, BK174, HB⟩ := hcut
       cases kq with
       | zero => exact absurd HA.out (by simp [lodgerlaw10_AskOthers.j2])
       | succ kj48 =>
        have H := HA.out
        clear HA
        simp only [lodgerlaw10_AskOthers.j2] at H
        have HC54 := Aside0.mk H
        clear H
        have hnb55 := NB169_168.out
        have hnc55 := NB168_169.out
        have hnb56 := NB169_174.out
        have hnc56 := NB174_169.out
        have hcz57_0 : wc.cell? ⟨gb169, 0, none⟩ = some (.int .i64 a1_0) := (blk_cell BK169.out 0).trans rfl
        have hcz57_1 : wc.cell? ⟨gb169, 1, none⟩ = some (.int .u32 a1_1) := (blk_cell BK169.out 1).trans rfl
        have hcz57_2 : wc.cell? ⟨gb169, 2, none⟩ = some (.slice A1_2 l1_2.length c1_2) := (blk_cell BK169.out 2).trans rfl
        have hfz57_0 := blk_frozen BK169.out 0
        have hfz57_1 := blk_frozen BK169.out 1
        have hfz57_2 := blk_frozen BK169.out 2
        go_upto_if 47 with (fail)
        go_cut [] (fun wc => ∃ (kq : Nat) (x175002_53 : List Int) (u175002 : Value), Aside0 (lodgerlaw10_AskOthers.j3 kq a3 a0_0 a0_1 l0_2 a0_3 a0_4 a0_5 a0_6 a1_0 a1_1 l1_2 a1_0 x175001_48 x175002_53 = some r) ∧ Aside0 (kq ≤ kj48) ∧ Aside0 (Kd.V (Kd.int .u32) 22 wc w.heap.size (fun k_ => (P1_2_ k_ ∨ w.heap.size ≤ k_) ∧ k_ ≠ gb168 ∧ k_ ≠ gb169 ∧ k_ ≠ gb174) (.slice A1_2 l1_2.length c1_2) l1_2) ∧ Aside0 (Kd.V (Kd.int .u32) 22 wc w.heap.size (fun k_ => (P1_2_ k_ ∨ w.heap.size ≤ k_) ∧ k_ ≠ gb168 ∧ k_ ≠ gb169 ∧ k_ ≠ gb174) u175002 x175002_53) ∧ Aside0 (wc.heap[gb168]? = some (.cells #[.int .u32 a0_0, .int .i64 a0_1, (.slice A0_2 l0_2.length c0_2), .int .i64 a0_3, .int .i64 a0_4, .int .i64 a0_5, .int .i64 a0_6] 27 (0, 0))) ∧ Aside0 (wc.heap[gb169]? = some (.cells #[.int .i64 a1_0, .int .u32 a1_1, (.slice A1_2 l1_2.length c1_2)] 30 (0, 0))) ∧ Aside0 (wc.heap[gb174]? = some (.cells #[.int .i64 a1_0, .int .u32 x175001_48, u175002] 30 (0, 0))) ∧ Aside0 (Below w.heap.size w wc))
        case first =>
         have H := HC54.out
         clear HC54
         by_cases c58 : a1_0 = 4
         ·rw [if_pos c58] at H
          have c58b0 : (a1_0 == 4) = true := beq_iff_eq.mpr c58
          have c58b1 : (a1_0 != 4) = false := bne_eq_false_iff_eq.mpr c58
          clear c58
          (first | rw [c58b0] | (simp only [i64_w, i32_w]; rw [c58b0]) | skip)
          have H' := Aside0.mk H
          clear H
          go_wp2
          go_meet
          case rel => exact ⟨_, (l1_2), (.slice A1_2 l1_2.length c1_2), H', ⟨by have := HJ4.out; have := HJ26.out; have := HJ48.out; first | omega | exact Nat.le_refl _⟩, ⟨by (with_reducible repeat (first | apply Kd.V_alloc | apply Kd.V_drewN | apply Kd.V_drew)); exact HO_170002.out⟩, ⟨by (with_reducible repeat (first | apply Kd.V_alloc | apply Kd.V_drewN | apply Kd.V_drew)); exact HO_175002.out⟩, ⟨by (with_reducible repeat (first | refine blk_drewN ?_ _ | refine blk_drew ?_ | refine blk_alloc ?_ _)); exact BK168.out⟩, ⟨by (with_reducible repeat (first | refine blk_drewN ?_ _ | refine blk_drew ?_ | refine blk_alloc ?_ _)); exact BK169.out⟩, ⟨by (with_reducible repeat (first | refine blk_drewN ?_ _ | refine blk_drew ?_ | refine blk_alloc ?_ _)); exact BK174.out⟩, ⟨by repeat (first | (with_reducible first | exact HB.out | apply below_alloc | apply pw_below_drewN | apply below_drew1 | refine below_set ?_ GE168.out | refine below_set ?_ GE169.out | refine below_set ?_ GE174.out) | exact HB.out)⟩⟩
         ·rw [if_neg c58] at H
          have c58b0 : (a1_0 == 4) = false := beq_eq_false_iff_ne.mpr c58
          have c58b1 : (a1_0 != 4) = true := bne_iff_ne.mpr c58
          (first | rw [c58b0] | (simp only [i64_w, i32_w]; rw [c58b0]) | skip)
          obtain ⟨y175, hy175⟩ : ∃ y_ : List Int, y_ = (([a2, a2] : List Int)) := ⟨_, rfl⟩
          replace H : (lodgerlaw10_AskOthers.j3 kj48 a3 a0_0 a0_1 l0_2 a0_3 a0_4 a0_5 a0_6 a1_0 a1_1 l1_2 a1_0 x175001_48 y175) = some r := by first | (rw [hy175]; with_reducible exact H) | (have H2_ := (Option.bind_some _ _).symm.trans H; rw [hy175]; with_reducible exact H2_) | (have H2_ := (Option.bind_some _ _).symm.trans H; with_reducible exact H2_) | with_reducible exact H | (rw [hy175]; exact H) | exact H
          have Ny175 := Aside0.mk hy175
          clear hy175
          have H' := Aside0.mk H
          clear H
          go_wp2_with (first | ((with_reducible refine gate_dst (N := 50) rfl ?_); (try (refine gate_guard (by rfl) ?_; dsimp only)); refine Kd.R_lit (Kd.int .u32) _ 22 ?hg (N := 50) ?hd (xs := ([a2, a2] : List Int)) (inner := [.int .u32 a2, .int .u32 a2]) (ok := fun _ => True) (okp := fun _ => True) ?hr ?hp (fun _ hk => hk) trivial (Below.refl _ _) (Nat.le_refl _) (by simp) ?_; (case hd => rfl); (case hg => rfl); (case hr => first | (go_simp; done) | (go_simp; rfl)); (case hp => exact (Reps.one (show Kd.M (Kd.int .u32) _ _ _ a2 [.int .u32 a2] from rfl) (Reps.one (show Kd.M (Kd.int .u32) _ _ _ a2 [.int .u32 a2] from rfl) (Reps.none _ _)))); intro v176 w59 ho60 hb hg_ hnew_; clear hg_ hnew_; (first | rw [← Ny175.out] at ho60 | (simp only [Int.reduceToNat] at ho60; rw [← Ny175.out] at ho60)); have n0_ := Aside0.mk (Kd.V_elder' (by (with_reducible repeat (first | apply Kd.V_alloc | apply Kd.V_drewN | apply Kd.V_drew)); exact HO_170002.out) (Kd.R_base ho60) hb); have n1_ := Aside0.mk (Kd.V_elder' (by (with_reducible repeat (first | apply Kd.V_alloc | apply Kd.V_drewN | apply Kd.V_drew)); exact HO_175002.out) (Kd.R_base ho60) hb); have n2_ := Aside0.mk (Kd.R_lower (Kd.R_newM (M := fun k_ => (w.heap.size ≤ k_)) ho60 (below_size (by repeat (first | (with_reducible first | exact HB.out | apply below_alloc | apply pw_below_drewN | apply below_drew1 | refine below_set ?_ GE168.out | refine below_set ?_ GE169.out | refine below_set ?_ GE174.out) | exact HB.out))) (fun k_ h_ => h_)) (below_size (by repeat (first | (with_reducible first | exact HB.out | apply below_alloc | apply pw_below_drewN | apply below_drew1 | refine below_set ?_ GE168.out | refine below_set ?_ GE169.out | refine below_set ?_ GE174.out) | exact HB.out)))); have n3_ := Aside0.mk (blk_below (g := gb168) (o := .cells #[.int .u32 a0_0, .int .i64 a0_1, .slice A0_2 l0_2.length c0_2, .int .i64 a0_3, .int .i64 a0_4, .int .i64 a0_5, .int .i64 a0_6] 27 (0, 0)) (by (with_reducible repeat (first | refine blk_drewN ?_ _ | refine blk_drew ?_ | refine blk_alloc ?_ _)); exact BK168.out) hb); have n4_ := Aside0.mk (blk_below (g := gb169) (o := .cells #[.int .i64 a1_0, .int .u32 a1_1, .slice A1_2 l1_2.length c1_2] 30 (0, 0)) (by (with_reducible repeat (first | refine blk_drewN ?_ _ | refine blk_drew ?_ | refine blk_alloc ?_ _)); exact BK169.out) hb); have n5_ := Aside0.mk (blk_below (g := gb174) (o := .cells #[.int .i64 a1_0, .int .u32 x175001_48, .slice A1_2 l1_2.length c1_2] 30 (0, 0)) (by (with_reducible repeat (first | refine blk_drewN ?_ _ | refine blk_drew ?_ | refine blk_alloc ?_ _)); exact BK174.out) hb); have n6_ := Aside0.mk (below_step (by repeat (first | (with_reducible first | exact HB.out | apply below_alloc | apply pw_below_drewN | apply below_drew1 | refine below_set ?_ GE168.out | refine below_set ?_ GE169.out | refine below_set ?_ GE174.out) | exact HB.out)) hb); clear HO_170002; clear HO_175002; clear BK168; clear BK169; clear BK174; clear HB; have HO_170002 := n0_; have HO_175002 := n1_; have HO177 := n2_; have BK168 := n3_; have BK169 := n4_; have BK174 := n5_; have HB := n6_; clear n0_ n1_ n2_ n3_ n4_ n5_ n6_; clear hb ho60; obtain ⟨Ao61, co61, eo61⟩ := Kd.R_slice HO177.out; subst eo61; have hnb62 := NB174_168.out; have hnc62 := NB168_174.out; have hnb63 := NB174_169.out; have hnc63 := NB169_174.out; have hcz64_0 : w59.cell? ⟨gb174, 0, none⟩ = some (.int .i64 a1_0) := (blk_cell BK174.out 0).trans rfl; have hcz64_1 : w59.cell? ⟨gb174, 1, none⟩ = some (.int .u32 x175001_48) := (blk_cell BK174.out 1).trans rfl; have hcz64_2 : w59.cell? ⟨gb174, 2, none⟩ = some (.slice A1_2 l1_2.length c1_2) := (blk_cell BK174.out 2).trans rfl; have hfz64_0 := blk_frozen BK174.out 0; have hfz64_1 := blk_frozen BK174.out 1; have hfz64_2 := blk_frozen BK174.out 2))
          go_meet
          case rel => exact ⟨_, (y175), (.slice Ao61 y175.length co61), H', ⟨by have := HJ4.out; have := HJ26.out; have := HJ48.out; first | omega | exact Nat.le_refl _⟩, ⟨by (with_reducible repeat (first | apply Kd.V_alloc | apply Kd.V_drewN | apply Kd.V_drew)); exact Kd.V_mono (Kd.V_far (p := ⟨gb174, 2, none⟩) (Kd.V_mono HO_170002.out (fun k_ hk => (⟨hk, hk.1.2.2.2⟩ : _ ∧ k_ ≠ gb174))) (fun _ hk => hk.2) (.slice Ao61 y175.length co61)) (fun _ hk => ⟨hk.1.1.1, ⟨hk.1.1.2.1, ⟨hk.1.1.2.2.1, hk.1.1.2.2.2⟩⟩⟩)⟩, ⟨Kd.V_mono (ok := (fun k_ => (w.heap.size ≤ k_) ∧ k_ ≠ gb168 ∧ k_ ≠ gb169 ∧ k_ ≠ gb174)) (Kd.R_V (by (with_reducible repeat (first | apply Kd.R_alloc | apply Kd.R_drewN | apply Kd.R_drew)); exact Kd.R_mono (Kd.R_far (p := ⟨gb174, 2, none⟩) (Kd.R_types (Kd.R_types (Kd.R_types (Kd.R_types HO177.out BK168.out (by decide)) BK169.out (by decide)) BK174.out (by decide)) BK174.out (by decide)) (fun _ hk => hk.2) (.slice Ao61 y175.length co61)) (fun _ hk => ⟨hk.1.1.1.1.1, ⟨hk.1.1.1.2, ⟨hk.1.1.2, hk.1.2⟩⟩⟩))) (fun k_ hk => by first | exact ⟨(.inr (hk.1)), hk.2⟩ | exact (.inr (hk)))⟩, ⟨by (with_reducible repeat (first | refine blk_drewN ?_ _ | refine blk_drew ?_ | refine blk_alloc ?_ _)); refine blk_far ?_ NB168_174.out _; (with_reducible repeat (first | refine blk_drewN ?_ _ | refine blk_drew ?_ | refine blk_alloc ?_ _)); exact BK168.out⟩, ⟨by (with_reducible repeat (first | refine blk_drewN ?_ _ | refine blk_drew ?_ | refine blk_alloc ?_ _)); refine blk_far ?_ NB169_174.out _; (with_reducible repeat (first | refine blk_drewN ?_ _ | refine blk_drew ?_ | refine blk_alloc ?_ _)); exact BK169.out⟩, ⟨by (with_reducible repeat (first | refine blk_drewN ?_ _ | refine blk_drew ?_ | refine blk_alloc ?_ _)); refine blk_put (cs := #[.int .i64 a1_0, .int .u32 x175001_48, .slice A1_2 l1_2.length c1_2]) ?_ 2 _ rfl; (with_reducible repeat (first | refine blk_drewN ?_ _ | refine blk_drew ?_ | refine blk_alloc ?_ _)); exact BK174.out⟩, ⟨by repeat (first | (with_reducible first | exact HB.out | apply below_alloc | apply pw_below_drewN | apply below_drew1 | refine below_set ?_ GE168.out | refine below_set ?_ GE169.out | refine below_set ?_ GE174.out) | exact HB.out)⟩⟩
        case rest =>
         clear HC54
         try clear c1
         try clear c2
         try clear p2
         try clear c3
         try clear c4
         try clear c5
         try clear c6
         try clear c8
         try clear c9
         try clear c11
         try clear c14
         try clear c20
         try clear c24
         try clear c28
         try clear c31
         try clear c32
         try clear c34
         try clear c34b0
         try clear c34b1
         try clear c35
         try clear c36
         try clear c38
         try clear c38b0
         try clear c38b1
         try clear c39
         try clear c40
         try clear c42
         try clear c42b0
         try clear c42b1
         try clear c43
         try clear c44
         try clear c46
         try clear c47
         try clear c50
         try clear c51
         try clear c52
         try clear c55
         try clear c56
         try clear c58
         try clear c58b0
         try clear c58b1
         try clear c62
         try clear c63
         try clear hcz15_0
         try clear hcz15_1
         try clear hcz15_2
         try clear hcz15_3
         try clear hcz15_4
         try clear hcz15_5
         try clear hcz15_6
         try clear hcz17_0
         try clear hcz17_1
         try clear hcz17_2
         try clear hcz21_0
         try clear hcz21_1
         try clear hcz21_2
         try clear hcz21_3
         try clear hcz21_4
         try clear hcz21_5
         try clear hcz21_6
         try clear hcz29_0
         try clear hcz29_1
         try clear hcz29_2
         try clear hcz33_0
         try clear hcz33_1
         try clear hcz33_2
         try clear hcz37_0
         try clear hcz37_1
         try clear hcz37_2
         try clear hcz41_0
         try clear hcz41_1
         try clear hcz41_2
         try clear hcz45_0
         try clear hcz45_1
         try clear hcz45_2
         try clear hcz48_0
         try clear hcz48_1
         try clear hcz48_2
         try clear hcz53_0
         try clear hcz53_1
         try clear hcz53_2
         try clear hcz57_0
         try clear hcz57_1
         try clear hcz57_2
         try clear hcz64_0
         try clear hcz64_1
         try clear hcz64_2
         try clear hfz15_0
         try clear hfz15_1
         try clear hfz15_2
         try clear hfz15_3
         try clear hfz15_4
         try clear hfz15_5
         try clear hfz15_6
         try clear hfz17_0
         try clear hfz17_1
         try clear hfz17_2
         try clear hfz21_0
         try clear hfz21_1
         try clear hfz21_2
         try clear hfz21_3
         try clear hfz21_4
         try clear hfz21_5
         try clear hfz21_6
         try clear hfz29_0
         try clear hfz29_1
         try clear hfz29_2
         try clear hfz33_0
         try clear hfz33_1
         try clear hfz33_2
         try clear hfz37_0
         try clear hfz37_1
         try clear hfz37_2
         try clear hfz41_0
         try clear hfz41_1
         try clear hfz41_2
         try clear hfz45_0
         try clear hfz45_1
         try clear hfz45_2
         try clear hfz48_0
         try clear hfz48_1
         try clear hfz48_2
         try clear hfz53_0
         try clear hfz53_1
         try clear hfz53_2
         try clear hfz57_0
         try clear hfz57_1
         try clear hfz57_2
         try clear hfz64_0
         try clear hfz64_1
         try clear hfz64_2
         try clear p2
         obtain ⟨kq, x175002_53, u175002, HA, HJ53, HO_170002, HO_175002, BK168, BK169, BK174, HB⟩ := hcut
         cases kq with
         | zero => exact absurd HA.out (by simp [lodgerlaw10_AskOthers.j3])
         | succ kj53 =>
          have H := HA.out
          clear HA
          simp only [lodgerlaw10_AskOthers.j3] at H
          replace H := Option.bind_eq_some_iff.mp H
          obtain ⟨t178, A650, H⟩ := H
          replace H : ((ask_Check.f kj53 a0_0 a0_1 l0_2 a0_3 a0_4 a0_5 a0_6 a1_0 x175001_48 x175002_53).bind fun t179 => (if t178 = t179 then (if a1_0 = 4 then ((ask_Check.f kj53 a0_0 a0_1 l0_2 a0_3 a0_4 a0_5 a0_6 a1_0 a1_1 l1_2).bind fun t180 => (lodgerlaw10_AskOthers.j4 kj53 a3 (t180 != 0) a0_0 a0_1 l0_2 a0_3 a0_4 a0_5 a0_6 a1_0 a1_1 l1_2)) else (lodgerlaw10_AskOthers.j4 kj53 a3 true a0_0 a0_1 l0_2 a0_3 a0_4 a0_5 a0_6 a1_0 a1_1 l1_2)) else (some false))) = some r := H
          have A65 := Aside0.mk A650
          clear A650
          replace H := Option.bind_eq_some_iff.mp H
          obtain ⟨t179, A660, H⟩ := H
          replace H : (if t178 = t179 then (if a1_0 = 4 then ((ask_Check.f kj53 a0_0 a0_1 l0_2 a0_3 a0_4 a0_5 a0_6 a1_0 a1_1 l1_2).bind fun t180 => (lodgerlaw10_AskOthers.j4 kj53 a3 (t180 != 0) a0_0 a0_1 l0_2 a0_3 a0_4 a0_5 a0_6 a1_0 a1_1 l1_2)) else (lodgerlaw10_AskOthers.j4 kj53 a3 true a0_0 a0_1 l0_2 a0_3 a0_4 a0_5 a0_6 a1_0 a1_1 l1_2)) else (some false)) = some r := H
          have A66 := Aside0.mk A660
          clear A660
          by_cases c67 : t178 = t179
          ·rw [if_pos c67] at H
           have c67b0 : (t178 == t179) = true := beq_iff_eq.mpr c67
           have c67b1 : (t178 != t179) = false := bne_eq_false_iff_eq.mpr c67
           clear c67
           have HC68 := Aside0.mk H
           clear H
           try go_wp2
           have n0_ := Aside0.mk (Kd.V_drew HO_170002.out)
           have n1_ := Aside0.mk (Kd.V_drew HO_175002.out)
           have n2_ := Aside0.mk (blk_drew BK168.out)
           have n3_ := Aside0.mk (blk_drew BK169.out)
           have n4_ := Aside0.mk (blk_drew BK174.out)
           have n5_ := Aside0.mk (below_drew1 HB.out)
           clear HO_170002
           clear HO_175002
           clear BK168
           clear BK169
           clear BK174
           clear HB
           have HO_170002 := n0_
           have HO_175002 := n1_
           have BK168 := n2_
           have BK169 := n3_
           have BK174 := n4_
           have HB := n5_
           clear n0_ n1_ n2_ n3_ n4_ n5_
           refine start_ (n := 7) (S := fun w' => w'.cell? ⟨gb168, 0, none⟩ = some (.int .u32 a0_0) ∧ w'.cell? ⟨gb168, 1, none⟩ = some (.int .i64 a0_1) ∧ w'.cell? ⟨gb168, 2, none⟩ = some (.slice A0_2 l0_2.length c0_2) ∧ w'.cell? ⟨gb168, 3, none⟩ = some (.int .i64 a0_3) ∧ w'.cell? ⟨gb168, 4, none⟩ = some (.int .i64 a0_4) ∧ w'.cell? ⟨gb168, 5, none⟩ = some (.int .i64 a0_5) ∧ w'.cell? ⟨gb168, 6, none⟩ = some (.int .i64 a0_6) ∧ w'.cell? ⟨gb169, 0, none⟩ = some (.int .i64 a1_0) ∧ w'.cell? ⟨gb169, 1, none⟩ = some (.int .u32 a1_1) ∧ w'.cell? ⟨gb169, 2, none⟩ = some (.slice A1_2 l1_2.length c1_2) ∧ w'.cell? ⟨gb174, 0, none⟩ = some (.int .i64 a1_0) ∧ w'.cell? ⟨gb174, 1, none⟩ = some (.int .u32 x175001_48) ∧ w'.cell? ⟨gb174, 2, none⟩ = some (u175002)) (ds := []) #[false, false, false, false, false, false, false] (by kernel_rfl) rfl rfl ⟨(blk_cell BK168.out 0).trans rfl, (blk_cell BK168.out 1).trans rfl, (blk_cell BK168.out 2).trans rfl, (blk_cell BK168.out 3).trans rfl, (blk_cell BK168.out 4).trans rfl, (blk_cell BK168.out 5).trans rfl, (blk_cell BK168.out 6).trans rfl, (blk_cell BK169.out 0).trans rfl, (blk_cell BK169.out 1).trans rfl, (blk_cell BK169.out 2).trans rfl, (blk_cell BK174.out 0).trans rfl, (blk_cell BK174.out 1).trans rfl, (blk_cell BK174.out 2).trans rfl⟩ (fun hHeld => ?_)
           generalize wc.drew = w69 at HO_170002 HO_175002 BK168 BK169 BK174 HB hHeld ⊢
           refine take_ (i := 0) (N := some 52) (v := ?_) (a' := ?_) #[true, false, false, false, false, false, false] rfl rfl (by kernel_rfl) (fun _ _ _ h => h) (Or.inl ⟨by rfl, ?_⟩) hHeld ?_ ?_
           rotate_left
           ·rintro w' ⟨s0, s1, s2, s3, s4, s5, s6, s7, s8, s9, s10, s11, s12⟩
            go_simp
            with_reducible rfl
           rotate_left
           ·simp only [Act.put, List.setIfInBounds_toArray, List.set_cons_zero, List.set_cons_succ, i64_w, i32_w]
            rfl
           refine take_ (i := 1) (N := some 53) (v := ?_) (a' := ?_) #[true, true, false, false, false, false, false] rfl rfl (by kernel_rfl) (fun _ _ _ h => h) (Or.inl ⟨by rfl, ?_⟩) hHeld ?_ ?_
           rotate_left
           ·rintro w' ⟨s0, s1, s2, s3, s4, s5, s6, s7, s8, s9, s10, s11, s12⟩
            go_simp
            with_reducible rfl
           rotate_left
           ·simp only [Act.put, List.setIfInBounds_toArray, List.set_cons_zero, List.set_cons_succ, i64_w, i32_w]
            rfl
           refine take_ (i := 3) (N := some 55) (v := ?_) (a' := ?_) #[true, true, false, true, false, false, false] rfl rfl (by kernel_rfl) (fun _ _ _ h => h) (Or.inl ⟨by rfl, ?_⟩) hHeld ?_ ?_
           rotate_left
           ·rintro w' ⟨s0, s1, s2, s3, s4, s5, s6, s7, s8, s9, s10, s11, s12⟩
            go_simp
            with_reducible rfl
           rotate_left
           ·simp only [Act.put, List.setIfInBounds_toArray, List.set_cons_zero, List.set_cons_succ, i64_w, i32_w]
            rfl
           refine take_ (i := 4) (N := some 56) (v := ?_) (a' := ?_) #[true, true, false, true, true, false, false] rfl rfl (by kernel_rfl) (fun _ _ _ h => h) (Or.inl ⟨by rfl, ?_⟩) hHeld ?_ ?_
           rotate_left
           ·rintro w' ⟨s0, s1, s2, s3, s4, s5, s6, s7, s8, s9, s10, s11, s12⟩
            go_simp
            with_reducible rfl
           rotate_left
           ·simp only [Act.put, List.setIfInBounds_toArray, List.set_cons_zero, List.set_cons_succ, i64_w, i32_w]
            rfl
           refine one_ (i := 2) (N := some 54) #[true, true, true, true, true, false, false] rfl rfl (by kernel_rfl) (by decide) (fun K hK => ?_)
           refine goes_ Tryd.func11 (by kernel_rfl) rfl #[.agg #[.int .u32 a0_0, .int .i64 a0_1, .slice A0_2 l0_2.length c0_2, .int .i64 a0_3, .int .i64 a0_4, .int .i64 a0_5, .int .i64 a0_6], .agg #[.int .i64 a1_0, .int .u32 a1_1, .slice A1_2 l1_2.length c1_2]] (by rfl) rfl rfl (by (try simp only [List.map_toArray, List.map_cons, List.map_nil]); first | done | rfl | (simp only [List.length_drop, List.length_take]; rfl)) ?_
           with_reducible refine (ask_Check.calls kj53 a0_0 a0_1 _ _ l0_2 a0_3 a0_4 a0_5 a0_6 a1_0 a1_1 _ _ l1_2 t178 _ ?side1 ?side2 ?side3 ?side4 ?side5 A65.out).mono ?_
           (case side1 => repeat (first | exact (Kd.C_below HR0_2.out HB.out) | (with_reducible refine Kd.C_alloc ?_ _) | (with_reducible refine Kd.C_drewN ?_ _) | (with_reducible refine Kd.C_drew ?_)))
           (case side2 => exact HC0_2.out)
           (case side3 => repeat (first | exact (Kd.V_reads' HO_170002.out).2.2 | (with_reducible refine Kd.C_alloc ?_ _) | (with_reducible refine Kd.C_drewN ?_ _) | (with_reducible refine Kd.C_drew ?_)))
           (case side4 => exact (Kd.V_reads' HO_170002.out).2.1)
           (case side5 => exact Lg_below HG.out (by repeat (first | (with_reducible first | exact HB.out | apply below_alloc | apply pw_below_drewN | apply below_drew1 | refine below_set ?_ GE168.out | refine below_set ?_ GE169.out | refine below_set ?_ GE174.out) | exact HB.out)))
           rintro e w70 ⟨rfl, hb⟩
           refine ⟨_, rfl, ?_⟩
           have n0_ := Aside0.mk (Kd.V_below (by (with_reducible repeat (first | apply Kd.V_alloc | apply Kd.V_drewN | apply Kd.V_drew)); exact HO_170002.out) hb)
           have n1_ := Aside0.mk (Kd.V_below (by (with_reducible repeat (first | apply Kd.V_alloc | apply Kd.V_drewN | apply Kd.V_drew)); exact HO_175002.out) hb)
           have n2_ := Aside0.mk (blk_below (g := gb168) (o := .cells #[.int .u32 a0_0, .int .i64 a0_1, .slice A0_2 l0_2.length c0_2, .int .i64 a0_3, .int .i64 a0_4, .int .i64 a0_5, .int .i64 a0_6] 27 (0, 0)) (by (with_reducible repeat (first | refine blk_drewN ?_ _ | refine blk_drew ?_ | refine blk_alloc ?_ _)); exact BK168.out) hb)
           have n3_ := Aside0.mk (blk_below (g := gb169) (o := .cells #[.int .i64 a1_0, .int .u32 a1_1, .slice A1_2 l1_2.length c1_2] 30 (0, 0)) (by (with_reducible repeat (first | refine blk_drewN ?_ _ | refine blk_drew ?_ | refine blk_alloc ?_ _)); exact BK169.out) hb)
           have n4_ := Aside0.mk (blk_below (g := gb174) (o := .cells #[.int .i64 a1_0, .int .u32 x175001_48, u175002] 30 (0, 0)) (by (with_reducible repeat (first | refine blk_drewN ?_ _ | refine blk_drew ?_ | refine blk_alloc ?_ _)); exact BK174.out) hb)
           have n5_ := Aside0.mk (below_step (by repeat (first | (with_reducible first | exact HB.out | apply below_alloc | apply pw_below_drewN | apply below_drew1 | refine below_set ?_ GE168.out | refine below_set ?_ GE169.out | refine below_set ?_ GE174.out) | exact HB.out)) hb)
           clear HO_170002
           clear HO_175002
           clear BK168
           clear BK169
           clear BK174
           clear HB
           have HO_170002 := n0_
           have HO_175002 := n1_
           have BK168 := n2_
           have BK169 := n3_
           have BK174 := n4_
           have HB := n5_
           clear n0_ n1_ n2_ n3_ n4_ n5_
           (try clear hb)
           (try clear hb2)
           (try clear hk)
           (try clear hi)
           obtain ⟨Ao71, co71, eo71⟩ := Kd.V_slice HO_175002.out
           (first | subst eo71 | (injection eo71 with f1_ f2_ f3_; have f4_ := f1_.symm; have f5_ := f3_.symm; clear f1_ f2_ f3_; subst f4_; subst f5_))
           refine hK.out _ _ ⟨(blk_cell BK168.out 0).trans rfl, (blk_cell BK168.out 1).trans rfl, (blk_cell BK168.out 2).trans rfl, (blk_cell BK168.out 3).trans rfl, (blk_cell BK168.out 4).trans rfl, (blk_cell BK168.out 5).trans rfl, (blk_cell BK168.out 6).trans rfl, (blk_cell BK169.out 0).trans rfl, (blk_cell BK169.out 1).trans rfl, (blk_cell BK169.out 2).trans rfl, (blk_cell BK174.out 0).trans rfl, (blk_cell BK174.out 1).trans rfl, (blk_cell BK174.out 2).trans rfl⟩ (fun hHeld => ?_)
           clear hK K
           refine norm_ (a' := ?_) ?_ ?_
           rotate_left
           ·show Act.put _ (some 54) _ = _
            simp only [Act.put, List.setIfInBounds_toArray, List.set_cons_zero, List.set_cons_succ, i64_w, i32_w]
            rfl
           refine one_ (i := 5) (N := some 57) #[true, true, true, true, true, true, false] rfl rfl (by kernel_rfl) (by decide) (fun K hK => ?_)
           refine goes_ Tryd.func11 (by kernel_rfl) rfl #[.agg #[.int .u32 a0_0, .int .i64 a0_1, .slice A0_2 l0_2.length c0_2, .int .i64 a0_3, .int .i64 a0_4, .int .i64 a0_5, .int .i64 a0_6], .agg #[.int .i64 a1_0, .int .u32 x175001_48, .slice Ao71 x175002_53.length co71]] (by rfl) rfl rfl (by (try simp only [List.map_toArray, List.map_cons, List.map_nil]); first | done | rfl | (simp only [List.length_drop, List.length_take]; rfl)) ?_
           with_reducible refine (ask_Check.calls kj53 a0_0 a0_1 _ _ l0_2 a0_3 a0_4 a0_5 a0_6 a1_0 x175001_48 _ _ x175002_53 t179 _ ?side1 ?side2 ?side3 ?side4 ?side5 A66.out).mono ?_
           (case side1 => repeat (first | exact (Kd.C_below HR0_2.out HB.out) | (with_reducible refine Kd.C_alloc ?_ _) | (with_reducible refine Kd.C_drewN ?_ _) | (with_reducible refine Kd.C_drew ?_)))
           (case side2 => exact HC0_2.out)
           (case side3 => repeat (first | exact (Kd.V_reads' HO_175002.out).2.2 | (with_reducible refine Kd.C_alloc ?_ _) | (with_reducible refine Kd.C_drewN ?_ _) | (with_reducible refine Kd.C_drew ?_)))
           (case side4 => exact (Kd.V_reads' HO_175002.out).2.1)
           (case side5 => exact Lg_below HG.out (by repeat (first | (with_reducible first | exact HB.out | apply below_alloc | apply pw_below_drewN | apply below_drew1 | refine below_set ?_ GE168.out | refine below_set ?_ GE169.out | refine below_set ?_ GE174.out) | exact HB.out)))
           rintro e w72 ⟨rfl, hb⟩
           refine ⟨_, rfl, ?_⟩
           have n0_ := Aside0.mk (Kd.V_below (by (with_reducible repeat (first | apply Kd.V_alloc | apply Kd.V_drewN | apply Kd.V_drew)); exact HO_170002.out) hb)
           have n1_ := Aside0.mk (Kd.V_below (by (with_reducible repeat (first | apply Kd.V_alloc | apply Kd.V_drewN | apply Kd.V_drew)); exact HO_175002.out) hb)
           have n2_ := Aside0.mk (blk_below (g := gb168) (o := .cells #[.int .u32 a0_0, .int .i64 a0_1, .slice A0_2 l0_2.length c0_2, .int .i64 a0_3, .int .i64 a0_4, .int .i64 a0_5, .int .i64 a0_6] 27 (0, 0)) (by (with_reducible repeat (first | refine blk_drewN ?_ _ | refine blk_drew ?_ | refine blk_alloc ?_ _)); exact BK168.out) hb)
           have n3_ := Aside0.mk (blk_below (g := gb169) (o := .cells #[.int .i64 a1_0, .int .u32 a1_1, .slice A1_2 l1_2.length c1_2] 30 (0, 0)) (by (with_reducible repeat (first | refine blk_drewN ?_ _ | refine blk_drew ?_ | refine blk_alloc ?_ _)); exact BK169.out) hb)
           have n4_ := Aside0.mk (blk_below (g := gb174) (o := .cells #[.int .i64 a1_0, .int .u32 x175001_48, .slice Ao71 x175002_53.length co71] 30 (0, 0)) (by (with_reducible repeat (first | refine blk_drewN ?_ _ | refine blk_drew ?_ | refine blk_alloc ?_ _)); exact BK174.out) hb)
           have n5_ := Aside0.mk (below_step (by repeat (first | (with_reducible first | exact HB.out | apply below_alloc | apply pw_below_drewN | apply below_drew1 | refine below_set ?_ GE168.out | refine below_set ?_ GE169.out | refine below_set ?_ GE174.out) | exact HB.out)) hb)
           clear HO_170002
           clear HO_175002
           clear BK168
           clear BK169
           clear BK174
           clear HB
           have HO_170002 := n0_
           have HO_175002 := n1_
           have BK168 := n2_
           have BK169 := n3_
           have BK174 := n4_
           have HB := n5_
           clear n0_ n1_ n2_ n3_ n4_ n5_
           (try clear hb)
           (try clear hb2)
           (try clear hk)
           (try clear hi)
           refine hK.out _ _ ⟨(blk_cell BK168.out 0).trans rfl, (blk_cell BK168.out 1).trans rfl, (blk_cell BK168.out 2).trans rfl, (blk_cell BK168.out 3).trans rfl, (blk_cell BK168.out 4).trans rfl, (blk_cell BK168.out 5).trans rfl, (blk_cell BK168.out 6).trans rfl, (blk_cell BK169.out 0).trans rfl, (blk_cell BK169.out 1).trans rfl, (blk_cell BK169.out 2).trans rfl, (blk_cell BK174.out 0).trans rfl, (blk_cell BK174.out 1).trans rfl, (blk_cell BK174.out 2).trans rfl⟩ (fun hHeld => ?_)
           clear hK K
           refine norm_ (a' := ?_) ?_ ?_
           rotate_left
           ·show Act.put _ (some 57) _ = _
            simp only [Act.put, List.setIfInBounds_toArray, List.set_cons_zero, List.set_cons_succ, i64_w, i32_w]
            rfl
           refine pure_ (i := 6) (N := some 58) (v := ?_) (a' := ?_) #[true, true, true, true, true, true, true] rfl rfl (by kernel_rfl) (fun _ _ _ h => h) (Or.inl ⟨by rfl, ?_⟩) ?_ ?_
           rotate_left
           ·intro w'
            go_simp
            with_reducible rfl
           rotate_left
           ·simp only [Act.put, List.setIfInBounds_toArray, List.set_cons_zero, List.set_cons_succ, i64_w, i32_w]
            rfl
           refine done_ (by kernel_rfl) ?_
           go_upto_region 10 with (fail)
           go_cut [67] (fun v67 wc => ∃ (kq : Nat) (x67_67 : Bool), v67 = .bool x67_67 ∧ Aside0 (lodgerlaw10_AskOthers.j4 kq a3 x67_67 a0_0 a0_1 l0_2 a0_3 a0_4 a0_5 a0_6 a1_0 a1_1 l1_2 = some r) ∧ Aside0 (kq ≤ kj53) ∧ Aside0 (Kd.V (Kd.int .u32) 22 wc w.heap.size (fun k_ => (P1_2_ k_ ∨ w.heap.size ≤ k_) ∧ k_ ≠ gb168 ∧ k_ ≠ gb169 ∧ k_ ≠ gb174) (.slice A1_2 l1_2.length c1_2) l1_2) ∧ Aside0 (Kd.V (Kd.int .u32) 22 wc w.heap.size (fun k_ => (P1_2_ k_ ∨ w.heap.size ≤ k_) ∧ k_ ≠ gb168 ∧ k_ ≠ gb169 ∧ k_ ≠ gb174) (.slice Ao71 x175002_53.length co71) x175002_53) ∧ Aside0 (wc.heap[gb168]? = some (.cells #[.int .u32 a0_0, .int .i64 a0_1, (.slice A0_2 l0_2.length c0_2), .int .i64 a0_3, .int .i64 a0_4, .int .i64 a0_5, .int .i64 a0_6] 27 (0, 0))) ∧ Aside0 (wc.heap[gb169]? = some (.cells #[.int .i64 a1_0, .int .u32 a1_1, (.slice A1_2 l1_2.length c1_2)] 30 (0, 0))) ∧ Aside0 (wc.heap[gb174]? = some (.cells #[.int .i64 a1_0, .int .u32 x175001_48, (.slice Ao71 x175002_53.length co71)] 30 (0, 0))) ∧ Aside0 (Below w.heap.size w wc))
           case first =>
            have H := HC68.out
            clear HC68
            by_cases c73 : a1_0 = 4
            ·rw [if_pos c73] at H
             have c73b0 : (a1_0 == 4) = true := beq_iff_eq.mpr c73
             have c73b1 : (a1_0 != 4) = false := bne_eq_false_iff_eq.mpr c73
             clear c73
             (first | rw [c73b0] | (simp only [i64_w, i32_w]; rw [c73b0]) | skip)
             replace H := Option.bind_eq_some_iff.mp H
             obtain ⟨t180, A740, H⟩ := H
             replace H : (lodgerlaw10_AskOthers.j4 kj53 a3 (t180 != 0) a0_0 a0_1 l0_2 a0_3 a0_4 a0_5 a0_6 a1_0 a1_1 l1_2) = some r := H
             have A74 := Aside0.mk A740
             clear A740
             have H' := Aside0.mk H
             clear H
             have hnb75 := NB169_168.out
             have hnc75 := NB168_169.out
             have hnb76 := NB169_174.out
             have hnc76 := NB174_169.out
             have hcz77_0 : w72.cell? ⟨gb169, 0, none⟩ = some (.int .i64 a1_0) := (blk_cell BK169.out 0).trans rfl
             have hcz77_1 : w72.cell? ⟨gb169, 1, none⟩ = some (.int .u32 a1_1) := (blk_cell BK169.out 1).trans rfl
             have hcz77_2 : w72.cell? ⟨gb169, 2, none⟩ = some (.slice A1_2 l1_2.length c1_2) := (blk_cell BK169.out 2).trans rfl
             have hfz77_0 := blk_frozen BK169.out 0
             have hfz77_1 := blk_frozen BK169.out 1
             have hfz77_2 := blk_frozen BK169.out 2
             have hnb78 := NB168_174.out
             have hnc78 := NB174_168.out
             have hcz79_0 : w72.cell? ⟨gb168, 0, none⟩ = some (.int .u32 a0_0) := (blk_cell BK168.out 0).trans rfl
             have hcz79_1 : w72.cell? ⟨gb168, 1, none⟩ = some (.int .i64 a0_1) := (blk_cell BK168.out 1).trans rfl
             have hcz79_2 : w72.cell? ⟨gb168, 2, none⟩ = some (.slice A0_2 l0_2.length c0_2) := (blk_cell BK168.out 2).trans rfl
             have hcz79_3 : w72.cell? ⟨gb168, 3, none⟩ = some (.int .i64 a0_3) := (blk_cell BK168.out 3).trans rfl
             have hcz79_4 : w72.cell? ⟨gb168, 4, none⟩ = some (.int .i64 a0_4) := (blk_cell BK168.out 4).trans rfl
             have hcz79_5 : w72.cell? ⟨gb168, 5, none⟩ = some (.int .i64 a0_5) := (blk_cell BK168.out 5).trans rfl
             have hcz79_6 : w72.cell? ⟨gb168, 6, none⟩ = some (.int .i64 a0_6) := (blk_cell BK168.out 6).trans rfl
             have hfz79_0 := blk_frozen BK168.out 0
             have hfz79_1 := blk_frozen BK168.out 1
             have hfz79_2 := blk_frozen BK168.out 2
             have hfz79_3 := blk_frozen BK168.out 3
             have hfz79_4 := blk_frozen BK168.out 4
             have hfz79_5 := blk_frozen BK168.out 5
             have hfz79_6 := blk_frozen BK168.out 6
             go_wp2_with (first | (go_at_call 11; (with_reducible refine (ask_Check.calls kj53 a0_0 a0_1 _ _ l0_2 a0_3 a0_4 a0_5 a0_6 a1_0 a1_1 _ _ l1_2 t180 _ ?side1 ?side2 ?side3 ?side4 ?side5 A74.out).mono ?_); (case side1 => repeat (first | exact (Kd.C_below HR0_2.out HB.out) | (with_reducible refine Kd.C_alloc ?_ _) | (with_reducible refine Kd.C_drewN ?_ _) | (with_reducible refine Kd.C_drew ?_))); (case side2 => exact HC0_2.out); (case side3 => repeat (first | exact (Kd.V_reads' HO_170002.out).2.2 | (with_reducible refine Kd.C_alloc ?_ _) | (with_reducible refine Kd.C_drewN ?_ _) | (with_reducible refine Kd.C_drew ?_))); (case side4 => exact (Kd.V_reads' HO_170002.out).2.1); (case side5 => exact Lg_below HG.out (by repeat (first | (with_reducible first | exact HB.out | apply below_alloc | apply pw_below_drewN | apply below_drew1 | refine below_set ?_ GE168.out | refine below_set ?_ GE169.out | refine below_set ?_ GE174.out) | exact HB.out))); rintro e w80 ⟨rfl, hb⟩; have n0_ := Aside0.mk (Kd.V_below (by (with_reducible repeat (first | apply Kd.V_alloc | apply Kd.V_drewN | apply Kd.V_drew)); exact HO_170002.out) hb); have n1_ := Aside0.mk (Kd.V_below (by (with_reducible repeat (first | apply Kd.V_alloc | apply Kd.V_drewN | apply Kd.V_drew)); exact HO_175002.out) hb); have n2_ := Aside0.mk (blk_below (g := gb168) (o := .cells #[.int .u32 a0_0, .int .i64 a0_1, .slice A0_2 l0_2.length c0_2, .int .i64 a0_3, .int .i64 a0_4, .int .i64 a0_5, .int .i64 a0_6] 27 (0, 0)) (by (with_reducible repeat (first | refine blk_drewN ?_ _ | refine blk_drew ?_ | refine blk_alloc ?_ _)); exact BK168.out) hb); have n3_ := Aside0.mk (blk_below (g := gb169) (o := .cells #[.int .i64 a1_0, .int .u32 a1_1, .slice A1_2 l1_2.length c1_2] 30 (0, 0)) (by (with_reducible repeat (first | refine blk_drewN ?_ _ | refine blk_drew ?_ | refine blk_alloc ?_ _)); exact BK169.out) hb); have n4_ := Aside0.mk (blk_below (g := gb174) (o := .cells #[.int .i64 a1_0, .int .u32 x175001_48, .slice Ao71 x175002_53.length co71] 30 (0, 0)) (by (with_reducible repeat (first | refine blk_drewN ?_ _ | refine blk_drew ?_ | refine blk_alloc ?_ _)); exact BK174.out) hb); have n5_ := Aside0.mk (below_step (by repeat (first | (with_reducible first | exact HB.out | apply below_alloc | apply pw_below_drewN | apply below_drew1 | refine below_set ?_ GE168.out | refine below_set ?_ GE169.out | refine below_set ?_ GE174.out) | exact HB.out)) hb); clear HO_170002; clear HO_175002; clear BK168; clear BK169; clear BK174; clear HB; have HO_170002 := n0_; have HO_175002 := n1_; have BK168 := n2_; have BK169 := n3_; have BK174 := n4_; have HB := n5_; clear n0_ n1_ n2_ n3_ n4_ n5_; (try clear hb); (try clear hb2); (try clear hk); (try clear hi)))
             go_meet
             case rel => exact ⟨_, ((t180 != 0)), (by first | rfl | (simp; done) | (simp [*]; done)), H', ⟨by have := HJ4.out; have := HJ26.out; have := HJ48.out; have := HJ53.out; first | omega | exact Nat.le_refl _⟩, ⟨by (with_reducible repeat (first | apply Kd.V_alloc | apply Kd.V_drewN | apply Kd.V_drew)); exact HO_170002.out⟩, ⟨by (with_reducible repeat (first | apply Kd.V_alloc | apply Kd.V_drewN | apply Kd.V_drew)); exact HO_175002.out⟩, ⟨by (with_reducible repeat (first | refine blk_drewN ?_ _ | refine blk_drew ?_ | refine blk_alloc ?_ _)); exact BK168.out⟩, ⟨by (with_reducible repeat (first | refine blk_drewN ?_ _ | refine blk_drew ?_ | refine blk_alloc ?_ _)); exact BK169.out⟩, ⟨by (with_reducible repeat (first | refine blk_drewN ?_ _ | refine blk_drew ?_ | refine blk_alloc ?_ _)); exact BK174.out⟩, ⟨by repeat (first | (with_reducible first | exact HB.out | apply below_alloc | apply pw_below_drewN | apply below_drew1 | refine below_set ?_ GE168.out | refine below_set ?_ GE169.out | refine below_set ?_ GE174.out) | exact HB.out)⟩⟩
            ·rw [if_neg c73] at H
             have c73b0 : (a1_0 == 4) = false := beq_eq_false_iff_ne.mpr c73
             have c73b1 : (a1_0 != 4) = true := bne_iff_ne.mpr c73
             (first | rw [c73b0] | (simp only [i64_w, i32_w]; rw [c73b0]) | skip)
             have H' := Aside0.mk H
             clear H
             have hnb81 := NB169_168.out
             have hnc81 := NB168_169.out
             have hnb82 := NB169_174.out
             have hnc82 := NB174_169.out
             have hcz83_0 : w72.cell? ⟨gb169, 0, none⟩ = some (.int .i64 a1_0) := (blk_cell BK169.out 0).trans rfl
             have hcz83_1 : w72.cell? ⟨gb169, 1, none⟩ = some (.int .u32 a1_1) := (blk_cell BK169.out 1).trans rfl
             have hcz83_2 : w72.cell? ⟨gb169, 2, none⟩ = some (.slice A1_2 l1_2.length c1_2) := (blk_cell BK169.out 2).trans rfl
             have hfz83_0 := blk_frozen BK169.out 0
             have hfz83_1 := blk_frozen BK169.out 1
             have hfz83_2 := blk_frozen BK169.out 2
             go_wp2
             go_meet
             case rel => exact ⟨_, (true), (by first | rfl | (simp; done) | (simp [*]; done)), H', ⟨by have := HJ4.out; have := HJ26.out; have := HJ48.out; have := HJ53.out; first | omega | exact Nat.le_refl _⟩, ⟨by (with_reducible repeat (first | apply Kd.V_alloc | apply Kd.V_drewN | apply Kd.V_drew)); exact HO_170002.out⟩, ⟨by (with_reducible repeat (first | apply Kd.V_alloc | apply Kd.V_drewN | apply Kd.V_drew)); exact HO_175002.out⟩, ⟨by (with_reducible repeat (first | refine blk_drewN ?_ _ | refine blk_drew ?_ | refine blk_alloc ?_ _)); exact BK168.out⟩, ⟨by (with_reducible repeat (first | refine blk_drewN ?_ _ | refine blk_drew ?_ | refine blk_alloc ?_ _)); exact BK169.out⟩, ⟨by (with_reducible repeat (first | refine blk_drewN ?_ _ | refine blk_drew ?_ | refine blk_alloc ?_ _)); exact BK174.out⟩, ⟨by repeat (first | (with_reducible first | exact HB.out | apply below_alloc | apply pw_below_drewN | apply below_drew1 | refine below_set ?_ GE168.out | refine below_set ?_ GE169.out | refine below_set ?_ GE174.out) | exact HB.out)⟩⟩
           case rest =>
            clear HC68
            try clear c1
            try clear c2
            try clear p2
            try clear c3
            try clear c4
            try clear c5
            try clear c6
            try clear c7
            try clear c8
            try clear c9
            try clear c11
            try clear c14
            try clear c20
            try clear c24
            try clear c28
            try clear c31
            try clear c32
            try clear c34
            try clear c34b0
            try clear c34b1
            try clear c35
            try clear c36
            try clear c38
            try clear c38b0
            try clear c38b1
            try clear c39
            try clear c40
            try clear c42
            try clear c42b0
            try clear c42b1
            try clear c43
            try clear c44
            try clear c46
            try clear c47
            try clear c50
            try clear c51
            try clear c52
            try clear c55
            try clear c56
            try clear c58
            try clear c58b0
            try clear c58b1
            try clear c62
            try clear c63
            try clear c67
            try clear c67b0
            try clear c67b1
            try clear c73
            try clear c73b0
            try clear c73b1
            try clear c75
            try clear c76
            try clear c78
            try clear c81
            try clear c82
            try clear hcz15_0
            try clear hcz15_1
            try clear hcz15_2
            try clear hcz15_3
            try clear hcz15_4
            try clear hcz15_5
            try clear hcz15_6
            try clear hcz17_0
            try clear hcz17_1
            try clear hcz17_2
            try clear hcz21_0
            try clear hcz21_1
            try clear hcz21_2
            try clear hcz21_3
            try clear hcz21_4
            try clear hcz21_5
            try clear hcz21_6
            try clear hcz29_0
            try clear hcz29_1
            try clear hcz29_2
            try clear hcz33_0
            try clear hcz33_1
            try clear hcz33_2
            try clear hcz37_0
            try clear hcz37_1
            try clear hcz37_2
            try clear hcz41_0
            try clear hcz41_1
            try clear hcz41_2
            try clear hcz45_0
            try clear hcz45_1
            try clear hcz45_2
            try clear hcz48_0
            try clear hcz48_1
            try clear hcz48_2
            try clear hcz53_0
            try clear hcz53_1
            try clear hcz53_2
            try clear hcz57_0
            try clear hcz57_1
            try clear hcz57_2
            try clear hcz64_0
            try clear hcz64_1
            try clear hcz64_2
            try clear hcz77_0
            try clear hcz77_1
            try clear hcz77_2
            try clear hcz79_0
            try clear hcz79_1
            try clear hcz79_2
            try clear hcz79_3
            try clear hcz79_4
            try clear hcz79_5
            try clear hcz79_6
            try clear hcz83_0
            try clear hcz83_1
            try clear hcz83_2
            try clear hfz15_0
            try clear hfz15_1
            try clear hfz15_2
            try clear hfz15_3
            try clear hfz15_4
            try clear hfz15_5
            try clear hfz15_6
            try clear hfz17_0
            try clear hfz17_1
            try clear hfz17_2
            try clear hfz21_0
            try clear hfz21_1
            try clear hfz21_2
            try clear hfz21_3
            try clear hfz21_4
            try clear hfz21_5
            try clear hfz21_6
            try clear hfz29_0
            try clear hfz29_1
            try clear hfz29_2
            try clear hfz33_0
            try clear hfz33_1
            try clear hfz33_2
            try clear hfz37_0
            try clear hfz37_1
            try clear hfz37_2
            try clear hfz41_0
            try clear hfz41_1
            try clear hfz41_2
            try clear hfz45_0
            try clear hfz45_1
            try clear hfz45_2
            try clear hfz48_0
            try clear hfz48_1
            try clear hfz48_2
            try clear hfz53_0
            try clear hfz53_1
            try clear hfz53_2
            try clear hfz57_0
            try clear hfz57_1
            try clear hfz57_2
            try clear hfz64_0
            try clear hfz64_1
            try clear hfz64_2
            try clear hfz77_0
            try clear hfz77_1
            try clear hfz77_2
            try clear hfz79_0
            try clear hfz79_1
            try clear hfz79_2
            try clear hfz79_3
            try clear hfz79_4
            try clear hfz79_5
            try clear hfz79_6
            try clear hfz83_0
            try clear hfz83_1
            try clear hfz83_2
            try clear p2
            obtain ⟨kq, x67_67, rfl, HA, HJ67, HO_170002, HO_175002, BK168, BK169, BK174, HB⟩ := hcut
            cases kq with
            | zero => exact absurd HA.out (by simp [lodgerlaw10_AskOthers.j4])
            | succ kj67 =>
             have H := HA.out
             clear HA
             simp only [lodgerlaw10_AskOthers.j4] at H
             by_cases c84 : x67_67 = true
             ·subst c84
              have H1 : (some true) = some r := by rw [if_pos rfl] at H; exact H
              clear H
              have H := H1
              clear H1
              first | (exfalso; rw [hr_.out] at H; exact absurd (Option.some.inj H) (by decide)) | (try clear hr_)
              all_goals
               obtain rfl := Option.some.inj H
               go_wp2
               go_ret
               exact ⟨by first | rfl | (simp [errW_none, errW_some] <;> rfl) | (simp [*, errW_none, errW_some] <;> rfl), by repeat (first | (with_reducible first | exact HB.out | apply below_alloc | apply pw_below_drewN | apply below_drew1 | refine below_set ?_ GE168.out | refine below_set ?_ GE169.out | refine below_set ?_ GE174.out) | exact HB.out)⟩
             ·replace c84 := Bool.eq_false_iff.mpr c84
              subst c84
              have H1 : (if (wrap64 ((l1_2.length : Int) + 1)) = 0 then (none) else (if 0 ≤ (Int.tmod (wrap64 (a3)) (wrap64 ((l1_2.length : Int) + 1))) then (if (Int.tmod (wrap64 (a3)) (wrap64 ((l1_2.length : Int) + 1))) ≤ (l1_2.length : Int) then ((some (l1_2.take ((Int.tmod (wrap64 (a3)) (wrap64 ((l1_2.length : Int) + 1))) : Int).toNat : List Int)).bind fun y182 => ((ask_Check.f kj67 a0_0 a0_1 l0_2 a0_3 a0_4 a0_5 a0_6 a1_0 a1_1 y182).bind fun t187 => (if t187 = 0 then (some true) else (if (y182.length : Int) = 0 then ((ask_Check.f kj67 a0_0 a0_1 l0_2 a0_3 a0_4 a0_5 a0_6 a1_0 a1_1 y182).bind fun t188 => (some (t188 == 7))) else (some false))))) else (none)) else (none))) = some r := by rw [if_neg (show ¬ (false = true) by decide)] at H; exact H
              clear H
              have H := H1
              clear H1
              by_cases c85 : (wrap64 ((l1_2.length : Int) + 1)) = 0
              ·rw [if_pos c85] at H
               exact absurd H (by simp)
              ·rw [if_neg c85] at H
               have c85b0 : ((wrap64 ((l1_2.length : Int) + 1)) == 0) = false := beq_eq_false_iff_ne.mpr c85
               have c85b1 : ((wrap64 ((l1_2.length : Int) + 1)) != 0) = true := bne_iff_ne.mpr c85
               obtain ⟨ji86, hji86⟩ : ∃ j_ : Int, (Int.tmod (wrap64 (a3)) (wrap64 ((l1_2.length : Int) + 1))) = j_ := ⟨_, rfl⟩
               replace H : (if 0 ≤ (ji86) then (if (ji86) ≤ (l1_2.length : Int) then ((some (l1_2.take ((ji86) : Int).toNat : List Int)).bind fun y182 => ((ask_Check.f kj67 a0_0 a0_1 l0_2 a0_3 a0_4 a0_5 a0_6 a1_0 a1_1 y182).bind fun t187 => (if t187 = 0 then (some true) else (if (y182.length : Int) = 0 then ((ask_Check.f kj67 a0_0 a0_1 l0_2 a0_3 a0_4 a0_5 a0_6 a1_0 a1_1 y182).bind fun t188 => (some (t188 == 7))) else (some false))))) else (none)) else (none)) = some r := by first | (rw [hji86] at H; exact H) | (simp only [hji86] at H ⊢; exact H)
               by_cases c87 : 0 ≤ (ji86)
               ·rw [if_pos c87] at H
                have c87b0 := eq_true c87
                have c87b1 : decide (0 ≤ (ji86)) = true := decide_eq_true c87
                clear c87
                by_cases c88 : (ji86) ≤ (l1_2.length : Int)
                ·rw [if_pos c88] at H
                 have c88b0 := eq_true c88
                 have c88b1 : decide ((ji86) ≤ (l1_2.length : Int)) = true := decide_eq_true c88
                 clear c88
                 obtain ⟨y182, hy182⟩ : ∃ y_ : List Int, y_ = (l1_2.take ((ji86) : Int).toNat) := ⟨_, rfl⟩
                 replace H : ((ask_Check.f kj67 a0_0 a0_1 l0_2 a0_3 a0_4 a0_5 a0_6 a1_0 a1_1 y182).bind fun t187 => (if t187 = 0 then (some true) else (if (y182.length : Int) = 0 then ((ask_Check.f kj67 a0_0 a0_1 l0_2 a0_3 a0_4 a0_5 a0_6 a1_0 a1_1 y182).bind fun t188 => (some (t188 == 7))) else (some false)))) = some r := by first | (rw [hy182]; with_reducible exact H) | (have H2_ := (Option.bind_some _ _).symm.trans H; rw [hy182]; with_reducible exact H2_) | (have H2_ := (Option.bind_some _ _).symm.trans H; with_reducible exact H2_) | with_reducible exact H | (rw [hy182]; exact H) | exact H
                 have Ny182 := Aside0.mk hy182
                 clear hy182
                 replace H := Option.bind_eq_some_iff.mp H
                 obtain ⟨t187, A890, H⟩ := H
                 replace H : (if t187 = 0 then (some true) else (if (y182.length : Int) = 0 then ((ask_Check.f kj67 a0_0 a0_1 l0_2 a0_3 a0_4 a0_5 a0_6 a1_0 a1_1 y182).bind fun t188 => (some (t188 == 7))) else (some false))) = some r := H
                 have A89 := Aside0.mk A890
                 clear A890
                 by_cases c90 : t187 = 0
                 ·rw [if_pos c90] at H
                  have c90b0 : (t187 == 0) = true := beq_iff_eq.mpr c90
                  have c90b1 : (t187 != 0) = false := bne_eq_false_iff_eq.mpr c90
                  clear c90
                  first | (exfalso; rw [hr_.out] at H; exact absurd (Option.some.inj H) (by decide)) | (try clear hr_)
                  all_goals
                   obtain rfl := Option.some.inj H
                   have hnb91 := NB169_168.out
                   have hnc91 := NB168_169.out
                   have hnb92 := NB169_174.out
                   have hnc92 := NB174_169.out
                   have hcz93_0 : wc.cell? ⟨gb169, 0, none⟩ = some (.int .i64 a1_0) := (blk_cell BK169.out 0).trans rfl
                   have hcz93_1 : wc.cell? ⟨gb169, 1, none⟩ = some (.int .u32 a1_1) := (blk_cell BK169.out 1).trans rfl
                   have hcz93_2 : wc.cell? ⟨gb169, 2, none⟩ = some (.slice A1_2 l1_2.length c1_2) := (blk_cell BK169.out 2).trans rfl
                   have hfz93_0 := blk_frozen BK169.out 0
                   have hfz93_1 := blk_frozen BK169.out 1
                   have hfz93_2 := blk_frozen BK169.out 2
                   try go_wp2_with (first | ((with_reducible refine gate_dst (N := 10) rfl ?_); (try (refine gate_guard (by rfl) ?_; dsimp only)); refine box_event ?hg (N := 10) ?hd (cs := #[.int .i64 0, .int .u32 0, .slice none 0 0]) (t := 30) ?hr ?_; (case hd => rfl); (case hg => rfl); (case hr => first | (go_simp; done) | (go_simp; rfl)); intro gb181 hg w94 hbox hb; have n0_ := Aside0.mk (Kd.V_below (Kd.V_elderB (by (with_reducible repeat (first | apply Kd.V_alloc | apply Kd.V_drewN | apply Kd.V_drew)); exact HO_170002.out) gb181 (Nat.le_of_eq hg.symm)) hb); have n1_ := Aside0.mk (Kd.V_below (Kd.V_elderB (by (with_reducible repeat (first | apply Kd.V_alloc | apply Kd.V_drewN | apply Kd.V_drew)); exact HO_175002.out) gb181 (Nat.le_of_eq hg.symm)) hb); have n2_ := Aside0.mk (blk_below (g := gb168) (o := .cells #[.int .u32 a0_0, .int .i64 a0_1, .slice A0_2 l0_2.length c0_2, .int .i64 a0_3, .int .i64 a0_4, .int .i64 a0_5, .int .i64 a0_6] 27 (0, 0)) (by (with_reducible repeat (first | refine blk_drewN ?_ _ | refine blk_drew ?_ | refine blk_alloc ?_ _)); exact BK168.out) hb); have n3_ := Aside0.mk (blk_below (g := gb169) (o := .cells #[.int .i64 a1_0, .int .u32 a1_1, .slice A1_2 l1_2.length c1_2] 30 (0, 0)) (by (with_reducible repeat (first | refine blk_drewN ?_ _ | refine blk_drew ?_ | refine blk_alloc ?_ _)); exact BK169.out) hb); have n4_ := Aside0.mk (blk_below (g := gb174) (o := .cells #[.int .i64 a1_0, .int .u32 x175001_48, .slice Ao71 x175002_53.length co71] 30 (0, 0)) (by (with_reducible repeat (first | refine blk_drewN ?_ _ | refine blk_drew ?_ | refine blk_alloc ?_ _)); exact BK174.out) hb); have n5_ := Aside0.mk (below_step (by repeat (first | (with_reducible first | exact HB.out | apply below_alloc | apply pw_below_drewN | apply below_drew1 | refine below_set ?_ GE168.out | refine below_set ?_ GE169.out | refine below_set ?_ GE174.out) | exact HB.out)) hb); have n6_ := Aside0.mk (hbox); have n7_ := Aside0.mk ((by rw [hg]; exact (below_size (by repeat (first | (with_reducible first | exact HB.out | apply below_alloc | apply pw_below_drewN | apply below_drew1 | refine below_set ?_ GE168.out | refine below_set ?_ GE169.out | refine below_set ?_ GE174.out) | exact HB.out))) : w.heap.size ≤ gb181)); have n8_ := Aside0.mk ((by rw [hg]; exact (below_size (by repeat (first | (with_reducible first | exact HB.out | apply below_alloc | apply pw_below_drewN | apply below_drew1 | refine below_set ?_ GE168.out | refine below_set ?_ GE169.out | refine below_set ?_ GE174.out) | exact HB.out))) : w.heap.size ≤ gb181)); have n9_ := Aside0.mk ((by rw [hg]; exact Nat.ne_of_lt (blk_lt (g := gb168) (o := .cells #[.int .u32 a0_0, .int .i64 a0_1, .slice A0_2 l0_2.length c0_2, .int .i64 a0_3, .int .i64 a0_4, .int .i64 a0_5, .int .i64 a0_6] 27 (0, 0)) (by (with_reducible repeat (first | refine blk_drewN ?_ _ | refine blk_drew ?_ | refine blk_alloc ?_ _)); exact BK168.out)) : gb168 ≠ gb181)); have n10_ := Aside0.mk ((by rw [hg]; exact Nat.ne_of_gt (blk_lt (g := gb168) (o := .cells #[.int .u32 a0_0, .int .i64 a0_1, .slice A0_2 l0_2.length c0_2, .int .i64 a0_3, .int .i64 a0_4, .int .i64 a0_5, .int .i64 a0_6] 27 (0, 0)) (by (with_reducible repeat (first | refine blk_drewN ?_ _ | refine blk_drew ?_ | refine blk_alloc ?_ _)); exact BK168.out)) : gb181 ≠ gb168)); have n11_ := Aside0.mk ((by rw [hg]; exact Nat.ne_of_lt (blk_lt (g := gb169) (o := .cells #[.int .i64 a1_0, .int .u32 a1_1, .slice A1_2 l1_2.length c1_2] 30 (0, 0)) (by (with_reducible repeat (first | refine blk_drewN ?_ _ | refine blk_drew ?_ | refine blk_alloc ?_ _)); exact BK169.out)) : gb169 ≠ gb181)); have n12_ := Aside0.mk ((by rw [hg]; exact Nat.ne_of_gt (blk_lt (g := gb169) (o := .cells #[.int .i64 a1_0, .int .u32 a1_1, .slice A1_2 l1_2.length c1_2] 30 (0, 0)) (by (with_reducible repeat (first | refine blk_drewN ?_ _ | refine blk_drew ?_ | refine blk_alloc ?_ _)); exact BK169.out)) : gb181 ≠ gb169)); have n13_ := Aside0.mk ((by rw [hg]; exact Nat.ne_of_lt (blk_lt (g := gb174) (o := .cells #[.int .i64 a1_0, .int .u32 x175001_48, .slice Ao71 x175002_53.length co71] 30 (0, 0)) (by (with_reducible repeat (first | refine blk_drewN ?_ _ | refine blk_drew ?_ | refine blk_alloc ?_ _)); exact BK174.out)) : gb174 ≠ gb181)); have n14_ := Aside0.mk ((by rw [hg]; exact Nat.ne_of_gt (blk_lt (g := gb174) (o := .cells #[.int .i64 a1_0, .int .u32 x175001_48, .slice Ao71 x175002_53.length co71] 30 (0, 0)) (by (with_reducible repeat (first | refine blk_drewN ?_ _ | refine blk_drew ?_ | refine blk_alloc ?_ _)); exact BK174.out)) : gb181 ≠ gb174)); clear HO_170002; clear HO_175002; clear BK168; clear BK169; clear BK174; clear HB; have HO_170002 := n0_; have HO_175002 := n1_; have BK168 := n2_; have BK169 := n3_; have BK174 := n4_; have HB := n5_; have BK181 := n6_; have GW181 := n7_; have GE181 := n8_; have NB168_181 := n9_; have NB181_168 := n10_; have NB169_181 := n11_; have NB181_169 := n12_; have NB174_181 := n13_; have NB181_174 := n14_; clear n0_ n1_ n2_ n3_ n4_ n5_ n6_ n7_ n8_ n9_ n10_ n11_ n12_ n13_ n14_; clear hb hbox hg; have hnb95 := NB181_168.out; have hnc95 := NB168_181.out; have hnb96 := NB181_169.out; have hnc96 := NB169_181.out; have hnb97 := NB181_174.out; have hnc97 := NB174_181.out; have hcz98_0 : w94.cell? ⟨gb181, 0, none⟩ = some (.int .i64 0) := (blk_cell BK181.out 0).trans rfl; have hcz98_1 : w94.cell? ⟨gb181, 1, none⟩ = some (.int .u32 0) := (blk_cell BK181.out 1).trans rfl; have hcz98_2 : w94.cell? ⟨gb181, 2, none⟩ = some (.slice none 0 0) := (blk_cell BK181.out 2).trans rfl; have hfz98_0 := blk_frozen BK181.out 0; have hfz98_1 := blk_frozen BK181.out 1; have hfz98_2 := blk_frozen BK181.out 2))
                   have n0_ : Aside0 (Kd.V (Kd.int .u32) 22 (((w94.setCell ⟨gb181, 0, none⟩ (.int .i64 a1_0)).setCell ⟨gb181, 1, none⟩ (.int .u32 a1_1)).setCell ⟨gb181, 2, none⟩ (.slice A1_2 l1_2.length c1_2)) w.heap.size (fun k_ => (P1_2_ k_ ∨ w.heap.size ≤ k_) ∧ k_ ≠ gb168 ∧ k_ ≠ gb169 ∧ k_ ≠ gb174 ∧ k_ ≠ gb181) (.slice A1_2 l1_2.length c1_2) l1_2) := ⟨by (with_reducible repeat (first | apply Kd.V_alloc | apply Kd.V_drewN | apply Kd.V_drew)); exact Kd.V_mono (Kd.V_far (p := ⟨gb181, 2, none⟩) (Kd.V_far (p := ⟨gb181, 1, none⟩) (Kd.V_far (p := ⟨gb181, 0, none⟩) (Kd.V_mono HO_170002.out (fun k_ hk => (⟨hk, hk.2⟩ : _ ∧ k_ ≠ gb181))) (fun _ hk => hk.2) (.int .i64 a1_0)) (fun _ hk => hk.2) (.int .u32 a1_1)) (fun _ hk => hk.2) (.slice A1_2 l1_2.length c1_2)) (fun _ hk => ⟨hk.1.1.1, ⟨hk.1.1.2.1, ⟨hk.1.1.2.2.1, ⟨hk.1.1.2.2.2, hk.1.2⟩⟩⟩⟩)⟩
                   have n1_ : Aside0 (Kd.V (Kd.int .u32) 22 (((w94.setCell ⟨gb181, 0, none⟩ (.int .i64 a1_0)).setCell ⟨gb181, 1, none⟩ (.int .u32 a1_1)).setCell ⟨gb181, 2, none⟩ (.slice A1_2 l1_2.length c1_2)) w.heap.size (fun k_ => (P1_2_ k_ ∨ w.heap.size ≤ k_) ∧ k_ ≠ gb168 ∧ k_ ≠ gb169 ∧ k_ ≠ gb174 ∧ k_ ≠ gb181) (.slice Ao71 x175002_53.length co71) x175002_53) := ⟨by (with_reducible repeat (first | apply Kd.V_alloc | apply Kd.V_drewN | apply Kd.V_drew)); exact Kd.V_mono (Kd.V_far (p := ⟨gb181, 2, none⟩) (Kd.V_far (p := ⟨gb181, 1, none⟩) (Kd.V_far (p := ⟨gb181, 0, none⟩) (Kd.V_mono HO_175002.out (fun k_ hk => (⟨hk, hk.2⟩ : _ ∧ k_ ≠ gb181))) (fun _ hk => hk.2) (.int .i64 a1_0)) (fun _ hk => hk.2) (.int .u32 a1_1)) (fun _ hk => hk.2) (.slice A1_2 l1_2.length c1_2)) (fun _ hk => ⟨hk.1.1.1, ⟨hk.1.1.2.1, ⟨hk.1.1.2.2.1, ⟨hk.1.1.2.2.2, hk.1.2⟩⟩⟩⟩)⟩
                   have n2_ : Aside0 ((((w94.setCell ⟨gb181, 0, none⟩ (.int .i64 a1_0)).setCell ⟨gb181, 1, none⟩ (.int .u32 a1_1)).setCell ⟨gb181, 2, none⟩ (.slice A1_2 l1_2.length c1_2)).heap[gb168]? = some (.cells #[.int .u32 a0_0, .int .i64 a0_1, .slice A0_2 l0_2.length c0_2, .int .i64 a0_3, .int .i64 a0_4, .int .i64 a0_5, .int .i64 a0_6] 27 (0, 0))) := ⟨by (with_reducible repeat (first | refine blk_drewN ?_ _ | refine blk_drew ?_ | refine blk_alloc ?_ _)); refine blk_far ?_ NB168_181.out _; (with_reducible repeat (first | refine blk_drewN ?_ _ | refine blk_drew ?_ | refine blk_alloc ?_ _)); refine blk_far ?_ NB168_181.out _; (with_reducible repeat (first | refine blk_drewN ?_ _ | refine blk_drew ?_ | refine blk_alloc ?_ _)); refine blk_far ?_ NB168_181.out _; (with_reducible repeat (first | refine blk_drewN ?_ _ | refine blk_drew ?_ | refine blk_alloc ?_ _)); exact BK168.out⟩
                   have n3_ : Aside0 ((((w94.setCell ⟨gb181, 0, none⟩ (.int .i64 a1_0)).setCell ⟨gb181, 1, none⟩ (.int .u32 a1_1)).setCell ⟨gb181, 2, none⟩ (.slice A1_2 l1_2.length c1_2)).heap[gb169]? = some (.cells #[.int .i64 a1_0, .int .u32 a1_1, .slice A1_2 l1_2.length c1_2] 30 (0, 0))) := ⟨by (with_reducible repeat (first | refine blk_drewN ?_ _ | refine blk_drew ?_ | refine blk_alloc ?_ _)); refine blk_far ?_ NB169_181.out _; (with_reducible repeat (first | refine blk_drewN ?_ _ | refine blk_drew ?_ | refine blk_alloc ?_ _)); refine blk_far ?_ NB169_181.out _; (with_reducible repeat (first | refine blk_drewN ?_ _ | refine blk_drew ?_ | refine blk_alloc ?_ _)); refine blk_far ?_ NB169_181.out _; (with_reducible repeat (first | refine blk_drewN ?_ _ | refine blk_drew ?_ | refine blk_alloc ?_ _)); exact BK169.out⟩
                   have n4_ : Aside0 ((((w94.setCell ⟨gb181, 0, none⟩ (.int .i64 a1_0)).setCell ⟨gb181, 1, none⟩ (.int .u32 a1_1)).setCell ⟨gb181, 2, none⟩ (.slice A1_2 l1_2.length c1_2)).heap[gb174]? = some (.cells #[.int .i64 a1_0, .int .u32 x175001_48, .slice Ao71 x175002_53.length co71] 30 (0, 0))) := ⟨by (with_reducible repeat (first | refine blk_drewN ?_ _ | refine blk_drew ?_ | refine blk_alloc ?_ _)); refine blk_far ?_ NB174_181.out _; (with_reducible repeat (first | refine blk_drewN ?_ _ | refine blk_drew ?_ | refine blk_alloc ?_ _)); refine blk_far ?_ NB174_181.out _; (with_reducible repeat (first | refine blk_drewN ?_ _ | refine blk_drew ?_ | refine blk_alloc ?_ _)); refine blk_far ?_ NB174_181.out _; (with_reducible repeat (first | refine blk_drewN ?_ _ | refine blk_drew ?_ | refine blk_alloc ?_ _)); exact BK174.out⟩
                   have n5_ : Aside0 ((((w94.setCell ⟨gb181, 0, none⟩ (.int .i64 a1_0)).setCell ⟨gb181, 1, none⟩ (.int .u32 a1_1)).setCell ⟨gb181, 2, none⟩ (.slice A1_2 l1_2.length c1_2)).heap[gb181]? = some (.cells #[.int .i64 a1_0, .int .u32 a1_1, .slice A1_2 l1_2.length c1_2] 30 (0, 0))) := ⟨by (with_reducible repeat (first | refine blk_drewN ?_ _ | refine blk_drew ?_ | refine blk_alloc ?_ _)); refine blk_put (cs := #[.int .i64 a1_0, .int .u32 a1_1, .slice none 0 0]) ?_ 2 _ rfl; (with_reducible repeat (first | refine blk_drewN ?_ _ | refine blk_drew ?_ | refine blk_alloc ?_ _)); refine blk_put (cs := #[.int .i64 a1_0, .int .u32 0, .slice none 0 0]) ?_ 1 _ rfl; (with_reducible repeat (first | refine blk_drewN ?_ _ | refine blk_drew ?_ | refine blk_alloc ?_ _)); refine blk_put (cs := #[.int .i64 0, .int .u32 0, .slice none 0 0]) ?_ 0 _ rfl; (with_reducible repeat (first | refine blk_drewN ?_ _ | refine blk_drew ?_ | refine blk_alloc ?_ _)); exact BK181.out⟩
                   have n6_ : Aside0 (Below w.heap.size w (((w94.setCell ⟨gb181, 0, none⟩ (.int .i64 a1_0)).setCell ⟨gb181, 1, none⟩ (.int .u32 a1_1)).setCell ⟨gb181, 2, none⟩ (.slice A1_2 l1_2.length c1_2))) := ⟨by repeat (first | (with_reducible first | exact HB.out | apply below_alloc | apply pw_below_drewN | apply below_drew1 | refine below_set ?_ GE168.out | refine below_set ?_ GE169.out | refine below_set ?_ GE174.out | refine below_set ?_ GE181.out) | exact HB.out)⟩
                   (try clear HO_170002)
                   (try clear HO_175002)
                   (try clear BK168)
                   (try clear BK169)
                   (try clear BK174)
                   (try clear BK181)
                   (try clear HB)
                   generalize (((w94.setCell ⟨gb181, 0, none⟩ (.int .i64 a1_0)).setCell ⟨gb181, 1, none⟩ (.int .u32 a1_1)).setCell ⟨gb181, 2, none⟩ (.slice A1_2 l1_2.length c1_2)) = w99 at n0_ n1_ n2_ n3_ n4_ n5_ n6_ ⊢
                   have HO_170002 := n0_
                   have HO_175002 := n1_
                   have BK168 := n2_
                   have BK169 := n3_
                   have BK174 := n4_
                   have BK181 := n5_
                   have HB := n6_
                   clear n0_ n1_ n2_ n3_ n4_ n5_ n6_
                   have n0_ := Aside0.mk (Kd.V_drew HO_170002.out)
                   have n1_ := Aside0.mk (Kd.V_drew HO_175002.out)
                   have n2_ := Aside0.mk (blk_drew BK168.out)
                   have n3_ := Aside0.mk (blk_drew BK169.out)
                   have n4_ := Aside0.mk (blk_drew BK174.out)
                   have n5_ := Aside0.mk (blk_drew BK181.out)
                   have n6_ := Aside0.mk (below_drew1 HB.out)
                   clear HO_170002
                   clear HO_175002
                   clear BK168
                   clear BK169
                   clear BK174
                   clear BK181
                   clear HB
                   have HO_170002 := n0_
                   have HO_175002 := n1_
                   have BK168 := n2_
                   have BK169 := n3_
                   have BK174 := n4_
                   have BK181 := n5_
                   have HB := n6_
                   clear n0_ n1_ n2_ n3_ n4_ n5_ n6_
                   have q101 : ((ji86) : Int) ≤ ((l1_2.length : Int) : Int) := od_
                   obtain ⟨i0101, hi0101, _, hsz101, _⟩ := info_parts info22
                   have hroom101 : l1_2.length ≤ c1_2 := (Kd.V_reads' HO_170002.out).2.1
                   have hC101 : Kd.F (Kd.int .u32) _ _ A1_2 l1_2.length l1_2 := (Kd.V_at (base := w.heap.size) HO_170002.out).2.2
                   have hcut101 := cut_to (P := Tryd.prog) 28 22 .i64 Tryd.underlying28 hi0101 A1_2 l1_2.length c1_2 (ji86) od_ q101 hroom101
                   have hr101 := Kd.F_take (m := ((ji86) : Int).toNat) hC101 (by omega)
                   have hy101 : y182.length = ((ji86) : Int).toNat := (by rw [Ny182.out, List.length_take]; omega)
                   rw [← Ny182.out] at hr101
                   rw [← hy101] at hcut101
                   have HO186 := Aside0.mk (show Kd.V (Kd.int .u32) 22 _ w.heap.size _ (.slice A1_2 y182.length c1_2) y182 from Kd.V_mk (by omega) hr101)
                   have HC186 := Aside0.mk (show y182.length ≤ c1_2 from by omega)
                   clear hr101 hC101 hroom101 hi0101 hsz101
                   have KY101 := Aside0.mk hy101
                   clear hy101
                   replace q101 := eq_true q101
                   refine start_ (n := 12) (S := fun w' => w'.cell? ⟨gb169, 0, none⟩ = some (.int .i64 a1_0) ∧ w'.cell? ⟨gb169, 1, none⟩ = some (.int .u32 a1_1) ∧ w'.cell? ⟨gb169, 2, none⟩ = some (.slice A1_2 l1_2.length c1_2)) (ds := []) #[false, false, false, false, false, false, false, false, false, false, false, false] (by kernel_rfl) rfl rfl ⟨(blk_cell BK169.out 0).trans rfl, (blk_cell BK169.out 1).trans rfl, (blk_cell BK169.out 2).trans rfl⟩ (fun hHeld => ?_); refine with_tabW lodgerlaw10_AskOthers.tab13 lodgerlaw10_AskOthers.bits13 (fun HT_ HW_ => ?_)
                   generalize w99.drew = w100 at HO_170002 HO_175002 BK168 BK169 BK174 BK181 HB HO186 hHeld ⊢
                   refine pu_ (i := 0) (N := some 69) (tf 12 1) HT_ ?_
                   refine pu_ (i := 2) (N := some 71) (tf 12 5) HT_ ?_
                   refine pu_ (i := 3) (N := some 72) (tf 12 13) HT_ ?_
                   refine pu_ (i := 4) (N := some 73) (tf 12 29) HT_ ?_
                   refine tk_ (i := 1) (N := some 70) (tf 12 31) rfl rfl HT_ HW_ hHeld (by rintro w' ⟨s0, s1, s2⟩; go_simp; with_reducible rfl) ?_
                   refine tk_ (i := 5) (N := some 74) (tf 12 63) rfl rfl HT_ HW_ hHeld (by rintro w' ⟨s0, s1, s2⟩; go_simp; with_reducible rfl) ?_
                   refine pu_ (i := 6) (N := some 75) (tf 12 127) HT_ ?_
                   refine pu_ (i := 7) (N := some 76) (tf 12 255) HT_ ?_
                   refine pu_ (i := 8) (N := some 77) (tf 12 511) HT_ ?_
                   refine pu_ (i := 9) (N := some 78) (tf 12 1023) HT_ ?_
                   refine pu_ (i := 10) (N := some 79) (tf 12 2047) HT_ ?_
                   refine one_ (i := 11) (N := none) #[true, true, true, true, true, true, true, true, true, true, true, true] rfl rfl (one_of HT_.out (by kernel_rfl)) (by decide) (fun K hK => ?_)
                   have hs102 : w100.cell? ⟨gb181, 2, none⟩ = some (.slice A1_2 l1_2.length c1_2) := (blk_cell BK181.out 2).trans rfl
                   have hfs102 := blk_frozen BK181.out 2
                   have hns102_0 := NB168_181.out
                   have hns102_1 := NB169_181.out
                   have hns102_2 := NB174_181.out
                   have hms102_0 := NB181_168.out
                   have hms102_1 := NB181_169.out
                   have hms102_2 := NB181_174.out
                   refine skip_ (w1 := ?_) (by rfl) rfl ?_ ?_
                   rotate_left
                   ·go_simp
                    rfl
                   refine hK.out _ _ ⟨((cell_far (p := ⟨gb181, _, none⟩) NB169_181.out _).trans (hHeld.1)), ((cell_far (p := ⟨gb181, _, none⟩) NB169_181.out _).trans (hHeld.2.1)), ((cell_far (p := ⟨gb181, _, none⟩) NB169_181.out _).trans (hHeld.2.2))⟩ (fun hHeld => ?_)
                   clear hK K
                   refine done_ (done_of HT_.out (by kernel_rfl)) ?_
                   have hnb103 := NB168_174.out
                   have hnc103 := NB174_168.out
                   have hcz104_0 : w100.cell? ⟨gb168, 0, none⟩ = some (.int .u32 a0_0) := (blk_cell BK168.out 0).trans rfl
                   have hcz104_1 : w100.cell? ⟨gb168, 1, none⟩ = some (.int .i64 a0_1) := (blk_cell BK168.out 1).trans rfl
                   have hcz104_2 : w100.cell? ⟨gb168, 2, none⟩ = some (.slice A0_2 l0_2.length c0_2) := (blk_cell BK168.out 2).trans rfl
                   have hcz104_3 : w100.cell? ⟨gb168, 3, none⟩ = some (.int .i64 a0_3) := (blk_cell BK168.out 3).trans rfl
                   have hcz104_4 : w100.cell? ⟨gb168, 4, none⟩ = some (.int .i64 a0_4) := (blk_cell BK168.out 4).trans rfl
                   have hcz104_5 : w100.cell? ⟨gb168, 5, none⟩ = some (.int .i64 a0_5) := (blk_cell BK168.out 5).trans rfl
                   have hcz104_6 : w100.cell? ⟨gb168, 6, none⟩ = some (.int .i64 a0_6) := (blk_cell BK168.out 6).trans rfl
                   have hfz104_0 := blk_frozen BK168.out 0
                   have hfz104_1 := blk_frozen BK168.out 1
                   have hfz104_2 := blk_frozen BK168.out 2
                   have hfz104_3 := blk_frozen BK168.out 3
                   have hfz104_4 := blk_frozen BK168.out 4
                   have hfz104_5 := blk_frozen BK168.out 5
                   have hfz104_6 := blk_frozen BK168.out 6
                   have hcz105_0 : w100.cell? ⟨gb181, 0, none⟩ = some (.int .i64 a1_0) := (blk_cell BK181.out 0).trans rfl
                   have hcz105_1 : w100.cell? ⟨gb181, 1, none⟩ = some (.int .u32 a1_1) := (blk_cell BK181.out 1).trans rfl
                   have hcz105_2 : w100.cell? ⟨gb181, 2, none⟩ = some (.slice A1_2 l1_2.length c1_2) := (blk_cell BK181.out 2).trans rfl
                   have hfz105_0 := blk_frozen BK181.out 0
                   have hfz105_1 := blk_frozen BK181.out 1
                   have hfz105_2 := blk_frozen BK181.out 2
                   try go_wp2_with (first | ((with_reducible refine gate_callee (f := 11) rfl ?_); refine goesL_ (some 82) rfl rfl Tryd.func11 (by kernel_rfl) rfl #[.agg #[.int .u32 a0_0, .int .i64 a0_1, .slice A0_2 l0_2.length c0_2, .int .i64 a0_3, .int .i64 a0_4, .int .i64 a0_5, .int .i64 a0_6], .agg #[.int .i64 a1_0, .int .u32 a1_1, .slice A1_2 y182.length c1_2]] rfl (by (try simp only [List.map_toArray, List.map_cons, List.map_nil]); first | done | rfl | (simp only [List.length_drop, List.length_take]; rfl)) ?_; (with_reducible refine (ask_Check.calls kj67 a0_0 a0_1 _ _ l0_2 a0_3 a0_4 a0_5 a0_6 a1_0 a1_1 _ _ y182 t187 _ ?side1 ?side2 ?side3 ?side4 ?side5 A89.out).mono ?_); (case side1 => exact Kd.C_below HR0_2.out (by repeat (first | (with_reducible first | exact HB.out | apply below_alloc | apply pw_below_drewN | apply below_drew1 | refine below_set ?_ GE168.out | refine below_set ?_ GE169.out | refine below_set ?_ GE174.out | refine below_set ?_ GE181.out) | exact HB.out))); (case side2 => exact HC0_2.out); (case side3 => refine (Kd.V_reads' (e := 22) (base := w.heap.size) (ok := fun k_ => ((P1_2_ k_ ∨ w.heap.size ≤ k_) ∧ (k_ ≠ gb168 ∧ (k_ ≠ gb169 ∧ (k_ ≠ gb174 ∧ k_ ≠ gb181))))) (n := y182.length) (c := c1_2) ?_).2.2; exact (by (with_reducible repeat (first | apply Kd.V_alloc | apply Kd.V_drewN | apply Kd.V_drew)); exact (Kd.V_mono (Kd.V_far (p := ⟨gb181, 2, none⟩) (Kd.V_mono HO186.out (fun k_ hk => (⟨hk, hk.2.2.2.2⟩ : _ ∧ k_ ≠ gb181))) (fun _ hk => hk.2) (.slice A1_2 y182.length c1_2)) (fun _ h_ => h_.1)))); (case side4 => exact (Kd.V_reads' HO186.out).2.1); (case side5 => exact Lg_below HG.out (by repeat (first | (with_reducible first | exact HB.out | apply below_alloc | apply pw_below_drewN | apply below_drew1 | refine below_set ?_ GE168.out | refine below_set ?_ GE169.out | refine below_set ?_ GE174.out | refine below_set ?_ GE181.out) | exact HB.out))); rintro e w106 ⟨rfl, hb⟩; refine ⟨_, rfl, ?_⟩; have n0_ := Aside0.mk (Kd.V_below (by (with_reducible repeat (first | apply Kd.V_alloc | apply Kd.V_drewN | apply Kd.V_drew)); exact (Kd.V_mono (Kd.V_far (p := ⟨gb181, 2, none⟩) (Kd.V_mono HO_170002.out (fun k_ hk => (⟨hk, hk.2.2.2.2⟩ : _ ∧ k_ ≠ gb181))) (fun _ hk => hk.2) (.slice A1_2 y182.length c1_2)) (fun _ h_ => h_.1))) hb); have n1_ := Aside0.mk (Kd.V_below (by (with_reducible repeat (first | apply Kd.V_alloc | apply Kd.V_drewN | apply Kd.V_drew)); exact (Kd.V_mono (Kd.V_far (p := ⟨gb181, 2, none⟩) (Kd.V_mono HO_175002.out (fun k_ hk => (⟨hk, hk.2.2.2.2⟩ : _ ∧ k_ ≠ gb181))) (fun _ hk => hk.2) (.slice A1_2 y182.length c1_2)) (fun _ h_ => h_.1))) hb); have n2_ := Aside0.mk (Kd.V_below (by (with_reducible repeat (first | apply Kd.V_alloc | apply Kd.V_drewN | apply Kd.V_drew)); exact (Kd.V_mono (Kd.V_far (p := ⟨gb181, 2, none⟩) (Kd.V_mono HO186.out (fun k_ hk => (⟨hk, hk.2.2.2.2⟩ : _ ∧ k_ ≠ gb181))) (fun _ hk => hk.2) (.slice A1_2 y182.length c1_2)) (fun _ h_ => h_.1))) hb); have n3_ := Aside0.mk (blk_below (g := gb168) (o := .cells #[.int .u32 a0_0, .int .i64 a0_1, .slice A0_2 l0_2.length c0_2, .int .i64 a0_3, .int .i64 a0_4, .int .i64 a0_5, .int .i64 a0_6] 27 (0, 0)) (by (with_reducible repeat (first | refine blk_drewN ?_ _ | refine blk_drew ?_ | refine blk_alloc ?_ _)); refine blk_far ?_ NB168_181.out _; (with_reducible repeat (first | refine blk_drewN ?_ _ | refine blk_drew ?_ | refine blk_alloc ?_ _)); exact BK168.out) hb); have n4_ := Aside0.mk (blk_below (g := gb169) (o := .cells #[.int .i64 a1_0, .int .u32 a1_1, .slice A1_2 l1_2.length c1_2] 30 (0, 0)) (by (with_reducible repeat (first | refine blk_drewN ?_ _ | refine blk_drew ?_ | refine blk_alloc ?_ _)); refine blk_far ?_ NB169_181.out _; (with_reducible repeat (first | refine blk_drewN ?_ _ | refine blk_drew ?_ | refine blk_alloc ?_ _)); exact BK169.out) hb); have n5_ := Aside0.mk (blk_below (g := gb174) (o := .cells #[.int .i64 a1_0, .int .u32 x175001_48, .slice Ao71 x175002_53.length co71] 30 (0, 0)) (by (with_reducible repeat (first | refine blk_drewN ?_ _ | refine blk_drew ?_ | refine blk_alloc ?_ _)); refine blk_far ?_ NB174_181.out _; (with_reducible repeat (first | refine blk_drewN ?_ _ | refine blk_drew ?_ | refine blk_alloc ?_ _)); exact BK174.out) hb); have n6_ := Aside0.mk (blk_below (g := gb181) (o := .cells #[.int .i64 a1_0, .int .u32 a1_1, .slice A1_2 y182.length c1_2] 30 (0, 0)) (by (with_reducible repeat (first | refine blk_drewN ?_ _ | refine blk_drew ?_ | refine blk_alloc ?_ _)); refine blk_put (cs := #[.int .i64 a1_0, .int .u32 a1_1, .slice A1_2 l1_2.length c1_2]) ?_ 2 _ rfl; (with_reducible repeat (first | refine blk_drewN ?_ _ | refine blk_drew ?_ | refine blk_alloc ?_ _)); exact BK181.out) hb); have n7_ := Aside0.mk (below_step (by repeat (first | (with_reducible first | exact HB.out | apply below_alloc | apply pw_below_drewN | apply below_drew1 | refine below_set ?_ GE168.out | refine below_set ?_ GE169.out | refine below_set ?_ GE174.out | refine below_set ?_ GE181.out) | exact HB.out)) hb); clear HO_170002; clear HO_175002; clear HO186; clear BK168; clear BK169; clear BK174; clear BK181; clear HB; have HO_170002 := n0_; have HO_175002 := n1_; have HO186 := n2_; have BK168 := n3_; have BK169 := n4_; have BK174 := n5_; have BK181 := n6_; have HB := n7_; clear n0_ n1_ n2_ n3_ n4_ n5_ n6_ n7_; (try clear hb); (try clear hb2); (try clear hk); (try clear hi)))
                   go_ret
                   exact ⟨by first | rfl | (simp [errW_none, errW_some] <;> rfl) | (simp only [← hji86]; first | rfl | (simp [errW_none, errW_some] <;> rfl)) | (simp [*, errW_none, errW_some] <;> rfl), by repeat (first | (with_reducible first | exact HB.out | apply below_alloc | apply pw_below_drewN | apply below_drew1 | refine below_set ?_ GE168.out | refine below_set ?_ GE169.out | refine below_set ?_ GE174.out | refine below_set ?_ GE181.out) | exact HB.out)⟩
                 ·rw [if_neg c90] at H
                  have c90b0 : (t187 == 0) = false := beq_eq_false_iff_ne.mpr c90
                  have c90b1 : (t187 != 0) = true := bne_iff_ne.mpr c90
                  by_cases c107 : (y182.length : Int) = 0
                  ·rw [if_pos c107] at H
                   have c107b0 : ((y182.length : Int) == 0) = true := beq_iff_eq.mpr c107
                   have c107b1 : ((y182.length : Int) != 0) = false := bne_eq_false_iff_eq.mpr c107
                   clear c107
                   replace H := Option.bind_eq_some_iff.mp H
                   obtain ⟨t188, A1080, H⟩ := H
                   replace H : (some (t188 == 7)) = some r := H
                   have A108 := Aside0.mk A1080
                   clear A1080
                   have E_ := A89.out.symm.trans A108.out
                   replace E_ := Option.some.inj E_
                   subst E_
                   first | (exfalso; rw [hr_.out] at H; exact absurd (Option.some.inj H) (by decide)) | (try clear hr_)
                   all_goals
                    obtain rfl := Option.some.inj H
                    have hnb109 := NB169_168.out
                    have hnc109 := NB168_169.out
                    have hnb110 := NB169_174.out
                    have hnc110 := NB174_169.out
                    have hcz111_0 : wc.cell? ⟨gb169, 0, none⟩ = some (.int .i64 a1_0) := (blk_cell BK169.out 0).trans rfl
                    have hcz111_1 : wc.cell? ⟨gb169, 1, none⟩ = some (.int .u32 a1_1) := (blk_cell BK169.out 1).trans rfl
                    have hcz111_2 : wc.cell? ⟨gb169, 2, none⟩ = some (.slice A1_2 l1_2.length c1_2) := (blk_cell BK169.out 2).trans rfl
                    have hfz111_0 := blk_frozen BK169.out 0
                    have hfz111_1 := blk_frozen BK169.out 1
                    have hfz111_2 := blk_frozen BK169.out 2
                    try go_wp2_with (first | ((with_reducible refine gate_dst (N := 10) rfl ?_); (try (refine gate_guard (by rfl) ?_; dsimp only)); refine box_event ?hg (N := 10) ?hd (cs := #[.int .i64 0, .int .u32 0, .slice none 0 0]) (t := 30) ?hr ?_; (case hd => rfl); (case hg => rfl); (case hr => first | (go_simp; done) | (go_simp; rfl)); intro gb181 hg w112 hbox hb; have n0_ := Aside0.mk (Kd.V_below (Kd.V_elderB (by (with_reducible repeat (first | apply Kd.V_alloc | apply Kd.V_drewN | apply Kd.V_drew)); exact HO_170002.out) gb181 (Nat.le_of_eq hg.symm)) hb); have n1_ := Aside0.mk (Kd.V_below (Kd.V_elderB (by (with_reducible repeat (first | apply Kd.V_alloc | apply Kd.V_drewN | apply Kd.V_drew)); exact HO_175002.out) gb181 (Nat.le_of_eq hg.symm)) hb); have n2_ := Aside0.mk (blk_below (g := gb168) (o := .cells #[.int .u32 a0_0, .int .i64 a0_1, .slice A0_2 l0_2.length c0_2, .int .i64 a0_3, .int .i64 a0_4, .int .i64 a0_5, .int .i64 a0_6] 27 (0, 0)) (by (with_reducible repeat (first | refine blk_drewN ?_ _ | refine blk_drew ?_ | refine blk_alloc ?_ _)); exact BK168.out) hb); have n3_ := Aside0.mk (blk_below (g := gb169) (o := .cells #[.int .i64 a1_0, .int .u32 a1_1, .slice A1_2 l1_2.length c1_2] 30 (0, 0)) (by (with_reducible repeat (first | refine blk_drewN ?_ _ | refine blk_drew ?_ | refine blk_alloc ?_ _)); exact BK169.out) hb); have n4_ := Aside0.mk (blk_below (g := gb174) (o := .cells #[.int .i64 a1_0, .int .u32 x175001_48, .slice Ao71 x175002_53.length co71] 30 (0, 0)) (by (with_reducible repeat (first | refine blk_drewN ?_ _ | refine blk_drew ?_ | refine blk_alloc ?_ _)); exact BK174.out) hb); have n5_ := Aside0.mk (below_step (by repeat (first | (with_reducible first | exact HB.out | apply below_alloc | apply pw_below_drewN | apply below_drew1 | refine below_set ?_ GE168.out | refine below_set ?_ GE169.out | refine below_set ?_ GE174.out) | exact HB.out)) hb); have n6_ := Aside0.mk (hbox); have n7_ := Aside0.mk ((by rw [hg]; exact (below_size (by repeat (first | (with_reducible first | exact HB.out | apply below_alloc | apply pw_below_drewN | apply below_drew1 | refine below_set ?_ GE168.out | refine below_set ?_ GE169.out | refine below_set ?_ GE174.out) | exact HB.out))) : w.heap.size ≤ gb181)); have n8_ := Aside0.mk ((by rw [hg]; exact (below_size (by repeat (first | (with_reducible first | exact HB.out | apply below_alloc | apply pw_below_drewN | apply below_drew1 | refine below_set ?_ GE168.out | refine below_set ?_ GE169.out | refine below_set ?_ GE174.out) | exact HB.out))) : w.heap.size ≤ gb181)); have n9_ := Aside0.mk ((by rw [hg]; exact Nat.ne_of_lt (blk_lt (g := gb168) (o := .cells #[.int .u32 a0_0, .int .i64 a0_1, .slice A0_2 l0_2.length c0_2, .int .i64 a0_3, .int .i64 a0_4, .int .i64 a0_5, .int .i64 a0_6] 27 (0, 0)) (by (with_reducible repeat (first | refine blk_drewN ?_ _ | refine blk_drew ?_ | refine blk_alloc ?_ _)); exact BK168.out)) : gb168 ≠ gb181)); have n10_ := Aside0.mk ((by rw [hg]; exact Nat.ne_of_gt (blk_lt (g := gb168) (o := .cells #[.int .u32 a0_0, .int .i64 a0_1, .slice A0_2 l0_2.length c0_2, .int .i64 a0_3, .int .i64 a0_4, .int .i64 a0_5, .int .i64 a0_6] 27 (0, 0)) (by (with_reducible repeat (first | refine blk_drewN ?_ _ | refine blk_drew ?_ | refine blk_alloc ?_ _)); exact BK168.out)) : gb181 ≠ gb168)); have n11_ := Aside0.mk ((by rw [hg]; exact Nat.ne_of_lt (blk_lt (g := gb169) (o := .cells #[.int .i64 a1_0, .int .u32 a1_1, .slice A1_2 l1_2.length c1_2] 30 (0, 0)) (by (with_reducible repeat (first | refine blk_drewN ?_ _ | refine blk_drew ?_ | refine blk_alloc ?_ _)); exact BK169.out)) : gb169 ≠ gb181)); have n12_ := Aside0.mk ((by rw [hg]; exact Nat.ne_of_gt (blk_lt (g := gb169) (o := .cells #[.int .i64 a1_0, .int .u32 a1_1, .slice A1_2 l1_2.length c1_2] 30 (0, 0)) (by (with_reducible repeat (first | refine blk_drewN ?_ _ | refine blk_drew ?_ | refine blk_alloc ?_ _)); exact BK169.out)) : gb181 ≠ gb169)); have n13_ := Aside0.mk ((by rw [hg]; exact Nat.ne_of_lt (blk_lt (g := gb174) (o := .cells #[.int .i64 a1_0, .int .u32 x175001_48, .slice Ao71 x175002_53.length co71] 30 (0, 0)) (by (with_reducible repeat (first | refine blk_drewN ?_ _ | refine blk_drew ?_ | refine blk_alloc ?_ _)); exact BK174.out)) : gb174 ≠ gb181)); have n14_ := Aside0.mk ((by rw [hg]; exact Nat.ne_of_gt (blk_lt (g := gb174) (o := .cells #[.int .i64 a1_0, .int .u32 x175001_48, .slice Ao71 x175002_53.length co71] 30 (0, 0)) (by (with_reducible repeat (first | refine blk_drewN ?_ _ | refine blk_drew ?_ | refine blk_alloc ?_ _)); exact BK174.out)) : gb181 ≠ gb174)); clear HO_170002; clear HO_175002; clear BK168; clear BK169; clear BK174; clear HB; have HO_170002 := n0_; have HO_175002 := n1_; have BK168 := n2_; have BK169 := n3_; have BK174 := n4_; have HB := n5_; have BK181 := n6_; have GW181 := n7_; have GE181 := n8_; have NB168_181 := n9_; have NB181_168 := n10_; have NB169_181 := n11_; have NB181_169 := n12_; have NB174_181 := n13_; have NB181_174 := n14_; clear n0_ n1_ n2_ n3_ n4_ n5_ n6_ n7_ n8_ n9_ n10_ n11_ n12_ n13_ n14_; clear hb hbox hg; have hnb113 := NB181_168.out; have hnc113 := NB168_181.out; have hnb114 := NB181_169.out; have hnc114 := NB169_181.out; have hnb115 := NB181_174.out; have hnc115 := NB174_181.out; have hcz116_0 : w112.cell? ⟨gb181, 0, none⟩ = some (.int .i64 0) := (blk_cell BK181.out 0).trans rfl; have hcz116_1 : w112.cell? ⟨gb181, 1, none⟩ = some (.int .u32 0) := (blk_cell BK181.out 1).trans rfl; have hcz116_2 : w112.cell? ⟨gb181, 2, none⟩ = some (.slice none 0 0) := (blk_cell BK181.out 2).trans rfl; have hfz116_0 := blk_frozen BK181.out 0; have hfz116_1 := blk_frozen BK181.out 1; have hfz116_2 := blk_frozen BK181.out 2))
                    have n0_ : Aside0 (Kd.V (Kd.int .u32) 22 (((w112.setCell ⟨gb181, 0, none⟩ (.int .i64 a1_0)).setCell ⟨gb181, 1, none⟩ (.int .u32 a1_1)).setCell ⟨gb181, 2, none⟩ (.slice A1_2 l1_2.length c1_2)) w.heap.size (fun k_ => (P1_2_ k_ ∨ w.heap.size ≤ k_) ∧ k_ ≠ gb168 ∧ k_ ≠ gb169 ∧ k_ ≠ gb174 ∧ k_ ≠ gb181) (.slice A1_2 l1_2.length c1_2) l1_2) := ⟨by (with_reducible repeat (first | apply Kd.V_alloc | apply Kd.V_drewN | apply Kd.V_drew)); exact Kd.V_mono (Kd.V_far (p := ⟨gb181, 2, none⟩) (Kd.V_far (p := ⟨gb181, 1, none⟩) (Kd.V_far (p := ⟨gb181, 0, none⟩) (Kd.V_mono HO_170002.out (fun k_ hk => (⟨hk, hk.2⟩ : _ ∧ k_ ≠ gb181))) (fun _ hk => hk.2) (.int .i64 a1_0)) (fun _ hk => hk.2) (.int .u32 a1_1)) (fun _ hk => hk.2) (.slice A1_2 l1_2.length c1_2)) (fun _ hk => ⟨hk.1.1.1, ⟨hk.1.1.2.1, ⟨hk.1.1.2.2.1, ⟨hk.1.1.2.2.2, hk.1.2⟩⟩⟩⟩)⟩
                    have n1_ : Aside0 (Kd.V (Kd.int .u32) 22 (((w112.setCell ⟨gb181, 0, none⟩ (.int .i64 a1_0)).setCell ⟨gb181, 1, none⟩ (.int .u32 a1_1)).setCell ⟨gb181, 2, none⟩ (.slice A1_2 l1_2.length c1_2)) w.heap.size (fun k_ => (P1_2_ k_ ∨ w.heap.size ≤ k_) ∧ k_ ≠ gb168 ∧ k_ ≠ gb169 ∧ k_ ≠ gb174 ∧ k_ ≠ gb181) (.slice Ao71 x175002_53.length co71) x175002_53) := ⟨by (with_reducible repeat (first | apply Kd.V_alloc | apply Kd.V_drewN | apply Kd.V_drew)); exact Kd.V_mono (Kd.V_far (p := ⟨gb181, 2, none⟩) (Kd.V_far (p := ⟨gb181, 1, none⟩) (Kd.V_far (p := ⟨gb181, 0, none⟩) (Kd.V_mono HO_175002.out (fun k_ hk => (⟨hk, hk.2⟩ : _ ∧ k_ ≠ gb181))) (fun _ hk => hk.2) (.int .i64 a1_0)) (fun _ hk => hk.2) (.int .u32 a1_1)) (fun _ hk => hk.2) (.slice A1_2 l1_2.length c1_2)) (fun _ hk => ⟨hk.1.1.1, ⟨hk.1.1.2.1, ⟨hk.1.1.2.2.1, ⟨hk.1.1.2.2.2, hk.1.2⟩⟩⟩⟩)⟩
                    have n2_ : Aside0 ((((w112.setCell ⟨gb181, 0, none⟩ (.int .i64 a1_0)).setCell ⟨gb181, 1, none⟩ (.int .u32 a1_1)).setCell ⟨gb181, 2, none⟩ (.slice A1_2 l1_2.length c1_2)).heap[gb168]? = some (.cells #[.int .u32 a0_0, .int .i64 a0_1, .slice A0_2 l0_2.length c0_2, .int .i64 a0_3, .int .i64 a0_4, .int .i64 a0_5, .int .i64 a0_6] 27 (0, 0))) := ⟨by (with_reducible repeat (first | refine blk_drewN ?_ _ | refine blk_drew ?_ | refine blk_alloc ?_ _)); refine blk_far ?_ NB168_181.out _; (with_reducible repeat (first | refine blk_drewN ?_ _ | refine blk_drew ?_ | refine blk_alloc ?_ _)); refine blk_far ?_ NB168_181.out _; (with_reducible repeat (first | refine blk_drewN ?_ _ | refine blk_drew ?_ | refine blk_alloc ?_ _)); refine blk_far ?_ NB168_181.out _; (with_reducible repeat (first | refine blk_drewN ?_ _ | refine blk_drew ?_ | refine blk_alloc ?_ _)); exact BK168.out⟩
                    have n3_ : Aside0 ((((w112.setCell ⟨gb181, 0, none⟩ (.int .i64 a1_0)).setCell ⟨gb181, 1, none⟩ (.int .u32 a1_1)).setCell ⟨gb181, 2, none⟩ (.slice A1_2 l1_2.length c1_2)).heap[gb169]? = some (.cells #[.int .i64 a1_0, .int .u32 a1_1, .slice A1_2 l1_2.length c1_2] 30 (0, 0))) := ⟨by (with_reducible repeat (first | refine blk_drewN ?_ _ | refine blk_drew ?_ | refine blk_alloc ?_ _)); refine blk_far ?_ NB169_181.out _; (with_reducible repeat (first | refine blk_drewN ?_ _ | refine blk_drew ?_ | refine blk_alloc ?_ _)); refine blk_far ?_ NB169_181.out _; (with_reducible repeat (first | refine blk_drewN ?_ _ | refine blk_drew ?_ | refine blk_alloc ?_ _)); refine blk_far ?_ NB169_181.out _; (with_reducible repeat (first | refine blk_drewN ?_ _ | refine blk_drew ?_ | refine blk_alloc ?_ _)); exact BK169.out⟩
                    have n4_ : Aside0 ((((w112.setCell ⟨gb181, 0, none⟩ (.int .i64 a1_0)).setCell ⟨gb181, 1, none⟩ (.int .u32 a1_1)).setCell ⟨gb181, 2, none⟩ (.slice A1_2 l1_2.length c1_2)).heap[gb174]? = some (.cells #[.int .i64 a1_0, .int .u32 x175001_48, .slice Ao71 x175002_53.length co71] 30 (0, 0))) := ⟨by (with_reducible repeat (first | refine blk_drewN ?_ _ | refine blk_drew ?_ | refine blk_alloc ?_ _)); refine blk_far ?_ NB174_181.out _; (with_reducible repeat (first | refine blk_drewN ?_ _ | refine blk_drew ?_ | refine blk_alloc ?_ _)); refine blk_far ?_ NB174_181.out _; (with_reducible repeat (first | refine blk_drewN ?_ _ | refine blk_drew ?_ | refine blk_alloc ?_ _)); refine blk_far ?_ NB174_181.out _; (with_reducible repeat (first | refine blk_drewN ?_ _ | refine blk_drew ?_ | refine blk_alloc ?_ _)); exact BK174.out⟩
                    have n5_ : Aside0 ((((w112.setCell ⟨gb181, 0, none⟩ (.int .i64 a1_0)).setCell ⟨gb181, 1, none⟩ (.int .u32 a1_1)).setCell ⟨gb181, 2, none⟩ (.slice A1_2 l1_2.length c1_2)).heap[gb181]? = some (.cells #[.int .i64 a1_0, .int .u32 a1_1, .slice A1_2 l1_2.length c1_2] 30 (0, 0))) := ⟨by (with_reducible repeat (first | refine blk_drewN ?_ _ | refine blk_drew ?_ | refine blk_alloc ?_ _)); refine blk_put (cs := #[.int .i64 a1_0, .int .u32 a1_1, .slice none 0 0]) ?_ 2 _ rfl; (with_reducible repeat (first | refine blk_drewN ?_ _ | refine blk_drew ?_ | refine blk_alloc ?_ _)); refine blk_put (cs := #[.int .i64 a1_0, .int .u32 0, .slice none 0 0]) ?_ 1 _ rfl; (with_reducible repeat (first | refine blk_drewN ?_ _ | refine blk_drew ?_ | refine blk_alloc ?_ _)); refine blk_put (cs := #[.int .i64 0, .int .u32 0, .slice none 0 0]) ?_ 0 _ rfl; (with_reducible repeat (first | refine blk_drewN ?_ _ | refine blk_drew ?_ | refine blk_alloc ?_ _)); exact BK181.out⟩
                    have n6_ : Aside0 (Below w.heap.size w (((w112.setCell ⟨gb181, 0, none⟩ (.int .i64 a1_0)).setCell ⟨gb181, 1, none⟩ (.int .u32 a1_1)).setCell ⟨gb181, 2, none⟩ (.slice A1_2 l1_2.length c1_2))) := ⟨by repeat (first | (with_reducible first | exact HB.out | apply below_alloc | apply pw_below_drewN | apply below_drew1 | refine below_set ?_ GE168.out | refine below_set ?_ GE169.out | refine below_set ?_ GE174.out | refine below_set ?_ GE181.out) | exact HB.out)⟩
                    (try clear HO_170002)
                    (try clear HO_175002)
                    (try clear BK168)
                    (try clear BK169)
                    (try clear BK174)
                    (try clear BK181)
                    (try clear HB)
                    generalize (((w112.setCell ⟨gb181, 0, none⟩ (.int .i64 a1_0)).setCell ⟨gb181, 1, none⟩ (.int .u32 a1_1)).setCell ⟨gb181, 2, none⟩ (.slice A1_2 l1_2.length c1_2)) = w117 at n0_ n1_ n2_ n3_ n4_ n5_ n6_ ⊢
                    have HO_170002 := n0_
                    have HO_175002 := n1_
                    have BK168 := n2_
                    have BK169 := n3_
                    have BK174 := n4_
                    have BK181 := n5_
                    have HB := n6_
                    clear n0_ n1_ n2_ n3_ n4_ n5_ n6_
                    have n0_ := Aside0.mk (Kd.V_drew HO_170002.out)
                    have n1_ := Aside0.mk (Kd.V_drew HO_175002.out)
                    have n2_ := Aside0.mk (blk_drew BK168.out)
                    have n3_ := Aside0.mk (blk_drew BK169.out)
                    have n4_ := Aside0.mk (blk_drew BK174.out)
                    have n5_ := Aside0.mk (blk_drew BK181.out)
                    have n6_ := Aside0.mk (below_drew1 HB.out)
                    clear HO_170002
                    clear HO_175002
                    clear BK168
                    clear BK169
                    clear BK174
                    clear BK181
                    clear HB
                    have HO_170002 := n0_
                    have HO_175002 := n1_
                    have BK168 := n2_
                    have BK169 := n3_
                    have BK174 := n4_
                    have BK181 := n5_
                    have HB := n6_
                    clear n0_ n1_ n2_ n3_ n4_ n5_ n6_
                    (try clear hcut101)
                    have q119 : ((ji86) : Int) ≤ ((l1_2.length : Int) : Int) := od_
                    obtain ⟨i0119, hi0119, _, hsz119, _⟩ := info_parts info22
                    have hroom119 : l1_2.length ≤ c1_2 := (Kd.V_reads' HO_170002.out).2.1
                    have hC119 : Kd.F (Kd.int .u32) _ _ A1_2 l1_2.length l1_2 := (Kd.V_at (base := w.heap.size) HO_170002.out).2.2
                    have hcut119 := cut_to (P := Tryd.prog) 28 22 .i64 Tryd.underlying28 hi0119 A1_2 l1_2.length c1_2 (ji86) od_ q119 hroom119
                    have hr119 := Kd.F_take (m := ((ji86) : Int).toNat) hC119 (by omega)
                    have hy119 : y182.length = ((ji86) : Int).toNat := (by rw [Ny182.out, List.length_take]; omega)
                    rw [← Ny182.out] at hr119
                    rw [← hy119] at hcut119
                    have HO186 := Aside0.mk (show Kd.V (Kd.int .u32) 22 _ w.heap.size _ (.slice A1_2 y182.length c1_2) y182 from Kd.V_mk (by omega) hr119)
                    have HC186 := Aside0.mk (show y182.length ≤ c1_2 from by omega)
                    clear hr119 hC119 hroom119 hi0119 hsz119
                    have KY119 := Aside0.mk hy119
                    clear hy119
                    replace q119 := eq_true q119
                    refine start_ (n := 12) (S := fun w' => w'.cell? ⟨gb169, 0, none⟩ = some (.int .i64 a1_0) ∧ w'.cell? ⟨gb169, 1, none⟩ = some (.int .u32 a1_1) ∧ w'.cell? ⟨gb169, 2, none⟩ = some (.slice A1_2 l1_2.length c1_2)) (ds := []) #[false, false, false, false, false, false, false, false, false, false, false, false] (by kernel_rfl) rfl rfl ⟨(blk_cell BK169.out 0).trans rfl, (blk_cell BK169.out 1).trans rfl, (blk_cell BK169.out 2).trans rfl⟩ (fun hHeld => ?_); refine with_tabW lodgerlaw10_AskOthers.tab13 lodgerlaw10_AskOthers.bits13 (fun HT_ HW_ => ?_)
                    generalize w117.drew = w118 at HO_170002 HO_175002 BK168 BK169 BK174 BK181 HB HO186 hHeld ⊢
                    refine pu_ (i := 0) (N := some 69) (tf 12 1) HT_ ?_
                    refine pu_ (i := 2) (N := some 71) (tf 12 5) HT_ ?_
                    refine pu_ (i := 3) (N := some 72) (tf 12 13) HT_ ?_
                    refine pu_ (i := 4) (N := some 73) (tf 12 29) HT_ ?_
                    refine tk_ (i := 1) (N := some 70) (tf 12 31) rfl rfl HT_ HW_ hHeld (by rintro w' ⟨s0, s1, s2⟩; go_simp; with_reducible rfl) ?_
                    refine tk_ (i := 5) (N := some 74) (tf 12 63) rfl rfl HT_ HW_ hHeld (by rintro w' ⟨s0, s1, s2⟩; go_simp; with_reducible rfl) ?_
                    refine pu_ (i := 6) (N := some 75) (tf 12 127) HT_ ?_
                    refine pu_ (i := 7) (N := some 76) (tf 12 255) HT_ ?_
                    refine pu_ (i := 8) (N := some 77) (tf 12 511) HT_ ?_
                    refine pu_ (i := 9) (N := some 78) (tf 12 1023) HT_ ?_
                    refine pu_ (i := 10) (N := some 79) (tf 12 2047) HT_ ?_
                    refine one_ (i := 11) (N := none) #[true, true, true, true, true, true, true, true, true, true, true, true] rfl rfl (one_of HT_.out (by kernel_rfl)) (by decide) (fun K hK => ?_)
                    have hs120 : w118.cell? ⟨gb181, 2, none⟩ = some (.slice A1_2 l1_2.length c1_2) := (blk_cell BK181.out 2).trans rfl
                    have hfs120 := blk_frozen BK181.out 2
                    have hns120_0 := NB168_181.out
                    have hns120_1 := NB169_181.out
                    have hns120_2 := NB174_181.out
                    have hms120_0 := NB181_168.out
                    have hms120_1 := NB181_169.out
                    have hms120_2 := NB181_174.out
                    refine skip_ (w1 := ?_) (by rfl) rfl ?_ ?_
                    rotate_left
                    ·go_simp
                     rfl
                    refine hK.out _ _ ⟨((cell_far (p := ⟨gb181, _, none⟩) NB169_181.out _).trans (hHeld.1)), ((cell_far (p := ⟨gb181, _, none⟩) NB169_181.out _).trans (hHeld.2.1)), ((cell_far (p := ⟨gb181, _, none⟩) NB169_181.out _).trans (hHeld.2.2))⟩ (fun hHeld => ?_)
                    clear hK K
                    refine done_ (done_of HT_.out (by kernel_rfl)) ?_
                    have hnb121 := NB168_174.out
                    have hnc121 := NB174_168.out
                    have hcz122_0 : w118.cell? ⟨gb168, 0, none⟩ = some (.int .u32 a0_0) := (blk_cell BK168.out 0).trans rfl
                    have hcz122_1 : w118.cell? ⟨gb168, 1, none⟩ = some (.int .i64 a0_1) := (blk_cell BK168.out 1).trans rfl
                    have hcz122_2 : w118.cell? ⟨gb168, 2, none⟩ = some (.slice A0_2 l0_2.length c0_2) := (blk_cell BK168.out 2).trans rfl
                    have hcz122_3 : w118.cell? ⟨gb168, 3, none⟩ = some (.int .i64 a0_3) := (blk_cell BK168.out 3).trans rfl
                    have hcz122_4 : w118.cell? ⟨gb168, 4, none⟩ = some (.int .i64 a0_4) := (blk_cell BK168.out 4).trans rfl
                    have hcz122_5 : w118.cell? ⟨gb168, 5, none⟩ = some (.int .i64 a0_5) := (blk_cell BK168.out 5).trans rfl
                    have hcz122_6 : w118.cell? ⟨gb168, 6, none⟩ = some (.int .i64 a0_6) := (blk_cell BK168.out 6).trans rfl
                    have hfz122_0 := blk_frozen BK168.out 0
                    have hfz122_1 := blk_frozen BK168.out 1
                    have hfz122_2 := blk_frozen BK168.out 2
                    have hfz122_3 := blk_frozen BK168.out 3
                    have hfz122_4 := blk_frozen BK168.out 4
                    have hfz122_5 := blk_frozen BK168.out 5
                    have hfz122_6 := blk_frozen BK168.out 6
                    have hcz123_0 : w118.cell? ⟨gb181, 0, none⟩ = some (.int .i64 a1_0) := (blk_cell BK181.out 0).trans rfl
                    have hcz123_1 : w118.cell? ⟨gb181, 1, none⟩ = some (.int .u32 a1_1) := (blk_cell BK181.out 1).trans rfl
                    have hcz123_2 : w118.cell? ⟨gb181, 2, none⟩ = some (.slice A1_2 l1_2.length c1_2) := (blk_cell BK181.out 2).trans rfl
                    have hfz123_0 := blk_frozen BK181.out 0
                    have hfz123_1 := blk_frozen BK181.out 1
                    have hfz123_2 := blk_frozen BK181.out 2
                    try go_wp2_with (first | ((with_reducible refine gate_callee (f := 11) rfl ?_); refine goesL_ (some 82) rfl rfl Tryd.func11 (by kernel_rfl) rfl #[.agg #[.int .u32 a0_0, .int .i64 a0_1, .slice A0_2 l0_2.length c0_2, .int .i64 a0_3, .int .i64 a0_4, .int .i64 a0_5, .int .i64 a0_6], .agg #[.int .i64 a1_0, .int .u32 a1_1, .slice A1_2 y182.length c1_2]] rfl (by (try simp only [List.map_toArray, List.map_cons, List.map_nil]); first | done | rfl | (simp only [List.length_drop, List.length_take]; rfl)) ?_; (with_reducible refine (ask_Check.calls kj67 a0_0 a0_1 _ _ l0_2 a0_3 a0_4 a0_5 a0_6 a1_0 a1_1 _ _ y182 t187 _ ?side1 ?side2 ?side3 ?side4 ?side5 A89.out).mono ?_); (case side1 => exact Kd.C_below HR0_2.out (by repeat (first | (with_reducible first | exact HB.out | apply below_alloc | apply pw_below_drewN | apply below_drew1 | refine below_set ?_ GE168.out | refine below_set ?_ GE169.out | refine below_set ?_ GE174.out | refine below_set ?_ GE181.out) | exact HB.out))); (case side2 => exact HC0_2.out); (case side3 => refine (Kd.V_reads' (e := 22) (base := w.heap.size) (ok := fun k_ => ((P1_2_ k_ ∨ w.heap.size ≤ k_) ∧ (k_ ≠ gb168 ∧ (k_ ≠ gb169 ∧ (k_ ≠ gb174 ∧ k_ ≠ gb181))))) (n := y182.length) (c := c1_2) ?_).2.2; exact (by (with_reducible repeat (first | apply Kd.V_alloc | apply Kd.V_drewN | apply Kd.V_drew)); exact (Kd.V_mono (Kd.V_far (p := ⟨gb181, 2, none⟩) (Kd.V_mono HO186.out (fun k_ hk => (⟨hk, hk.2.2.2.2⟩ : _ ∧ k_ ≠ gb181))) (fun _ hk => hk.2) (.slice A1_2 y182.length c1_2)) (fun _ h_ => h_.1)))); (case side4 => exact (Kd.V_reads' HO186.out).2.1); (case side5 => exact Lg_below HG.out (by repeat (first | (with_reducible first | exact HB.out | apply below_alloc | apply pw_below_drewN | apply below_drew1 | refine below_set ?_ GE168.out | refine below_set ?_ GE169.out | refine below_set ?_ GE174.out | refine below_set ?_ GE181.out) | exact HB.out))); rintro e w124 ⟨rfl, hb⟩; refine ⟨_, rfl, ?_⟩; have n0_ := Aside0.mk (Kd.V_below (by (with_reducible repeat (first | apply Kd.V_alloc | apply Kd.V_drewN | apply Kd.V_drew)); exact (Kd.V_mono (Kd.V_far (p := ⟨gb181, 2, none⟩) (Kd.V_mono HO_170002.out (fun k_ hk => (⟨hk, hk.2.2.2.2⟩ : _ ∧ k_ ≠ gb181))) (fun _ hk => hk.2) (.slice A1_2 y182.length c1_2)) (fun _ h_ => h_.1))) hb); have n1_ := Aside0.mk (Kd.V_below (by (with_reducible repeat (first | apply Kd.V_alloc | apply Kd.V_drewN | apply Kd.V_drew)); exact (Kd.V_mono (Kd.V_far (p := ⟨gb181, 2, none⟩) (Kd.V_mono HO_175002.out (fun k_ hk => (⟨hk, hk.2.2.2.2⟩ : _ ∧ k_ ≠ gb181))) (fun _ hk => hk.2) (.slice A1_2 y182.length c1_2)) (fun _ h_ => h_.1))) hb); have n2_ := Aside0.mk (Kd.V_below (by (with_reducible repeat (first | apply Kd.V_alloc | apply Kd.V_drewN | apply Kd.V_drew)); exact (Kd.V_mono (Kd.V_far (p := ⟨gb181, 2, none⟩) (Kd.V_mono HO186.out (fun k_ hk => (⟨hk, hk.2.2.2.2⟩ : _ ∧ k_ ≠ gb181))) (fun _ hk => hk.2) (.slice A1_2 y182.length c1_2)) (fun _ h_ => h_.1))) hb); have n3_ := Aside0.mk (blk_below (g := gb168) (o := .cells #[.int .u32 a0_0, .int .i64 a0_1, .slice A0_2 l0_2.length c0_2, .int .i64 a0_3, .int .i64 a0_4, .int .i64 a0_5, .int .i64 a0_6] 27 (0, 0)) (by (with_reducible repeat (first | refine blk_drewN ?_ _ | refine blk_drew ?_ | refine blk_alloc ?_ _)); refine blk_far ?_ NB168_181.out _; (with_reducible repeat (first | refine blk_drewN ?_ _ | refine blk_drew ?_ | refine blk_alloc ?_ _)); exact BK168.out) hb); have n4_ := Aside0.mk (blk_below (g := gb169) (o := .cells #[.int .i64 a1_0, .int .u32 a1_1, .slice A1_2 l1_2.length c1_2] 30 (0, 0)) (by (with_reducible repeat (first | refine blk_drewN ?_ _ | refine blk_drew ?_ | refine blk_alloc ?_ _)); refine blk_far ?_ NB169_181.out _; (with_reducible repeat (first | refine blk_drewN ?_ _ | refine blk_drew ?_ | refine blk_alloc ?_ _)); exact BK169.out) hb); have n5_ := Aside0.mk (blk_below (g := gb174) (o := .cells #[.int .i64 a1_0, .int .u32 x175001_48, .slice Ao71 x175002_53.length co71] 30 (0, 0)) (by (with_reducible repeat (first | refine blk_drewN ?_ _ | refine blk_drew ?_ | refine blk_alloc ?_ _)); refine blk_far ?_ NB174_181.out _; (with_reducible repeat (first | refine blk_drewN ?_ _ | refine blk_drew ?_ | refine blk_alloc ?_ _)); exact BK174.out) hb); have n6_ := Aside0.mk (blk_below (g := gb181) (o := .cells #[.int .i64 a1_0, .int .u32 a1_1, .slice A1_2 y182.length c1_2] 30 (0, 0)) (by (with_reducible repeat (first | refine blk_drewN ?_ _ | refine blk_drew ?_ | refine blk_alloc ?_ _)); refine blk_put (cs := #[.int .i64 a1_0, .int .u32 a1_1, .slice A1_2 l1_2.length c1_2]) ?_ 2 _ rfl; (with_reducible repeat (first | refine blk_drewN ?_ _ | refine blk_drew ?_ | refine blk_alloc ?_ _)); exact BK181.out) hb); have n7_ := Aside0.mk (below_step (by repeat (first | (with_reducible first | exact HB.out | apply below_alloc | apply pw_below_drewN | apply below_drew1 | refine below_set ?_ GE168.out | refine below_set ?_ GE169.out | refine below_set ?_ GE174.out | refine below_set ?_ GE181.out) | exact HB.out)) hb); clear HO_170002; clear HO_175002; clear HO186; clear BK168; clear BK169; clear BK174; clear BK181; clear HB; have HO_170002 := n0_; have HO_175002 := n1_; have HO186 := n2_; have BK168 := n3_; have BK169 := n4_; have BK174 := n5_; have BK181 := n6_; have HB := n7_; clear n0_ n1_ n2_ n3_ n4_ n5_ n6_ n7_; (try clear hb); (try clear hb2); (try clear hk); (try clear hi); have hcz125_0 : w124.cell? ⟨gb181, 0, none⟩ = some (.int .i64 a1_0) := (blk_cell BK181.out 0).trans rfl; have hcz125_1 : w124.cell? ⟨gb181, 1, none⟩ = some (.int .u32 a1_1) := (blk_cell BK181.out 1).trans rfl; have hcz125_2 : w124.cell? ⟨gb181, 2, none⟩ = some (.slice A1_2 y182.length c1_2) := (blk_cell BK181.out 2).trans rfl; have hfz125_0 := blk_frozen BK181.out 0; have hfz125_1 := blk_frozen BK181.out 1; have hfz125_2 := blk_frozen BK181.out 2; have hcz126_0 : w124.cell? ⟨gb168, 0, none⟩ = some (.int .u32 a0_0) := (blk_cell BK168.out 0).trans rfl; have hcz126_1 : w124.cell? ⟨gb168, 1, none⟩ = some (.int .i64 a0_1) := (blk_cell BK168.out 1).trans rfl; have hcz126_2 : w124.cell? ⟨gb168, 2, none⟩ = some (.slice A0_2 l0_2.length c0_2) := (blk_cell BK168.out 2).trans rfl; have hcz126_3 : w124.cell? ⟨gb168, 3, none⟩ = some (.int .i64 a0_3) := (blk_cell BK168.out 3).trans rfl; have hcz126_4 : w124.cell? ⟨gb168, 4, none⟩ = some (.int .i64 a0_4) := (blk_cell BK168.out 4).trans rfl; have hcz126_5 : w124.cell? ⟨gb168, 5, none⟩ = some (.int .i64 a0_5) := (blk_cell BK168.out 5).trans rfl; have hcz126_6 : w124.cell? ⟨gb168, 6, none⟩ = some (.int .i64 a0_6) := (blk_cell BK168.out 6).trans rfl; have hfz126_0 := blk_frozen BK168.out 0; have hfz126_1 := blk_frozen BK168.out 1; have hfz126_2 := blk_frozen BK168.out 2; have hfz126_3 := blk_frozen BK168.out 3; have hfz126_4 := blk_frozen BK168.out 4; have hfz126_5 := blk_frozen BK168.out 5; have hfz126_6 := blk_frozen BK168.out 6) | (go_at_call 11; (with_reducible refine (ask_Check.calls kj67 a0_0 a0_1 _ _ l0_2 a0_3 a0_4 a0_5 a0_6 a1_0 a1_1 _ _ y182 t187 _ ?side1 ?side2 ?side3 ?side4 ?side5 A108.out).mono ?_); (case side1 => repeat (first | exact (Kd.C_below HR0_2.out HB.out) | (with_reducible refine Kd.C_alloc ?_ _) | (with_reducible refine Kd.C_drewN ?_ _) | (with_reducible refine Kd.C_drew ?_))); (case side2 => exact HC0_2.out); (case side3 => repeat (first | exact (Kd.V_reads' HO186.out).2.2 | (with_reducible refine Kd.C_alloc ?_ _) | (with_reducible refine Kd.C_drewN ?_ _) | (with_reducible refine Kd.C_drew ?_))); (case side4 => exact (Kd.V_reads' HO186.out).2.1); (case side5 => exact Lg_below HG.out (by repeat (first | (with_reducible first | exact HB.out | apply below_alloc | apply pw_below_drewN | apply below_drew1 | refine below_set ?_ GE168.out | refine below_set ?_ GE169.out | refine below_set ?_ GE174.out | refine below_set ?_ GE181.out) | exact HB.out))); rintro e w127 ⟨rfl, hb⟩; have n0_ := Aside0.mk (Kd.V_below (by (with_reducible repeat (first | apply Kd.V_alloc | apply Kd.V_drewN | apply Kd.V_drew)); exact HO_170002.out) hb); have n1_ := Aside0.mk (Kd.V_below (by (with_reducible repeat (first | apply Kd.V_alloc | apply Kd.V_drewN | apply Kd.V_drew)); exact HO_175002.out) hb); have n2_ := Aside0.mk (Kd.V_below (by (with_reducible repeat (first | apply Kd.V_alloc | apply Kd.V_drewN | apply Kd.V_drew)); exact HO186.out) hb); have n3_ := Aside0.mk (blk_below (g := gb168) (o := .cells #[.int .u32 a0_0, .int .i64 a0_1, .slice A0_2 l0_2.length c0_2, .int .i64 a0_3, .int .i64 a0_4, .int .i64 a0_5, .int .i64 a0_6] 27 (0, 0)) (by (with_reducible repeat (first | refine blk_drewN ?_ _ | refine blk_drew ?_ | refine blk_alloc ?_ _)); exact BK168.out) hb); have n4_ := Aside0.mk (blk_below (g := gb169) (o := .cells #[.int .i64 a1_0, .int .u32 a1_1, .slice A1_2 l1_2.length c1_2] 30 (0, 0)) (by (with_reducible repeat (first | refine blk_drewN ?_ _ | refine blk_drew ?_ | refine blk_alloc ?_ _)); exact BK169.out) hb); have n5_ := Aside0.mk (blk_below (g := gb174) (o := .cells #[.int .i64 a1_0, .int .u32 x175001_48, .slice Ao71 x175002_53.length co71] 30 (0, 0)) (by (with_reducible repeat (first | refine blk_drewN ?_ _ | refine blk_drew ?_ | refine blk_alloc ?_ _)); exact BK174.out) hb); have n6_ := Aside0.mk (blk_below (g := gb181) (o := .cells #[.int .i64 a1_0, .int .u32 a1_1, .slice A1_2 y182.length c1_2] 30 (0, 0)) (by (with_reducible repeat (first | refine blk_drewN ?_ _ | refine blk_drew ?_ | refine blk_alloc ?_ _)); exact BK181.out) hb); have n7_ := Aside0.mk (below_step (by repeat (first | (with_reducible first | exact HB.out | apply below_alloc | apply pw_below_drewN | apply below_drew1 | refine below_set ?_ GE168.out | refine below_set ?_ GE169.out | refine below_set ?_ GE174.out | refine below_set ?_ GE181.out) | exact HB.out)) hb); clear HO_170002; clear HO_175002; clear HO186; clear BK168; clear BK169; clear BK174; clear BK181; clear HB; have HO_170002 := n0_; have HO_175002 := n1_; have HO186 := n2_; have BK168 := n3_; have BK169 := n4_; have BK174 := n5_; have BK181 := n6_; have HB := n7_; clear n0_ n1_ n2_ n3_ n4_ n5_ n6_ n7_; (try clear hb); (try clear hb2); (try clear hk); (try clear hi)))
                    go_ret
                    exact ⟨by first | rfl | (simp [errW_none, errW_some] <;> rfl) | (simp only [← hji86]; first | rfl | (simp [errW_none, errW_some] <;> rfl)) | (simp [*, errW_none, errW_some] <;> rfl), by repeat (first | (with_reducible first | exact HB.out | apply below_alloc | apply pw_below_drewN | apply below_drew1 | refine below_set ?_ GE168.out | refine below_set ?_ GE169.out | refine below_set ?_ GE174.out | refine below_set ?_ GE181.out) | exact HB.out)⟩
                  ·rw [if_neg c107] at H
                   rw [hr_.out] at H
                   exact absurd (Option.some.inj H) (by decide)
                ·rw [if_neg c88] at H
                 exact absurd H (by simp)
               ·rw [if_neg c87] at H
                exact absurd H (by simp)
          ·rw [if_neg c67] at H
           rw [hr_.out] at H
           exact absurd (Option.some.inj H) (by decide)

/-- THE ONE PURE STATEMENT of lodgerlaw10_AskOthers: yours. -/
def lodgerlaw10_AskOthers.Pure : Prop := ∀ (a0_0 : Int) (a0_1 : Int) (l0_2 : List Int) (a0_3 : Int) (a0_4 : Int) (a0_5 : Int) (a0_6 : Int) (a1_0 : Int) (a1_1 : Int) (l1_2 : List Int) (a2 : Int) (a3 : Int), (Lit.int .u32 a0_0).wf = true → (Lit.int .i64 a0_1).wf = true → l0_2.length ≤ maxLen → (∀ x ∈ l0_2, (Lit.int .i64 x).wf = true) → (Lit.int .i64 a0_3).wf = true → (Lit.int .i64 a0_4).wf = true → (Lit.int .i64 a0_5).wf = true → (Lit.int .i64 a0_6).wf = true → (Lit.int .i64 a1_0).wf = true → (Lit.int .u32 a1_1).wf = true → l1_2.length ≤ maxLen → (∀ x ∈ l1_2, (Lit.int .u32 x).wf = true) → (Lit.int .u32 a2).wf = true → (Lit.int .u8 a3).wf = true → ∃ k, lodgerlaw10_AskOthers.f k a0_0 a0_1 l0_2 a0_3 a0_4 a0_5 a0_6 a1_0 a1_1 l1_2 a2 a3 = some true
theorem lodgerlaw10_AskOthers.came {w : World} {k : IntKind} {A : Option Addr} {c e base : Nat} {l : List Int} (hr : ReadsInt w k A l.length l) (hc : l.length ≤ c) : Kd.V (Kd.int k) e w base (fun k_ => k_ < w.heap.size) (.slice A l.length c) l := by
 refine Kd.V_mk hc (fun W' hW => Kd.C_of_reads (d := (0 : Int)) (h1 := fun _ => rfl) ⟨hr.1, hr.2.1, fun hn => ?_⟩)
 obtain ⟨ad, e, hcell⟩ := hr.2.2 hn
 refine ⟨ad, e, fun j hj => ?_⟩
 have h1 := hcell j hj
 have hlt := World.block_lt_of_cell? w _ h1
 rw [← h1]
 unfold World.cell?
 rw [hW _ hlt hlt]
theorem lodgerlaw10_AskOthers.walk (P : lodgerlaw10_AskOthers.Pure) (a0_0 : Int) (a0_1 : Int) (a0_2 : Option Addr) (len0_2 cap0_2 : Nat) (z0_2 : List Int) (a0_3 : Int) (a0_4 : Int) (a0_5 : Int) (a0_6 : Int) (a1_0 : Int) (a1_1 : Int) (a1_2 : Option Addr) (len1_2 cap1_2 : Nat) (z1_2 : List Int) (a2 : Int) (a3 : Int) (w : World) (w0_0 : (Lit.int .u32 a0_0).wf = true) (w0_1 : (Lit.int .i64 a0_1).wf = true) (w0_2 : (a0_2 = none ∧ len0_2 = 0 ∧ cap0_2 = 0 ∧ z0_2 = []) ∨ ∃ x, a0_2 = some x ∧ len0_2 ≤ cap0_2 ∧ cap0_2 ≤ maxLen ∧ z0_2.length = cap0_2 ∧ (∀ i, i < z0_2.length → w.cell? (x.add i) = some (.int .i64 (z0_2.getD i 0))) ∧ ∀ n ∈ z0_2, (Lit.int .i64 n).wf = true) (w0_3 : (Lit.int .i64 a0_3).wf = true) (w0_4 : (Lit.int .i64 a0_4).wf = true) (w0_5 : (Lit.int .i64 a0_5).wf = true) (w0_6 : (Lit.int .i64 a0_6).wf = true) (w1_0 : (Lit.int .i64 a1_0).wf = true) (w1_1 : (Lit.int .u32 a1_1).wf = true) (w1_2 : (a1_2 = none ∧ len1_2 = 0 ∧ cap1_2 = 0 ∧ z1_2 = []) ∨ ∃ x, a1_2 = some x ∧ len1_2 ≤ cap1_2 ∧ cap1_2 ≤ maxLen ∧ z1_2.length = cap1_2 ∧ (∀ i, i < z1_2.length → w.cell? (x.add i) = some (.int .u32 (z1_2.getD i 0))) ∧ ∀ n ∈ z1_2, (Lit.int .u32 n).wf = true) (w2 : (Lit.int .u32 a2).wf = true) (w3 : (Lit.int .u8 a3).wf = true) (hG : Lg w) :
  Calls Tryd.prog 5 #[.agg #[.int .u32 a0_0, .int .i64 a0_1, .slice a0_2 len0_2 cap0_2, .int .i64 a0_3, .int .i64 a0_4, .int .i64 a0_5, .int .i64 a0_6], .agg #[.int .i64 a1_0, .int .u32 a1_1, .slice a1_2 len1_2 cap1_2], .int .u32 a2, .int .u8 a3] w fun e w' => e = .returned (.bool true) ∧ Below w.heap.size w w' := by
 obtain ⟨l0_2, rfl, hr0_2, hm0_2, hw0_2, hc0_2⟩ := ReadsInt.ofRowC w0_2
 obtain ⟨l1_2, rfl, hr1_2, hm1_2, hw1_2, hc1_2⟩ := ReadsInt.ofRowC w1_2
 obtain ⟨k, h⟩ := P a0_0 a0_1 l0_2 a0_3 a0_4 a0_5 a0_6 a1_0 a1_1 l1_2 a2 a3 w0_0 w0_1 hm0_2 hw0_2 w0_3 w0_4 w0_5 w0_6 w1_0 w1_1 hm1_2 hw1_2 w2 w3
 refine (lodgerlaw10_AskOthers.calls k a0_0 a0_1 _ _ l0_2 a0_3 a0_4 a0_5 a0_6 a1_0 a1_1 _ _ _ l1_2 a2 a3 true w (Kd.C_of_reads (d := (0 : Int)) (h1 := fun _ => rfl) hr0_2) hc0_2 (lodgerlaw10_AskOthers.came hr1_2 hc1_2) hG rfl h).mono ?_
 rintro e w' ⟨rfl, hd⟩
 exact ⟨rfl, hd⟩

end Go.Proofs.YthfcgjmffjmplaaDoor.PAskOthers
